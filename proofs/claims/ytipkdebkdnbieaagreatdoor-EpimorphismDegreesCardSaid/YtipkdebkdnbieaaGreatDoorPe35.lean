/- Walk: epimorphism.Degrees of a planned set. (KEEPALL) Walk: law 37's few: out of XL37C. (KEEPALL) Walk: the law EpimorphismDegrees. (KEEPALL) A set of intervals that came in, read: its primes and its rows. (KEEPALL) A plan of chapter 37 that came in, read. (KEEPALL) -/
import Derived.Test.YtipkdebkdnbieaaGreatDoorPe34
import Derived.Test.YtipkdebkdnbieaaGreatDoorPe30
import Derived.Deep.RegionHeld3
import Derived.Test.YtipkdebkdnbieaaGreatDoorPe12
import Derived.ChangeSlices
import Derived.WideShapes
import Derived.ChangeShapes
import Derived.ChangeSame
import Derived.DataReads
import Derived.Deep.Matrix
import Derived.Test.YtipkdebkdnbieaaGreatDoorPe29
import Derived.OpenShut
import Derived.Laws.IdiomArrays
import Derived.Lib.SmallJoins
import Derived.Deep.Slices
set_option maxRecDepth 100000
set_option maxHeartbeats 4000000
namespace Go.Proofs.YtipkdebkdnbieaaGreatDoor
section
open Go.RowKit Go.Lib Go.Shelf
theorem zrL {n:Nat}:∀ {l:List (List Int)},zgi n l=0→∀ x∈l,zgh n x=0
 | [],_,x,hx=>by cases hx
 | y::l,h,x,hx=>by
  rw [zgi] at h;by_cases q:zgh n y ≠ 0
  ·rw [if_pos q] at h;exact absurd h q
  ·rw [if_neg q] at h;rcases List.mem_cons.1 hx with e | e
   ·rw [e];simpa using q
   ·exact zrL h x e
def zrM (v x:List Int):Bool:=decide (1000000000<ziT v x) || decide (ziT v x < -1000000000)
def zrN (v:List Int)(L:List (List Int))(i:Nat):List Int:=(List.range i).map fun j=>ziT v (L.getD j [])
theorem zrO (v:List Int)(L:List (List Int))(i:Nat):(zrN v L i).length=i:=by unfold zrN;simp
theorem zrP (v:List Int)(L:List (List Int))(i:Nat):zrN v L (i+1)=zrN v L i++[ziT v (L.getD i [])]:=by
 unfold zrN;rw [List.range_succ,List.map_append];rfl
def DgO (p:List Int)(L:List (List Int))(R:Option (List Int))(a:Option Addr)(n c:Nat)(e:Int)(W:World):Prop :=
 (zgj p L ≠ 0→n=0∧e=zgj p L)∧(zgj p L=0→R=none→n=0∧e=19) ∧
 ∀ v,zgj p L=0→R=some v→(∀ i,i<L.length→zrM v (L.getD i [])=false→True)∧((∃ i,i<L.length∧zrM v (L.getD i [])=true)→n=0∧e=4)∧((∀ i,i<L.length→zrM v (L.getD i [])=false)→e=0∧n=L.length∧Sl W (.slice a n c) (zap (zrN v L L.length)))
theorem zrQ (vp vl vL:Value)(p:List Int)(l L:List (List Int))(R:Option (List Int))(w:World)(he:Env w)(hp:Sl w vp (zap p))(hl:Mat w vl l)(hL:Mat w vL L)(hpk:zhs p)(hep:zgO p l=0)(hl9:l.length≤9)(hlr:∀ i,(l.getD i []).length≤1000)(hL9:L.length≤100)(hLr:∀ i,(L.getD i []).length≤1000)
  (hR:∀ v,R=some v→v.length=p.length∧ziU v l=0∧∀ j,(zas v j).natAbs≤1000000000)
  (hval:∀ W,Ext w W→Calls Tryz.prog 9 #[.agg #[vp,vl]] W fun e w'=>∃ a n c,e=.returned (.tuple #[.slice a n c,.bool R.isSome,.int .i64 0])∧(∀ x,R=some x→n=p.length∧Sl w' (.slice a n c) (zap x))∧Ext W w') :
  Calls Tryz.prog 13 #[.agg #[vp,vl],vL] w fun e w'=>∃ a n c f,e=.returned (.tuple #[.slice a n c,.int .i64 f])∧DgO p L R a n c f w'∧Ext w w':=by
 obtain ⟨i0,hi,hz0,hz1,hz2⟩:=info_parts zc1;have hp4:=hpk.len;obtain ⟨np,hnp⟩:∃ np,p.length=np:=⟨_,rfl⟩;obtain ⟨K,hK⟩:∃ K,l.length=K:=⟨_,rfl⟩;obtain ⟨N,hN⟩:∃ N,L.length=N:=⟨_,rfl⟩;have hck:=fun W (hE:Ext w W)=>zkj vp vl p l W (he.ext hE) (hE.sl hp) (hE.mat hl) (by omega) (by omega) hlr;have hca:=fun W (hE:Ext w W)=>zgq vp vL p L W (hE.sl hp) (hE.mat hL) (by omega) (by omega) fun i=>by have:=hLr i;omega
 have hst:zgj p L=0→∀ v,R=some v→∀ i vv u W,i<N→Sl W vv (zap v)→Sl W u (zap (L.getD i []))→Calls Tryz.prog 37 #[vv,u] W fun e w'=>e=.returned (.int .i64 (ziT v (L.getD i [])))∧W=w':=fun ha v hv i vv u W hi hvv hu=>by
  obtain ⟨k1,_,k3⟩:=hR v hv;have hre:zgh p.length (L.getD i [])=0:=by
   unfold zgj at ha;rw [if_neg (by rw [hpk.pe];simp)] at ha;exact zrL ha _ (zr0 (by omega))
  obtain ⟨e1,e2⟩:=zg3 hre;refine zoc vv u v (L.getD i []) W hvv hu (by rw [e1,k1]) (by rw [e1];omega) fun j hj=>?_;have b1:=k3 j;have b2:=e2 j hj;have b3:=zrg (A:=1000000000) (B:=1000) b1 (show (zas (L.getD i []) j).natAbs≤1000 by omega);omega
 have hsb:zgj p L=0→∀ v,R=some v→∀ i,i<N→-9000000000000000≤ziT v (L.getD i [])∧ziT v (L.getD i [])≤9000000000000000:=fun ha v hv i hi=>by
  obtain ⟨k1,_,k3⟩:=hR v hv;have hre:zgh p.length (L.getD i [])=0:=by
   unfold zgj at ha;rw [if_neg (by rw [hpk.pe];simp)] at ha;exact zrL ha _ (zr0 (by omega))
  obtain ⟨e1,e2⟩:=zg3 hre;have h9:=zob (v:=v) (x:=L.getD i []) (fun j hj=>by
   have b1:=k3 j;have b2:=e2 j hj;have b3:=zrg (A:=1000000000) (B:=1000) b1 (show (zas (L.getD i []) j).natAbs≤1000 by omega);omega) (Nat.le_refl _)
  rw [zoa (by rw [e1,k1]),e1] at h9;omega
 obtain ⟨ap,cp,rfl,_,_,_⟩:=hp.parts;obtain ⟨vs,hvl2,hvs2,hrows⟩:=hl;obtain ⟨al,cl,rfl,_,_,_⟩:=hvs2.parts;obtain ⟨us,huL,hus,hurows⟩:=hL;obtain ⟨aL,cL,rfl,_,_,hcL⟩:=hus.parts;simp only [zar,hvl2,hnp,hK,huL,hN,hep] at hck hca hval hcL hR ⊢;have hbS:=zoi.new 31 w (.slice ap np cp) (.slice al K cl);have hx0:=(Ext.refl w).alloc (.cells #[.slice ap np cp,.slice al K cl] 31);have c0:=hbS.c0;have c1:=hbS.c1;have hcc:∀ i,i<N→∃ u bl off,aL=some ⟨bl,off,none⟩∧w.cell? ⟨bl,off+i,none⟩=some u∧Sl w u (zap (L.getD i [])):=fun i hi=>by
  obtain ⟨u,hu⟩:∃ u,us[i]?=some u:=⟨_,List.getElem?_eq_getElem (by omega)⟩;obtain ⟨bl,off,e,h⟩:=hcL i u hu;exact ⟨u,bl,off,e,h,hurows i u hu⟩
 have hN100:N≤100:=by omega
 have Hck:=hid hck;have Hca:=hid hca;have Hval:=hid hval;have Hst:=hid hst;have Hsb:=hid hsb;have HbS:=hid hbS;have Hx0:=hid hx0;have Hcc:=hid hcc;have HN:=hid hN;have HR:=hid hR;clear hck hca hval hst hsb hbS hx0 hcc hN hR;clear hp hvs2 hrows hus hurows hcL he hlr hLr hpk hep hp4 hvl2 huL;go_enter Tryz.func13,Tryz.ntmps13
 go_wp2_with fail
 refine (Hck.out _ Hx0.out).mono ?_;rintro e w1 ⟨rfl,hx1⟩;have hY1:=Hx0.out.trans hx1;have hb1:=zoi.ext hx1 HbS.out;have d0:=hb1.c0;have d1:=hb1.c1;have h2:=Hca.out w1 hY1;by_cases ha0:zgj p L=0
 ·rw [ha0] at h2;have h3:=Hval.out w1 hY1;have hst:=Hst.out ha0;have hsb:=Hsb.out ha0;have Ha0:=hid ha0;clear Hst Hsb Hck Hca;have H2:=hid h2;have H3:=hid h3;have Hst:=hid hst;have Hsb:=hid hsb;have HY1:=hid hY1;clear h2 h3 hst hsb hY1;clear c0 c1 hx1 hb1 ha0 Hval;go_wp2_with fail
  refine H2.out.mono ?_;rintro e w2 ⟨rfl,rfl⟩;go_wp2_with fail
  refine H3.out.mono ?_;rintro e w3 ⟨a3,n3,c3,rfl,hv3,hx3⟩;have hY3:=HY1.out.trans hx3
  cases R with
  | none =>
   have HY3:=hid hY3
   clear d0 d1 hv3 hx3 hY3
   go_wp2_with fail
   go_ret2
   exact ⟨none,0,0,19,rfl,⟨fun h=>absurd Ha0.out h,fun _ _=>⟨rfl,rfl⟩,fun v _ e=>by cases e⟩,HY3.out⟩
  | some v =>
   obtain ⟨hn3,hs3⟩:=hv3 v rfl
   have hn6:=hn3.symm
   clear hn3
   subst hn6
   have hst:=Hst.out v rfl
   have hsb:=Hsb.out v rfl
   have HY3:=hid hY3
   clear Hst Hsb
   have Hst:=hid hst;have Hsb:=hid hsb;have Hs3:=hid hs3;clear hst hsb hs3
   clear d0 d1 hv3 hx3 hY3 H2 H3
   go_wp2_with fail
   go_loopw [11,40] (fun v11 v40 wr=>∃ (i:Nat),v40=.int .i64 i∧i≤N∧Hid (zc2 wr w3.heap.size v11 (zrN v L i))∧Hid (∀ j,j<i→zrM v (L.getD j [])=false)∧Hid (Ext w3 wr)) (fun _ v40 _=>N - (zal v40).toNat)
   case atStart=>exact ⟨0,rfl,Nat.zero_le _,hid (World.ownsRow_nil _ _ _ 1),hid (fun j hj=>by omega),hid (Ext.refl _)⟩
   case round =>
    obtain ⟨i,rfl,hiN,HO,HF,HE⟩:=hrel
    obtain ⟨ao,co,eo⟩:=zc3 HO.out
    rw [zrO] at eo
    subst eo
    by_cases hin:i<N
    ·obtain ⟨u,bl,off,rfl,g1,g2⟩:=Hcc.out i hin
     obtain ⟨au,cu,rfl,_,_,_⟩:=g2.parts
     have hYr:=HY3.out.trans HE.out
     have g3:=hYr.cell g1
     have h5:=Hst.out i (.slice a3 np c3) _ wr hin (HE.out.sl Hs3.out) (hYr.sl g2)
     have hbz:=Hsb.out i hin
     have hsu:=zrP v L i
     have hfr:zrM v (L.getD i [])=(decide (1000000000<ziT v (L.getD i [])) || decide (ziT v (L.getD i []) < -1000000000)):=rfl
     generalize (zap (L.getD i [])).length=lu at *
     generalize ziT v (L.getD i [])=sz at *
     have hi0:(0:Int)≤(i:Int):=by omega
     have hi1:(i:Int)<(N:Int):=by omega
     have H5:=hid h5;have HYr:=hid hYr;have Hsu:=hid hsu;have Hfr:=hid hfr;clear h5 hYr hsu hfr
     clear g1 g2 hbz
     go_wp2_with fail
     refine H5.out.mono ?_
     rintro e w5 ⟨rfl,rfl⟩
     clear H5 g3
     by_cases hA:1000000000<sz
     ·have hd:decide (sz > 1000000000)=true:=decide_eq_true hA
      have hfl:zrM v (L.getD i [])=true:=by rw [Hfr.out,decide_eq_true hA];rfl
      have Hfl:=hid hfl
      clear hfl hA
      go_wp2_with fail
      go_ret2
      exact ⟨none,0,0,4,rfl,⟨fun h=>absurd Ha0.out h,fun _ e=>(by cases e),fun v' _ e=>by
       obtain rfl:=Option.some.inj e;exact ⟨fun _ _ _=>trivial,fun _=>⟨rfl,rfl⟩,fun h=>by have:=h i (by rw [HN.out];exact hin);rw [Hfl.out] at this;cases this⟩⟩,HYr.out⟩
     ·have hd:decide (sz > 1000000000)=false:=decide_eq_false hA
      by_cases hB:sz < -1000000000
      ·have hd2:decide (sz < -1000000000)=true:=decide_eq_true hB
       have hfl:zrM v (L.getD i [])=true:=by rw [Hfr.out,decide_eq_true hB,Bool.or_true]
       have Hfl:=hid hfl
       clear hfl hA hB
       go_wp2_with fail
       go_ret2
       exact ⟨none,0,0,4,rfl,⟨fun h=>absurd Ha0.out h,fun _ e=>(by cases e),fun v' _ e=>by
        obtain rfl:=Option.some.inj e;exact ⟨fun _ _ _=>trivial,fun _=>⟨rfl,rfl⟩,fun h=>by have:=h i (by rw [HN.out];exact hin);rw [Hfl.out] at this;cases this⟩⟩,HYr.out⟩
      ·have hd2:decide (sz < -1000000000)=false:=decide_eq_false hB
       have hfl:zrM v (L.getD i [])=false:=by rw [Hfr.out,decide_eq_false hA,decide_eq_false hB];rfl
       have Hfl:=hid hfl
       have hqo:wr.ownsRow w3.heap.size 3 1 (.slice ao i co) i (zap (zrN v L i)):=by
        have:=HO.out;unfold zc2 at this;rw [zrO] at this;exact this
       have hm3:i+1≤maxLen:=by unfold maxLen;omega
       have hm4:(i+1) * 8≤140737488355328:=by omega
       have hbase:=HE.out.size
       clear hfl hA hB
       go_wp2_with (at_builtin;refine wpList_append_own _ rfl _ _ 27 rfl w3.heap.size 3 i0 (.int .i64 0) 1 8 Tryz.underlying27 hi hz0 hz1 hz2 rfl (by decide) _ _ _ rfl (hqo.alloc _) ⟨wr.heap.size,0,none⟩ 1 1 [.int .i64 sz] rfl rfl (cell_one_new _ _ _) (by simp [Value.oneCell']) hm3 hm4 (by rw [World.size_alloc];omega) ?_;intro v9 V9 hown9 hgrow9 _)
       go_roundw
       case rel =>
        refine ⟨i+1,by go_num,hin,hid ?_,hid fun j hj=>?_,hid ?_⟩
        ·unfold zc2
         rw [zrO,Hsu.out,show zap (zrN v L i++[sz])=zap (zrN v L i)++[.int .i64 sz] by unfold zap;rw [List.map_append];rfl]
         exact hown9
        ·by_cases q:j=i
         ·rw [q];exact Hfl.out
         ·exact HF.out j (by omega)
        ·exact (HE.out.alloc _).grown hgrow9 fun k hk=>(World.ownsRow.lt (hqo.alloc (.cells #[.int .i64 sz] 3)) k hk).1
       case measure=>simp [zal];omega
    ·have hie:i=N:=by omega
     subst hie
     have hnl:¬ (i:Int)<(i:Int):=by omega
     have hYr:=HY3.out.trans HE.out
     have HYr:=hid hYr;clear hYr
     go_wp2_with fail
     go_ret2
     exact ⟨ao,i,co,0,rfl,⟨fun h=>absurd Ha0.out h,fun _ e=>(by cases e),fun v' _ e=>by
      obtain rfl:=Option.some.inj e;refine ⟨fun _ _ _=>trivial,fun ⟨j,hj,hf⟩=>?_,fun _=>⟨rfl,HN.out.symm,by rw [HN.out];exact HO.out.sl⟩⟩;rw [HF.out j (by rw [HN.out] at hj;exact hj)] at hf
      cases hf⟩,HYr.out⟩
 ·obtain ⟨ea,hea⟩:∃ ea,zgj p L=ea:=⟨_,rfl⟩;rw [hea] at h2 ha0;have hne:(ea != 0)=true:=by simpa using ha0
  have Hea:=hid hea;have Hne0:=hid ha0;have H2:=hid h2;have HY1:=hid hY1;clear h2 hY1;clear c0 c1 hx1 hb1 ha0 hea Hst Hsb Hck Hca Hval;go_wp2_with fail
  refine H2.out.mono ?_;rintro e w2 ⟨rfl,rfl⟩;go_wp2_with fail
  go_ret2
  exact ⟨none,0,0,ea,rfl,⟨fun _=>⟨rfl,Hea.out.symm⟩,fun h=>absurd (Hea.out.symm.trans h) Hne0.out,fun v h=>absurd (Hea.out.symm.trans h) Hne0.out⟩,HY1.out⟩
def zrR (l:List (List Int)):Bool:=l.all (fun r=>decide (r.length≤8)) && (decide (l.length≤9) || (decide (60≤l.length) && decide (l.length≤62)))
theorem zrS {l:List (List Int)}{k:Nat}(hk:k<l.length)(h:¬ (l.getD k []).length≤8):zrR l=false:=by
 unfold zrR;have:l.all (fun r=>decide (r.length≤8))=false:=by
  rw [List.all_eq_false];refine ⟨l.getD k [],?_,by rw [decide_eq_false h];exact Bool.false_ne_true⟩;rw [List.getD_eq_getElem?_getD,List.getElem?_eq_getElem hk];exact List.getElem_mem _
 rw [this];rfl
theorem zrT {l:List (List Int)}(h:∀ k,k<l.length→(l.getD k []).length≤8):zrR l=(decide (l.length≤9) || (decide (60≤l.length) && decide (l.length≤62))):=by
 unfold zrR;have:l.all (fun r=>decide (r.length≤8))=true:=by
  rw [List.all_eq_true];intro r hr;obtain ⟨k,hk⟩:=List.mem_iff_getElem?.1 hr;have:=h k (List.getElem?_eq_some_iff.1 hk).1;rw [List.getD_eq_getElem?_getD,hk] at this;exact decide_eq_true this
 rw [this,Bool.true_and]
theorem zrU {l:List (List Int)}(h:zrR l=true):l.length≤62∧∀ i,(l.getD i []).length≤8:=by
 unfold zrR at h;rw [Bool.and_eq_true] at h;refine ⟨?_,fun i=>?_⟩
 ·have:=h.2;rw [Bool.or_eq_true,Bool.and_eq_true] at this;rcases this with q | ⟨q,q2⟩
  ·have:=of_decide_eq_true q;omega
  ·exact of_decide_eq_true q2
 ·rw [List.getD_eq_getElem?_getD]
  cases hg:l[i]? with
  | none=>exact Nat.zero_le _
  | some r=>exact of_decide_eq_true (List.all_eq_true.1 h.1 r (List.mem_of_getElem? hg))
theorem zrV (vl:Value)(l:List (List Int))(w:World)(hl:Mat w vl l)(hll:l.length≤9223372036854775807) :
  Calls Tryz.prog 12 #[vl] w fun e w'=>e=.returned (.bool (zrR l))∧w=w':=by
 obtain ⟨vs,hvl,hvs,hrows⟩:=hl;obtain ⟨am,cm,rfl,_,_,hcm⟩:=hvs.parts;rw [hvl];have hfb:=fun k (hk:k<l.length) h=>zrS (l:=l) (k:=k) hk h;have hfg:=zrT (l:=l);have Hcm:=hid hcm;have Hrows:=hid hrows;have Hvl:=hid hvl;have Hfb:=hid hfb;have Hfg:=hid hfg;clear hcm hrows hvl hfb hfg;clear hvs;go_enter Tryz.func12,Tryz.ntmps12
 go_wp2_with fail
 go_loop [3] (fun v3=>∃ k:Nat,v3=.int .i64 k∧k≤l.length∧Hid (∀ i,i<k→(l.getD i []).length≤8)) (fun v3=>l.length - (zal v3).toNat)
 case atStart=>exact ⟨0,rfl,Nat.zero_le _,hid (fun i hi=>by omega)⟩
 case round =>
  obtain ⟨k,rfl,hk,HN⟩:=hrel;by_cases hkn:k<l.length
  ·obtain ⟨u,hu⟩:∃ u,vs[k]?=some u:=⟨_,List.getElem?_eq_getElem (by rw [Hvl.out];exact hkn)⟩;obtain ⟨bl,off,rfl,hcu⟩:=Hcm.out k u hu;have hru:=Hrows.out k u hu;obtain ⟨ax,cx,rfl,_,_,_⟩:=hru.parts;rw [zar] at hcu;have hbad:=fun h=>Hfb.out k hkn h;have hk1:(0:Int)≤(k:Int):=(by omega);have hk2:(k:Int)<(l.length:Int):=(by omega);obtain ⟨m,hm⟩:∃ m,m=(l.getD k []).length:=⟨_,rfl⟩;rw [← hm] at hcu hbad;have Hm:=hid hm;have Hbad:=hid hbad;clear hm hbad;clear hru hu;by_cases h8:m≤8
   ·have hd:decide ((m:Int) > 8)=false:=decide_eq_false (by omega);go_wp2_with fail
    go_round
    case rel =>
     refine ⟨k+1,by go_num,hkn,hid (fun i hi=>?_)⟩;rcases Nat.lt_or_ge i k with q | q
     ·exact HN.out i q
     ·obtain rfl:i=k:=by omega
      rw [← Hm.out];exact h8
    case measure=>simp [zal];omega
   ·have hd:decide ((m:Int) > 8)=true:=decide_eq_true (by omega);have hb:=Hbad.out h8;have Hb:=hid hb;clear hb;go_wp2
    go_ret
    exact ⟨by rw [Hb.out] <;> rfl,rfl⟩
  ·have hkl:k=l.length:=(by omega);subst hkl;have hg:=Hfg.out HN.out;have hnk:¬ (l.length:Int)<(l.length:Int):=(by omega);have Hg:=hid hg;clear hg;generalize l.length=L at *;by_cases h9:L≤9
   ·have e1:decide ((L:Int)≤9)=true:=decide_eq_true (by omega);go_wp2
    go_ret
    exact ⟨by rw [Hg.out,decide_eq_true h9] <;> rfl,rfl⟩
   ·have e1:decide ((L:Int)≤9)=false:=decide_eq_false (by omega);by_cases h60:60≤L
    ·have e2:decide ((L:Int) ≥ 60)=true:=decide_eq_true (by omega);by_cases h62:L≤62
     ·have e3:decide ((L:Int)≤62)=true:=decide_eq_true (by omega);go_wp2
      go_ret
      exact ⟨by rw [Hg.out,decide_eq_false h9,decide_eq_true h60,decide_eq_true h62] <;> rfl,rfl⟩
     ·have e3:decide ((L:Int)≤62)=false:=decide_eq_false (by omega);go_wp2
      go_ret
      exact ⟨by rw [Hg.out,decide_eq_false h9,decide_eq_true h60,decide_eq_false h62] <;> rfl,rfl⟩
    ·have e2:decide ((L:Int) ≥ 60)=false:=decide_eq_false (by omega);go_wp2
     go_ret
     exact ⟨by rw [Hg.out,decide_eq_false h9,decide_eq_false h60] <;> rfl,rfl⟩
theorem zrW {v x:List Int}:(zrM v x=true→(stE v x != 0)=true)∧(zrM v x=false→stE v x=0∧stN v x=ziT v x):=by
 unfold zrM stE stN;constructor
 ·intro h;have:1000000000<ziT v x∨ziT v x < -1000000000:=by simpa using h
  rw [if_pos this];rfl
 ·intro h;have:¬ (1000000000<ziT v x∨ziT v x < -1000000000):=by
   simp only [Bool.or_eq_false_iff,decide_eq_false_iff_not] at h;omega
  rw [if_neg this,if_neg this];exact ⟨rfl,rfl⟩
theorem zrX (n o cm:Nat)(M:Bool)(am:Option Addr)(Q:List Q4)(vL:Value)(L:List (List Int))(w:World)(he:Env w)(hn:n<256)(ho:o<256)(hQ:QIn w am Q)(hb:zoG Q)(hL:Mat w vL L)(hLm:L.length≤9223372036854775807) :
  Calls Tryz.prog 4 #[.agg #[.int .u8 n,.slice am Q.length cm,.bool M,.int .u8 o],vL] w fun e w'=>e=.returned (.bool true)∧Ext w w':=by
 obtain ⟨i0,hi,hz0,hz1,hz2⟩:=info_parts zc1;have hkn:=fun W (hE:Ext w W)=>zpp W (he.ext hE);have hft:=fun W=>zrA n o Q.length cm M am W;have hmk:=fun (h8:Q.length≤8) W (hE:Ext w W)=>zp5 n o Q.length cm M am Q W (he.ext hE) hn ho (hQ.ext hE) rfl h8 hb;have hfw:=fun W (hE:Ext w W)=>zrV vL L W (hE.mat hL) hLm;obtain ⟨k,hk⟩:∃ k,Q.length=k:=⟨_,rfl⟩;obtain ⟨N,hN⟩:∃ N,L.length=N:=⟨_,rfl⟩;have hLL:=hL;obtain ⟨us,huL,hus,hurows⟩:=hL;obtain ⟨aL,cL,rfl,_,_,hcL⟩:=hus.parts;simp only [hk,huL,hN] at hft hmk hfw hLL hcL hLm ⊢;have hp0:=World.alloc_heap_new w (.cells #[.int .u8 n,.slice am k cm,.bool M,.int .u8 o] 24);have hX0:=(Ext.refl w).alloc (.cells #[.int .u8 n,.slice am k cm,.bool M,.int .u8 o] 24);have hpl:∀ V,Ext (w.alloc (.cells #[.int .u8 n,.slice am k cm,.bool M,.int .u8 o] 24)) V→V.cell? ⟨w.heap.size,0,none⟩=some (.int .u8 n)∧V.cell? ⟨w.heap.size,1,none⟩=some (.slice am k cm)∧V.cell? ⟨w.heap.size,2,none⟩=some (.bool M)∧V.cell? ⟨w.heap.size,3,none⟩=some (.int .u8 o):=fun V hE=>by
  have h:=hE.heap hp0;unfold World.cell?;dsimp only;rw [h];exact ⟨rfl,rfl,rfl,rfl⟩
 have hcc:∀ i,i<N→∃ u bl off,aL=some ⟨bl,off,none⟩∧w.cell? ⟨bl,off+i,none⟩=some u∧Sl w u (zap (L.getD i [])):=fun i hi=>by
  obtain ⟨u,hu⟩:∃ u,us[i]?=some u:=⟨_,List.getElem?_eq_getElem (by omega)⟩;obtain ⟨bl,off,e,h⟩:=hcL i u hu;exact ⟨u,bl,off,e,h,hurows i u hu⟩
 clear hp0 hus hurows hcL;have Hkn:=hid hkn;have Hft:=hid hft;have Hmk:=hid hmk;have HX0:=hid hX0;have Hpl:=hid hpl;have Hfw:=hid hfw;have HLL:=hid hLL;have Hcc:=hid hcc;have HN:=hid hN;clear hkn hft hmk hX0 hpl hfw hLL hcc hN;by_cases h8:k≤8
 ·have h8d:decide (k≤8)=true:=decide_eq_true h8;have hft:=Hft.out;rw [h8d] at hft;have hmk:=Hmk.out h8;clear Hmk Hft hQ hb;have Hft:=hid hft;have Hmk:=hid hmk;clear hft hmk;by_cases h4:N≤4
  ·have h4d:decide ((N:Int) > 4)=false:=decide_eq_false (by omega)
   cases hfb:zrR L with
   | true =>
    have hfw:=Hfw.out
    rw [hfb] at hfw
    have hLr:=(zrU hfb).2
    clear Hfw hfb
    have Hfw:=hid hfw;have HLr:=hid hLr;clear hfw hLr
    go_enter Tryz.func4,Tryz.ntmps4
    go_wp2_with fail
    refine (Hkn.out _ HX0.out).mono ?_
    rintro e w1 ⟨rfl,hx1⟩
    obtain ⟨q0,q1,q2,q3⟩:=Hpl.out w1 hx1
    have Hx1:=hid hx1;clear hx1
    go_wp2_with fail
    refine (Hft.out _).mono ?_
    rintro e w2 ⟨rfl,hx2⟩
    have hx2:=Hx1.out.trans hx2
    clear q0 q1 q2 q3 Hx1
    have h3:=Hfw.out w2 (HX0.out.trans hx2)
    have Hx2:=hid hx2;have H3:=hid h3;clear hx2 h3
    go_wp2_with fail
    refine H3.out.mono ?_
    rintro e w2b ⟨rfl,rfl⟩
    obtain ⟨q0,q1,q2,q3⟩:=Hpl.out w2 Hx2.out
    clear H3
    go_wp2_with fail
    refine (Hmk.out _ (HX0.out.trans Hx2.out)).mono ?_
    rintro e w3 ⟨vp,vl,rfl,p,rs,hp3,hl3,hpk,hep,hr0,hr9,hrb,_,_,hx3⟩
    have hp4:=hpk.len
    obtain ⟨np,hnp⟩:∃ np,p.length=np:=⟨_,rfl⟩
    obtain ⟨K,hK⟩:∃ K,rs.length=K:=⟨_,rfl⟩
    have hX3:=(HX0.out.trans Hx2.out).trans hx3
    have he3:=he.ext hX3
    obtain ⟨R,hR,hval⟩:=zrK vp vl p rs w3 he3 hp3 hl3 hpk hep hrb (by omega)
    have hL3:=hX3.mat HLL.out
    have hrl:∀ i,(rs.getD i []).length≤1000:=fun i=>by
     by_cases q:i<K
     ·rw [(hrb _ (zr0 (by omega))).1];omega
     ·rw [List.getD_eq_getElem?_getD,List.getElem?_eq_none (by omega)];simp
    have hLr:=HLr.out
    have hNe:=HN.out
    have hdg:=fun W (hE:Ext w3 W)=>zrQ vp vl (.slice aL N cL) p rs L R W (he3.ext hE) (hE.sl hp3) (hE.mat hl3) (hE.mat hL3) hpk hep (by omega) hrl (by omega) (fun i=>by have:=hLr i;omega) hR fun W' h'=>hval W' (hE.trans h')
    have hca:=fun W (hE:Ext w3 W)=>zgq vp (.slice aL N cL) p L W (hE.sl hp3) (hE.mat hL3) (by omega) (by omega) fun i=>by have:=hLr i;omega
    have hvs:zgj p L=0→∀ v,R=some v→∀ i u vv W,i<N→Ext w3 W→Sl W vv (zap v)→Sl W u (zap (L.getD i []))→Calls Tryz.prog 15 #[vp,vv,u] W fun e w'=>e=.returned (.tuple #[.int .i64 (stN v (L.getD i [])),.int .i64 (stE v (L.getD i []))])∧Ext W w':=fun ha v hv i u vv W hi hE hs hu=>by
     obtain ⟨k1,_,k3⟩:=hR v hv;have hre:zgh p.length (L.getD i [])=0:=by
      unfold zgj at ha;rw [if_neg (by rw [hpk.pe];simp)] at ha;exact zrL ha _ (zr0 (by omega))
     have hoe:zgr p (L.getD i [])=0:=by
      unfold zgr zgj;rw [if_neg (by rw [hpk.pe];simp),zgi,if_neg (by rw [hre];simp)];rfl
     obtain ⟨e1,e2⟩:=zg3 hre;refine zr9 vp vv u p v (L.getD i []) np W (hE.sl hp3) hs hu hpk.pe hnp (by omega) (zrJ (by omega) (by omega) k3) hoe (by rw [e1,hnp]) fun j hj=>?_;have b1:=k3 j;have b2:=e2 j hj;have b3:=zrg (A:=1000000000) (B:=1000) b1 (show (zas (L.getD i []) j).natAbs≤1000 by omega);omega
    obtain ⟨ap,cp,rfl,_,_,_⟩:=hp3.parts
    obtain ⟨vs,hvl2,hvs2,hrows⟩:=hl3
    obtain ⟨al,cl,rfl,_,_,_⟩:=hvs2.parts
    simp only [zar,hvl2,hnp,hK] at hval hdg hca hvs hR ⊢
    have hbS:=zoi.new 31 w3 (.slice ap np cp) (.slice al K cl)
    have hx4:=(Ext.refl w3).alloc (.cells #[.slice ap np cp,.slice al K cl] 31)
    have c0:=hbS.c0
    have c1:=hbS.c1
    have Hval:=hid hval;have Hdg:=hid hdg;have Hca:=hid hca;have Hvs:=hid hvs;have HX3:=hid hX3;have HbS:=hid hbS;have Hx4:=hid hx4;have HR:=hid hR;clear hval hdg hca hvs hX3 hbS hx4 hR
    clear Hmk hp3 hx3 hvs2 hrows hvl2 Hx2 hrb Hkn Hpl q0 q1 q2 q3 hep hpk he he3 hr0 hr9 hp4 hL3 hrl hLr hNe HLL HLr hK
    go_wp2_with fail
    refine (Hdg.out _ Hx4.out).mono ?_
    rintro e w5 ⟨a5,n5,c5,f5,rfl,hD,hx5⟩
    have hY5:=Hx4.out.trans hx5
    have hb5:=zoi.ext hx5 HbS.out
    have d0:=hb5.c0
    have d1:=hb5.c1
    have h6:=Hval.out w5 hY5
    have HD:=hid hD;have Hx5:=hid hx5;have HY5:=hid hY5;have H6:=hid h6;clear hD hx5 hY5 h6
    clear c0 c1 hb5 Hdg Hval
    go_wp2_with fail
    refine H6.out.mono ?_
    rintro e w6 ⟨a6,n6,c6,rfl,hv6,hx6⟩
    have hY6:=HY5.out.trans hx6
    have hb6:=zoi.ext (Hx5.out.trans hx6) HbS.out
    have c0:=hb6.c0
    have c1:=hb6.c1
    have h7:=Hca.out w6 hY6
    have HEr:=hid (HX3.out.trans hY6)
    have Hx6:=hid hx6
    have HY6:=hid hY6
    clear d0 d1 hb6 H6 hx6 hY6 Hca
    by_cases ha0:zgj p L=0
    ·rw [ha0] at h7
     cases R with
     | none =>
      obtain ⟨rfl,rfl⟩:=HD.out.2.1 ha0 rfl
      have H7:=hid h7;clear h7
      clear ha0 HD hv6 Hvs
      go_wp2_with fail
      refine H7.out.mono ?_
      rintro e w7 ⟨rfl,rfl⟩
      clear c0 c1
      go_wp2_with fail
      go_ret
      exact ⟨rfl,HEr.out⟩
     | some v =>
      have hDv:=HD.out.2.2 v ha0 rfl
      obtain ⟨hn6,hs6⟩:=hv6 v rfl
      have hn7:=hn6.symm
      clear hn6
      subst hn7
      have hvs:=Hvs.out ha0 v rfl
      clear ha0 HD hv6 Hvs
      have H7:=hid h7;have HDv:=hid hDv;have Hvs:=hid hvs;have Hs6:=hid hs6;clear h7 hDv hvs hs6
      go_wp2_with fail
      refine H7.out.mono ?_
      rintro e w7 ⟨rfl,rfl⟩
      clear H7
      have hN4:N≤4:=h4
      go_wp2_with fail
      clear c0 c1
      go_loopw [12,13] (fun v12 v13 wr=>∃ (i:Nat),v13=.int .i64 i∧i≤N∧Hid (zc2 wr w6.heap.size v12 (zrN v L i))∧Hid (∀ j,j<i→zrM v (L.getD j [])=false)∧Hid (Ext w6 wr)) (fun _ v13 _=>N - (zal v13).toNat)
      case atStart=>exact ⟨0,rfl,Nat.zero_le _,hid (World.ownsRow_nil _ _ _ 1),hid (fun j hj=>by omega),hid (Ext.refl _)⟩
      case round =>
       obtain ⟨i,rfl,hiN,HO,HF,HE⟩:=hrel
       obtain ⟨ao,co,eo⟩:=zc3 HO.out
       rw [zrO] at eo
       subst eo
       have hYr:=HY6.out.trans HE.out
       have hXr:=HX3.out.trans hYr
       by_cases hin:i<N
       ·obtain ⟨u,bl,off,rfl,g1,g2⟩:=Hcc.out i hin
        obtain ⟨au,cu,rfl,_,_,_⟩:=g2.parts
        have g3:=hXr.cell g1
        have hbr:=zoi.ext ((Hx5.out.trans Hx6.out).trans HE.out) HbS.out
        have c0:=hbr.c0
        have h8':=fun W (hE:Ext wr W)=>Hvs.out i _ (.slice a6 np c6) W hin (hYr.trans hE) ((HE.out.trans hE).sl Hs6.out) ((hXr.trans hE).sl g2)
        have hsu:=zrP v L i
        have hfs:=zrW (v:=v) (x:=L.getD i [])
        generalize (zap (L.getD i [])).length=lu at *
        generalize stN v (L.getD i [])=sn at *
        generalize stE v (L.getD i [])=se at *
        have hi0:(0:Int)≤(i:Int):=by omega
        have hi1:(i:Int)<(N:Int):=by omega
        have H8':=hid h8';have HYr:=hid hYr;have HXr:=hid hXr;have Hsu:=hid hsu;have Hfs:=hid hfs;clear h8' hYr hXr hsu hfs
        clear g1 g2 hbr
        go_wp2_with fail
        go_region_held3 (fun w'=>Ext wr w'∧w'.cell? ⟨w3.heap.size,0,none⟩=some (.slice ap np cp)∧w'.cell? ⟨bl,off+i,none⟩=some (.slice au lu cu))
         (first | (with_reducible assumption) | exact ⟨(Ext.refl wr).drew,c0,g3⟩)
         (first | (go_at_call 15;refine (H8'.out _ (And.left (by assumption))).mono ?_;rintro e9 VA ⟨rfl,hxa⟩;have hEA:=((Ext.refl wr).drew).trans hxa;have hS2:Ext wr VA∧VA.cell? ⟨w3.heap.size,0,none⟩=some (.slice ap np cp)∧VA.cell? ⟨bl,off+i,none⟩=some (.slice au lu cu):=⟨hEA,hEA.cell c0,hEA.cell g3⟩;have HEA:=hid hEA;clear hxa hEA))
        clear hS2 c0 g3 H8'
        cases hfr:zrM v (L.getD i []) with
        | true =>
         have hse:=Hfs.out.1 hfr
         obtain ⟨rfl,rfl⟩:=HDv.out.2.1 ⟨i,by rw [HN.out];exact hin,hfr⟩
         have HEz:=hid (HX3.out.trans (HY6.out.trans (HE.out.trans HEA.out)))
         clear hfr
         go_wp2_with fail
         go_ret
         exact ⟨rfl,HEz.out⟩
        | false =>
         obtain ⟨e1,e2⟩:=Hfs.out.2 hfr
         subst e1
         have He2:=hid e2
         have Hfr:=hid hfr
         have hqo:VA.ownsRow w6.heap.size 3 1 (.slice ao i co) i (zap (zrN v L i)):=by
          have:=HEA.out.ownI HO.out;unfold zc2 at this;rw [zrO] at this;exact this
         have hm3:i+1≤maxLen:=by unfold maxLen;omega
         have hm4:(i+1) * 8≤140737488355328:=by omega
         have hbase:=(HE.out.trans HEA.out).size
         clear hfr e2
         go_wp2_with (at_builtin;refine wpList_append_own _ rfl _ _ 27 rfl w6.heap.size 3 i0 (.int .i64 0) 1 8 Tryz.underlying27 hi hz0 hz1 hz2 rfl (by decide) _ _ _ rfl (hqo.alloc _) ⟨VA.heap.size,0,none⟩ 1 1 [.int .i64 sn] rfl rfl (cell_one_new _ _ _) (by simp [Value.oneCell']) hm3 hm4 (by rw [World.size_alloc];omega) ?_;intro v9 V9 hown9 hgrow9 _)
         go_roundw
         case rel =>
          refine ⟨i+1,by go_num,hin,hid ?_,hid fun j hj=>?_,hid ?_⟩
          ·unfold zc2
           rw [zrO,Hsu.out,← He2.out,show zap (zrN v L i++[sn])=zap (zrN v L i)++[.int .i64 sn] by unfold zap;rw [List.map_append];rfl]
           exact hown9
          ·by_cases q:j=i
           ·rw [q];exact Hfr.out
           ·exact HF.out j (by omega)
          ·exact ((HE.out.trans HEA.out).alloc _).grown hgrow9 fun k hk=>(World.ownsRow.lt (hqo.alloc (.cells #[.int .i64 sn] 3)) k hk).1
         case measure=>simp [zal];omega
       ·have hie:i=N:=by omega
        subst hie
        obtain ⟨rfl,hnN,hs9⟩:=HDv.out.2.2 fun j hj=>HF.out j (by rw [HN.out] at hj;omega)
        rw [HN.out] at hnN hs9
        subst hnN
        have hnl:¬ (n5:Int)<(n5:Int):=by omega
        have h9:=zkW _ _ _ _ wr ((Hx6.out.trans HE.out).sl hs9) HO.out.sl (by rw [zrO];omega) (by rw [zrO];omega)
        rw [decide_eq_true rfl] at h9
        have H9:=hid h9;have HXr:=hid hXr;clear h9 hXr
        clear hs9 hYr
        go_wp2_with fail
        refine H9.out.mono ?_
        rintro e w9 ⟨rfl,hx9⟩
        have HEz:=hid (HXr.out.trans hx9.ext)
        clear hx9
        go_wp2_with fail
        go_ret
        exact ⟨rfl,HEz.out⟩
    ·obtain ⟨rfl,hfe⟩:=HD.out.1 ha0
     subst hfe
     generalize zgj p L=ea at *
     have hne:(ea != 0)=true:=by simpa using ha0
     have hne2:(ea == 0)=false:=by simpa using ha0
     have H7:=hid h7;clear h7
     clear ha0 HD hv6 Hvs
     go_wp2_with fail
     refine H7.out.mono ?_
     rintro e w7 ⟨rfl,rfl⟩
     clear c0 c1
     go_wp2_with fail
     go_ret
     exact ⟨rfl,HEr.out⟩
   | false =>
    have hfw:=Hfw.out
    rw [hfb] at hfw
    clear Hfw hfb Hmk
    have Hfw:=hid hfw;clear hfw
    go_enter Tryz.func4,Tryz.ntmps4
    go_wp2_with fail
    refine (Hkn.out _ HX0.out).mono ?_
    rintro e w1 ⟨rfl,hx1⟩
    obtain ⟨q0,q1,q2,q3⟩:=Hpl.out w1 hx1
    have Hx1:=hid hx1;clear hx1
    go_wp2_with fail
    refine (Hft.out _).mono ?_
    rintro e w2 ⟨rfl,hx2⟩
    have hx2:=Hx1.out.trans hx2
    clear q0 q1 q2 q3 Hx1
    have h3:=Hfw.out w2 (HX0.out.trans hx2)
    have Hx2:=hid hx2;have H3:=hid h3;clear hx2 h3
    go_wp2_with fail
    refine H3.out.mono ?_
    rintro e w2b ⟨rfl,rfl⟩
    have hEb:=HX0.out.trans Hx2.out
    have h3:=Hkn.out _ hEb
    clear H3
    have H3:=hid h3;have HEb:=hid hEb;clear h3 hEb
    go_wp2_with fail
    refine H3.out.mono ?_
    rintro e w9 ⟨rfl,hx9⟩
    have hEr:=HEb.out.trans hx9
    have HEr:=hid hEr;clear hEr
    clear hx9
    go_wp2_with fail
    go_ret
    exact ⟨rfl,HEr.out⟩
  ·have h4d:decide ((N:Int) > 4)=true:=decide_eq_true (by omega);clear Hmk;go_enter Tryz.func4,Tryz.ntmps4
   go_wp2_with fail
   refine (Hkn.out _ HX0.out).mono ?_;rintro e w1 ⟨rfl,hx1⟩;obtain ⟨q0,q1,q2,q3⟩:=Hpl.out w1 hx1;have Hx1:=hid hx1;clear hx1;go_wp2_with fail
   refine (Hft.out _).mono ?_;rintro e w2 ⟨rfl,hx2⟩;have hx2:=Hx1.out.trans hx2;clear q0 q1 q2 q3 Hx1;have hEb:=HX0.out.trans hx2;have h3:=Hkn.out _ hEb;have H3:=hid h3;have HEb:=hid hEb;clear h3 hEb;go_wp2_with fail
   refine H3.out.mono ?_;rintro e w9 ⟨rfl,hx9⟩;have hEr:=HEb.out.trans hx9;have HEr:=hid hEr;clear hEr;clear hx9;go_wp2_with fail
   go_ret
   exact ⟨rfl,HEr.out⟩
 ·have h8d:decide (k≤8)=false:=decide_eq_false h8;have hft:=Hft.out;rw [h8d] at hft;clear Hmk Hft hQ hb;have Hft:=hid hft;clear hft;go_enter Tryz.func4,Tryz.ntmps4
  go_wp2_with fail
  refine (Hkn.out _ HX0.out).mono ?_;rintro e w1 ⟨rfl,hx1⟩;obtain ⟨q0,q1,q2,q3⟩:=Hpl.out w1 hx1;have Hx1:=hid hx1;clear hx1;go_wp2_with fail
  refine (Hft.out _).mono ?_;rintro e w2 ⟨rfl,hx2⟩;have hx2:=Hx1.out.trans hx2;clear q0 q1 q2 q3 Hx1;have hEb:=HX0.out.trans hx2;have h3:=Hkn.out _ hEb;have H3:=hid h3;have HEb:=hid hEb;clear h3 hEb;go_wp2_with fail
  refine H3.out.mono ?_;rintro e w9 ⟨rfl,hx9⟩;have hEr:=HEb.out.trans hx9;have HEr:=hid hEr;clear hEr;clear hx9;go_wp2_with fail
  go_ret
  exact ⟨rfl,HEr.out⟩
end
section
open Go.ChangeShapes Go.WideShapes Go.RowKit Go.Lib
theorem zrY {w:World}{a:Option Addr}{L C:Nat}{zs:List Int}(hl:L≤C)(hm:C≤maxLen)(hz:zs.length=C)(h0:a=none→C=0)(hc:∀ a',a=some a'→∀ c,c<C→w.cell? (a'.add c)=some (.int .i64 (zs.getD c 0))) :
  Sl w (.slice a L C) (zap (zs.take L)):=by
 rcases Nat.eq_zero_or_pos L with hL | hL
 ·subst hL;exact .inl ⟨_,C,rfl,hm,by simp [zap]⟩
 ·cases a with
  | none=>have:=h0 rfl;omega
  | some a' =>
   have h00:=hc a' rfl 0 (by omega)
   obtain ⟨b,off,sp⟩:=a'
   have hs:=World.cell?_spot h00
   have hs':sp=none:=by
    cases sp with
    | none=>rfl
    | some s=>simp [Addr.add] at hs
   subst hs'
   refine .inr ⟨b,off,C,?_,?_,hm,fun i u hu=>?_⟩
   ·rw [zar,List.length_take,Nat.min_eq_left (by omega)]
   ·rw [zar,List.length_take,Nat.min_eq_left (by omega)];exact hl
   ·have hi:i<(zs.take L).length:=by
     have:=(List.getElem?_eq_some_iff.1 hu).1;rwa [zar] at this
    rw [zau hi] at hu
    have hi2:i<L:=by rw [List.length_take] at hi;omega
    have:=hc _ rfl i (by omega)
    have e:zas (zs.take L) i=zs.getD i 0:=by
     unfold zas;rw [List.getD_eq_getElem?_getD,List.getElem?_take_of_lt hi2,List.getD_eq_getElem?_getD]
    rw [← e,Option.some.inj hu] at this
    rwa [show ((⟨b,off,none⟩:Addr).add i)=⟨b,off+i,none⟩ by unfold Addr.add;split <;> simp_all] at this
theorem zrZ {H:Type}{enc:TypeId × Value→H}{w:World}{base:Nat}{held:Bool}{t:TypeId}{c:Value}{fuel:Nat}{x:DataW H × List MemPlace}(ht:Tryz.prog.underlying t=some (.slice 33))(hf:DataW.trod enc Tryz.prog w base (fun _=>true) held fuel t [c]=some x) :
  ∃ m:List (List Int),Mat w c m:=by
 rcases Go.Deep.open_int_rows ht Tryz.underlying33 Tryz.underlying3 (by kernel_rfl) (by kernel_rfl) hf with ⟨h1,_⟩ | ⟨a',len,cap,A,L,C,Z,h1,_,hl,hm,_,hr⟩
 ·obtain rfl:c=.slice none 0 0:=by simpa using h1
  exact ⟨[],[],rfl,.inl ⟨none,0,rfl,Nat.zero_le _,rfl⟩,fun i u hu=>by simp at hu⟩
 ·obtain rfl:c=.slice (some a') len cap:=by simpa using h1
  refine ⟨(List.range len).map fun r=>(Z r).take (L r),(List.range len).map fun r=>.slice (A r) (L r) (C r),by simp,?_,fun i u hu=>?_⟩
  ·rcases Nat.eq_zero_or_pos len with h0 | h0
   ·subst h0;exact .inl ⟨_,cap,rfl,hm,by simp⟩
   ·have h00:=(hr 0 (by omega)).1;obtain ⟨b,off,sp⟩:=a';have hs:=World.cell?_spot h00;have hs':sp=none:=by
     cases sp with
     | none=>rfl
     | some s=>simp [Addr.add] at hs
    subst hs';refine .inr ⟨b,off,cap,by rw [List.length_map,List.length_range],by rw [List.length_map,List.length_range];exact hl,hm,fun i u hu=>?_⟩;rw [List.getElem?_map] at hu;have hi:i<len:=by
     rcases Nat.lt_or_ge i len with g | g
     ·exact g
     ·rw [List.getElem?_eq_none (by rw [List.length_range];exact g)] at hu;cases hu
    rw [List.getElem?_range hi] at hu;simp only [Option.map_some,Option.some.injEq] at hu;subst hu;have:=(hr i (by omega)).1;rwa [show ((⟨b,off,none⟩:Addr).add i)=⟨b,off+i,none⟩ by unfold Addr.add;split <;> simp_all] at this
  ·rw [List.getElem?_map] at hu;have hi:i<len:=by
    rcases Nat.lt_or_ge i len with g | g
    ·exact g
    ·rw [List.getElem?_eq_none (by rw [List.length_range];exact g)] at hu;cases hu
   rw [List.getElem?_range hi] at hu;simp only [Option.map_some,Option.some.injEq] at hu;subst hu;have e:((List.range len).map fun r=>(Z r).take (L r)).getD i []=(Z i).take (L i):=by
    rw [List.getD_eq_getElem?_getD,List.getElem?_map,List.getElem?_range hi];rfl
   rw [e];obtain ⟨_,g1,g2,g3,_,g5,g6⟩:=hr i (by omega);exact zrY g1 g2 g3 g5 fun a' ha=>(g6 a' ha).2
theorem zsa {w:World}{v:Value}{l:List (List Int)}(h:Mat w v l):l.length≤9223372036854775807:=by
 obtain ⟨vs,hvl,hvs,_⟩:=h;obtain ⟨_,c,_,h1,h2,_⟩:=hvs.parts;unfold maxLen at h1;omega
end
section
open Go.ChangeShapes Go.WideShapes Go.ChangeAt Go.WideMaps Go.WideElems Go.RowKit Go.Lib Go.Joins
section
variable {H : Type} {enc : TypeId × Value → H} {w : World} {base : Nat} {spare : Nat → Bool} {held : Bool}
theorem zsb {n:Int}(h:(Lit.int .u8 n).wf=true):∃ k:Nat,n=(k:Int)∧k<256:=by
 have h2:0≤n∧n≤255:=by
  simp [Lit.wf,IntKind.min,IntKind.max,IntKind.signed,IntKind.bits] at h;omega
 exact ⟨n.toNat,by omega,by omega⟩
theorem zsc {fuel:Nat}{c0 c1 c2 c3:Value}{x:DataW H × List MemPlace}(h:DataW.trod enc Tryz.prog w base spare held fuel 119 [c0,c1,c2,c3]=some x) :
  ∃ e:Q4,c0=.int .i8 e.1∧c1=.int .i8 e.2.1∧c2=.int .i8 e.2.2.1∧c3=.int .i8 e.2.2.2∧∀ z∈q4l e,-128≤z∧z≤127:=by
 obtain ⟨y0,y1,y2,y3,n,rfl,h0,h1,h2,h3⟩:=trod_array4 Tryz.underlying119 (show Tryz.prog.cellsOf 50=1 by kernel_rfl) h;obtain ⟨a,ha,rfl,wa⟩:=DataW.trod_int Tryz.underlying50 h0;obtain ⟨b,hb,rfl,wb⟩:=DataW.trod_int Tryz.underlying50 h1;obtain ⟨c,hc,rfl,wc⟩:=DataW.trod_int Tryz.underlying50 h2;obtain ⟨d,hd,rfl,wd⟩:=DataW.trod_int Tryz.underlying50 h3;simp only [List.cons.injEq,and_true] at ha hb hc hd;refine ⟨(a,b,c,d),ha,hb,hc,hd,fun z hz=>?_⟩;unfold q4l at hz;simp only [List.mem_cons,List.not_mem_nil,or_false] at hz;rcases hz with rfl | rfl | rfl | rfl
 ·exact bounds_i8 wa
 ·exact bounds_i8 wb
 ·exact bounds_i8 wc
 ·exact bounds_i8 wd
theorem zsd {w:World}{a:Addr}{cs:List Value}(h:w.cells? 0 a 4=some cs):∃ c0 c1 c2 c3,cs=[c0,c1,c2,c3]∧w.cell? (a.add 0)=some c0∧w.cell? (a.add 1)=some c1∧w.cell? (a.add 2)=some c2∧w.cell? (a.add 3)=some c3:=by
 obtain ⟨_,hl,hg⟩:=World.cells?_some h;match cs,hl,hg with
 | [c0,c1,c2,c3],_,hg=>exact ⟨c0,c1,c2,c3,rfl,hg 0 (by omega),hg 1 (by omega),hg 2 (by omega),hg 3 (by omega)⟩
theorem zse {c:Value}{fuel:Nat}{x:DataW H × List MemPlace}(hf:DataW.trod enc Tryz.prog w 0 (fun _=>true) held fuel 22 [c]=some x) :
  ∃ (am:Option Addr)(Q:List Q4)(cm:Nat),c=.slice am Q.length cm∧QIn w am Q∧zoG Q:=by
 rcases Go.Deep.open_slice Tryz.underlying22 hf with ⟨h1,_⟩ | ⟨a,len0,cap0,m,n,D,Pl,h1,_,hl,hm,hmm,_,hel⟩
 ·obtain rfl:c=.slice none 0 0:=by simpa using h1
  exact ⟨none,[],0,rfl,fun i e he=>by simp at he,fun e he=>by cases he⟩
 ·obtain rfl:c=.slice (some a) len0 cap0:=by simpa using h1
  have hml:len0≤m:=by rw [hmm];split <;> omega
  have each:∀ i,i<len0→∃ e:Q4,(w.cell? ((a.add (i * 4)).add 0)=some (.int .i8 e.1)∧w.cell? ((a.add (i * 4)).add 1)=some (.int .i8 e.2.1)∧w.cell? ((a.add (i * 4)).add 2)=some (.int .i8 e.2.2.1)∧w.cell? ((a.add (i * 4)).add 3)=some (.int .i8 e.2.2.2))∧∀ z∈q4l e,-128≤z∧z≤127:=by
   intro i hi;obtain ⟨cs',h2,h3⟩:=hel i (by omega);rw [show Tryz.prog.cellsOf 119=4 by kernel_rfl] at h2;obtain ⟨c0,c1,c2,c3,rfl,g0,g1,g2,g3⟩:=zsd h2;obtain ⟨e,rfl,rfl,rfl,rfl,hs⟩:=zsc h3;exact ⟨e,⟨g0,g1,g2,g3⟩,hs⟩
  let f:Nat→Q4:=fun i=>if h:i<len0 then Classical.choose (each i h) else (0,0,0,0);have hf':∀ i (h:i<len0),f i=Classical.choose (each i h):=fun i h=>by show (if h:i<len0 then _ else _)=_;rw [dif_pos h]
  refine ⟨some a,(List.range len0).map f,cap0,by rw [List.length_map,List.length_range],?_,?_⟩
  ·intro i e he;rw [List.getElem?_map] at he;have hi:i<len0:=by
    rcases Nat.lt_or_ge i len0 with g | g
    ·exact g
    ·rw [List.getElem?_eq_none (by rw [List.length_range];exact g)] at he;cases he
   rw [List.getElem?_range hi] at he;simp only [Option.map_some,Option.some.injEq] at he;have hc:=(Classical.choose_spec (each i hi)).1;rw [← hf' i hi,he] at hc;obtain ⟨bb,off,sp⟩:=a;obtain ⟨g0,g1,g2,g3⟩:=hc;obtain ⟨_,⟨f0,_,_,_⟩,_⟩:=each 0 (by omega);have hs:=World.cell?_spot f0;have hs':sp=none:=(by simpa [Addr.add] using hs);subst hs';have ha:∀ k,((⟨bb,off,none⟩:Addr).add (i * 4)).add k=⟨bb,off+i * 4+k,none⟩:=fun k=>by
    rw [Addr.add_lit,Addr.add_lit]
   rw [ha] at g0 g1 g2 g3;exact ⟨bb,off,rfl,g0,g1,g2,g3⟩
  ·intro e he;obtain ⟨i,hi,rfl⟩:=List.mem_map.1 he;have hi:=List.mem_range.1 hi;rw [hf' i hi];exact (Classical.choose_spec (each i hi)).2
theorem zsf {r:Reach}{b0:Nat}{v:Value}{d:DataW H}{p:List MemPlace}(hv:Value.okWide Tryz.prog w r b0 24 v)(h:DataW.Trod enc Tryz.prog w 0 (fun _=>true) held 24 v d p) :
  ∃ (n o cm:Nat)(M:Bool)(am:Option Addr)(Q:List Q4),v=.agg #[.int .u8 n,.slice am Q.length cm,.bool M,.int .u8 o]∧n<256∧o<256∧QIn w am Q∧zoG Q:=by
 obtain ⟨cs,rfl,hsz⟩:=okWide_struct Tryz.underlying24 hv;rw [show Tryz.prog.cellsOf 24=4 by kernel_rfl] at hsz;obtain ⟨l⟩:=cs;match l,hsz with
 | [c0,c1,c2,c3],_ =>
  obtain ⟨fuel,hf⟩:=h
  obtain ⟨y0,y1,y2,y3,k,hx,_,h0,h1,h2,h3⟩:=trod_struct4 Tryz.underlying24 hf
  simp only [Value.cells,show Tryz.prog.cellsOf 5=1 by kernel_rfl,show Tryz.prog.cellsOf 22=1 by kernel_rfl,show Tryz.prog.cellsOf 4=1 by kernel_rfl,List.drop_zero,List.take_succ_cons,List.take_zero,List.drop_succ_cons] at h0 h1 h2 h3
  obtain ⟨n,hn,_,wn⟩:=DataW.trod_int Tryz.underlying5 h0
  obtain ⟨am,Q,cm,rfl,hQ,hb⟩:=zse h1
  obtain ⟨M,hM,_⟩:=DataW.trod_bool Tryz.underlying4 h2
  obtain ⟨o,ho,_,wo⟩:=DataW.trod_int Tryz.underlying5 h3
  simp only [List.cons.injEq,and_true] at hn hM ho
  subst hn hM ho
  obtain ⟨n',rfl,hn'⟩:=zsb wn
  obtain ⟨o',rfl,ho'⟩:=zsb wo
  exact ⟨n',o',cm,M,am,Q,rfl,hn',ho',hQ,hb⟩
end
end
end Go.Proofs.YtipkdebkdnbieaaGreatDoor
