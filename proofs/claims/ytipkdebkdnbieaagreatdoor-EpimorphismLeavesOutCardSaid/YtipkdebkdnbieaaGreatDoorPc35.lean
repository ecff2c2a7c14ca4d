/- Walk: the law EpimorphismLeavesOut. (KEEPALL) A plan of chapter 37 that came in, read. (KEEPALL) -/
import Derived.Test.YtipkdebkdnbieaaGreatDoorPc34
import Derived.Test.YtipkdebkdnbieaaGreatDoorPc13
import Derived.Deep.RegionLaw
import Derived.Test.YtipkdebkdnbieaaGreatDoorPc29
import Derived.Test.YtipkdebkdnbieaaGreatDoorPc12
import Derived.ChangeSlices
import Derived.WideShapes
import Derived.ChangeShapes
import Derived.ChangeSame
import Derived.DataReads
import Derived.Deep.Matrix
import Derived.OpenShut
import Derived.Laws.IdiomArrays
import Derived.Lib.SmallJoins
import Derived.Deep.Slices
set_option maxRecDepth 100000
set_option maxHeartbeats 4000000
namespace Go.Proofs.YtipkdebkdnbieaaGreatDoor
section
open Go.RowKit Go.Lib Go.Shelf
theorem zsa (vp vl:Value)(p:List Int)(l:List (List Int))(w:World)(he:Env w)(hp:Sl w vp (zap p))(hl:Mat w vl l)(hpk:zhs p)(hep:zgO p l=0)(hrb:zp4 p l)(hl9:l.length≤9) :
  ∃ R:Option (List Int),(∀ v,R=some v→v.length=p.length∧ziU v l=0∧∀ j,(zas v j).natAbs≤1000000000)∧∀ W,Ext w W→Calls Tryz.prog 9 #[.agg #[vp,vl]] W fun e w'=>∃ a n c,e=.returned (.tuple #[.slice a n c,.bool R.isSome,.int .i64 0])∧(∀ x,R=some x→n=p.length∧Sl w' (.slice a n c) (zap x))∧Ext W w':=by
 have hl0:0<l.length:=by
  have:=(zow hep).2.1;omega
 obtain ⟨R,h1,h2,h3⟩:=zr4 hrb hpk.len hl0 hl9 (zrX hep hl0);have hpl:=hpk.len;refine ⟨R,h3,fun W hE=>(zo3 vp vl p l R W (he.ext hE) (hE.sl hp) (hE.mat hl) hep (by omega) h1 h2).mono ?_⟩;rintro e w' ⟨⟨v,rfl,k1,k2⟩,hx⟩
 cases R with
 | none =>
  obtain rfl:=k1 rfl
  exact ⟨none,0,0,rfl,fun x e=>(by cases e),hx⟩
 | some x =>
  obtain ⟨hs,hn⟩:=k2 x rfl
  obtain ⟨a,c,rfl,_,_,_⟩:=hs.parts
  exact ⟨a,_,c,rfl,fun y e=>by obtain rfl:=Option.some.inj e;exact ⟨by rw [zar];exact hn,hs⟩,hx⟩
theorem zsb {V:World}{us:List Value}{m:List (List Int)}{B n:Nat}{v:Value}(hu:V.ownsRow B 33 1 v n us)(hl:us.length=m.length)(hr:∀ i u,us[i]?=some u→Sl V u (zap (m.getD i []))):Mat V v m :=
 ⟨us,hl,zan hu,hr⟩
theorem zsc (w:World):((w.alloc (.cells #[] 33)).drew).ownsRow w.heap.size 33 1 (.slice (some ⟨w.heap.size,0,none⟩) 0 0) 0 [] :=
 ⟨rfl,.inr ⟨w.heap.size,0,#[],rfl,Nat.le_refl _,World.alloc_heap_new w _,Nat.le_refl _,by unfold maxLen;omega,rfl,rfl⟩⟩
theorem zsd (g a j:Nat):(⟨g,a,none⟩:Addr).add j=⟨g,a+j,none⟩:=by unfold Addr.add;split <;> simp_all
theorem zse {l:List (List Int)}{k i:Nat}(h:k≤i)(hk:k<l.length):(zrO l k).getD i []=l.getD (i+1) []:=by
 unfold zrO;have e:(l.take k).length=k:=by rw [List.length_take];omega
 rw [List.getD_eq_getElem?_getD,List.getElem?_append_right (by omega),e,List.getElem?_drop,List.getD_eq_getElem?_getD,show k+1+(i - k)=i+1 by omega]
section
variable {P : Program} {ops : Array Oper} {Q : Exit → Act → World → Prop} {md : Region.Mode} {S : World → Prop} {z : Nat}
theorem zsf {i k:Nat}{o u:Oper}{f:Nat}{ls:Array Bool}{a:Act}{w:World}(hr:Region.ready md ops ls=[i,k])(ho:ops[i]?=some o)(hu:ops[k]?=some u)
  (h1:∀ K:Act→World→Prop,Shut (∀ a w,S w→(S w→zhV P md ops Q S z f (ls.setIfInBounds i true) a w)→K a w)→if Region.wanted o (yielded ops a.tmps)=true then Oper.wp P o a w K Q else K (a.put o.dst undef) w)
  (h2:∀ K:Act→World→Prop,Shut (∀ a w,S w→(S w→zhV P md ops Q S z f (ls.setIfInBounds k true) a w)→K a w)→if Region.wanted u (yielded ops a.tmps)=true then Oper.wp P u a w K Q else K (a.put u.dst undef) w):zhV P md ops Q S z (f+1) ls a w:=by
 refine ⟨fun e=>(by rw [hr] at e;cases e),fun j hj=>?_⟩;rw [hr,List.mem_cons,List.mem_singleton] at hj;rcases hj with e | e
 ·subst e;exact wpOp_step ho fun K hK=>h1 K fun a w hS g=>hK a w ⟨fun _=>hS,g hS⟩
 ·subst e;exact wpOp_step hu fun K hK=>h2 K fun a w hS g=>hK a w ⟨fun _=>hS,g hS⟩
end
theorem zsg (w:World)(o:Obj):((w.alloc (.cells #[] 33)).alloc o).drew.ownsRow w.heap.size 33 1 (.slice (some ⟨w.heap.size,0,none⟩) 0 0) 0 [] :=
 ⟨rfl,.inr ⟨w.heap.size,0,#[],rfl,Nat.le_refl _,((Ext.refl (w.alloc (.cells #[] 33))).alloc o).heap (World.alloc_heap_new w _),Nat.le_refl _,by unfold maxLen;omega,rfl,rfl⟩⟩
theorem zsh (w:World)(o:Obj):((w.alloc o).alloc (.cells #[] 33)).drew.ownsRow w.heap.size 33 1 (.slice (some ⟨w.heap.size+1,0,none⟩) 0 0) 0 []:=by
 have h:=World.alloc_heap_new (w.alloc o) (.cells #[] 33);rw [World.size_alloc] at h;exact ⟨rfl,.inr ⟨w.heap.size+1,0,#[],rfl,Nat.le_succ _,h,Nat.le_refl _,by unfold maxLen;omega,rfl,rfl⟩⟩
def LvC (w5:World)(vp:Value)(m:List (List Int))(v10:Value)(wx:World):Prop:=∃ b a k c,v10=.pointer (some ⟨b,0,none⟩)∧zok 31 wx b vp (.slice a k c)∧Mat wx (.slice a k c) m∧Ext w5 wx
theorem LvC.new {w5 V:World}{vp:Value}{m:List (List Int)}{a:Option Addr}{k c:Nat}(hE:Ext w5 V)(hM:∀ W,Ext V W→Mat W (.slice a k c) m):LvC w5 vp m (.pointer (some ⟨V.heap.size,0,none⟩)) (V.alloc (.cells #[vp,.slice a k c] 31)) :=
 ⟨V.heap.size,a,k,c,rfl,zok.new _ _ _ _,hM _ ((Ext.refl V).alloc _),hE.alloc _⟩
theorem LvC.put {w5 V:World}{vp x y:Value}{m:List (List Int)}{us:List Value}{a:Option Addr}{b k c:Nat}(hE:Ext w5 V)(hb:zok 31 V b x y)(h5:w5.heap.size≤b)(hown:V.ownsRow w5.heap.size 33 1 (.slice a k c) k us)(hM:∀ W,Ext w5 W→W.ownsRow w5.heap.size 33 1 (.slice a k c) k us→Mat W (.slice a k c) m):LvC w5 vp m (.pointer (some ⟨b,0,none⟩)) ((V.setCell ⟨b,0,none⟩ vp).setCell ⟨b,1,none⟩ (.slice a k c)):=by
 have hE2:=(hE.setCell (p:=⟨b,0,none⟩) h5 vp).setCell (p:=⟨b,1,none⟩) h5 (.slice a k c);have h1:=zf8 hb hown zoD 0 vp;have h2:=zf8 (hb.put0 vp) h1 zoD 1 (.slice a k c);exact ⟨b,a,k,c,rfl,hb.put vp _,hM _ hE2 h2,hE2⟩
theorem zsi (n o cm a0:Nat)(M:Bool)(am:Option Addr)(Q:List Q4)(w:World)(he:Env w)(hn:n<256)(ho:o<256)(ha0:a0<256)(hQ:QIn w am Q)(hb:zoI Q) :
  Calls Tryz.prog 3 #[.agg #[.int .u8 n,.slice am Q.length cm,.bool M,.int .u8 o],.int .u8 a0] w fun e w'=>e=.returned (.bool true)∧Ext w w':=by
 obtain ⟨j0,hj,hy0,hy1,hy2⟩:=info_parts zmu;have hkn:=fun W (hE:Ext w W)=>zpr W (he.ext hE);have hft:=fun W=>zrD n o Q.length cm M am W;have hmk:=fun (h8:Q.length≤8) W (hE:Ext w W)=>zp7 n o Q.length cm M am Q W (he.ext hE) hn ho (hQ.ext hE) rfl h8 hb;obtain ⟨k,hk⟩:∃ k,Q.length=k:=⟨_,rfl⟩;simp only [hk] at hft hmk ⊢;have hp0:=World.alloc_heap_new w (.cells #[.int .u8 n,.slice am k cm,.bool M,.int .u8 o] 24);have hX0:=(Ext.refl w).alloc (.cells #[.int .u8 n,.slice am k cm,.bool M,.int .u8 o] 24);have hpl:∀ V,Ext (w.alloc (.cells #[.int .u8 n,.slice am k cm,.bool M,.int .u8 o] 24)) V→V.cell? ⟨w.heap.size,0,none⟩=some (.int .u8 n)∧V.cell? ⟨w.heap.size,1,none⟩=some (.slice am k cm)∧V.cell? ⟨w.heap.size,2,none⟩=some (.bool M)∧V.cell? ⟨w.heap.size,3,none⟩=some (.int .u8 o):=fun V hE=>by
  have h:=hE.heap hp0;unfold World.cell?;dsimp only;rw [h];exact ⟨rfl,rfl,rfl,rfl⟩
 clear hp0;have Hkn:=hid hkn;have Hft:=hid hft;have Hmk:=hid hmk;have HX0:=hid hX0;have Hpl:=hid hpl;clear hkn hft hmk hX0 hpl;by_cases h8:k≤8
 ·have h8d:decide (k≤8)=true:=decide_eq_true h8;have hft:=Hft.out;rw [h8d] at hft;have hmk:=Hmk.out h8;clear Hmk Hft hQ hb;have Hft:=hid hft;have Hmk:=hid hmk;clear hft hmk;go_enter Tryz.func3,Tryz.ntmps3
  go_wp2_with fail
  refine (Hkn.out _ HX0.out).mono ?_;rintro e w1 ⟨rfl,hx1⟩;obtain ⟨q0,q1,q2,q3⟩:=Hpl.out w1 hx1;have Hx1:=hid hx1;clear hx1;go_wp2_with fail
  refine (Hft.out _).mono ?_;rintro e w2 ⟨rfl,hx2⟩;have hx2:=Hx1.out.trans hx2;clear q0 q1 q2 q3 Hx1;obtain ⟨q0,q1,q2,q3⟩:=Hpl.out w2 hx2;have Hx2:=hid hx2;clear hx2;go_wp2_with fail
  refine (Hmk.out _ (HX0.out.trans Hx2.out)).mono ?_;rintro e w3 ⟨vp,vl,rfl,p,rs,hp3,hl3,hpk,hep,hr0,hr9,hrb,_,_,hx3⟩;have hp4:=hpk.len;obtain ⟨np,hnp⟩:∃ np,p.length=np:=⟨_,rfl⟩;obtain ⟨K,hK⟩:∃ K,rs.length=K:=⟨_,rfl⟩;have hX3:=(HX0.out.trans Hx2.out).trans hx3;have he3:=he.ext hX3;obtain ⟨R,hR,hval⟩:=zsa vp vl p rs w3 he3 hp3 hl3 hpk hep hrb (by omega);have hnu:=fun vl' vv v k W (hE:Ext w3 W)(hk:k+1<K)(hm:Mat W vl' (zrO rs k))(hs:Sl W vv (zap v))(hv:v.length=np)=>zrC vp vl' vv p v (zrO rs k) np np W (he3.ext hE) (hE.sl hp3) hm hs hpk.pe hnp hv (by omega) (by omega) (zrU hpk hep (by omega)) (by rw [zrP (by omega)];omega) (fun x hx=>hrb x (zrQ x hx));have hwr:=fun vl' vv v k W (hE:Ext w3 W)(hk:k+1<K)(hm:Mat W vl' (zrO rs k))(hs:Sl W vv (zap v))(hv:v.length=np)=>zrB vp vl' vv p v (zrO rs k) np np W (he3.ext hE) (hE.sl hp3) hm hs hpk.pe hnp hv (by omega) (by omega) (zrU hpk hep (by omega)) (by rw [zrP (by omega)];omega) (fun x hx=>hrb x (zrQ x hx));have hwo:=fun v k (hk:k+1<K)(hw:ziU v rs=0)=>zrW (v:=v) (l:=rs) (k:=k) hw (by omega);obtain ⟨ap,cp,rfl,_,_,_⟩:=hp3.parts;obtain ⟨vs,hvl2,hvs2,hrows⟩:=hl3;obtain ⟨al,cl,rfl,_,hclm,hcl⟩:=hvs2.parts;simp only [zar,hvl2,hnp,hK] at hval hnu hwr hcl hclm hR ⊢;have hbS:=zok.new 31 w3 (.slice ap np cp) (.slice al K cl);have hx4:=(Ext.refl w3).alloc (.cells #[.slice ap np cp,.slice al K cl] 31);have c0:=hbS.c0;have c1:=hbS.c1;have hK9:K≤9:=by omega
  have hK0:0<K:=by omega
  have hn4:np≤4:=by omega
  have Hval:=hid hval;have Hnu:=hid hnu;have Hwr:=hid hwr;have Hwo:=hid hwo;have HX3:=hid hX3;have HbS:=hid hbS;have Hx4:=hid hx4;have Hcl:=hid hcl;have Hrows:=hid hrows;have HK:=hid hK;have HR:=hid hR;have Hvl2:=hid hvl2;clear hval hnu hwr hwo hX3 hbS hx4 hcl hrows hK hR hvl2;clear Hmk hp3 hx3 hvs2 Hx2 hrb Hkn Hpl q0 q1 q2 q3 hep hpk he he3 hr0 hr9 hp4;go_wp2_with fail
  refine (Hval.out _ Hx4.out).mono ?_;rintro e w5 ⟨a5,n5,c5,rfl,hv5,hx5⟩;have hY5:=Hx4.out.trans hx5;have hb5:=zok.ext hx5 HbS.out;have d0:=hb5.c0;have d1:=hb5.c1
  cases R with
  | none =>
   have hEr:=HX3.out.trans hY5
   have HEr:=hid hEr;clear hEr
   clear c0 c1 hb5 hv5 hx5 hY5
   go_wp2_with fail
   go_ret
   exact ⟨rfl,HEr.out⟩
  | some v =>
   obtain ⟨hn5,hs5⟩:=hv5 v rfl
   have hn6:=hn5.symm
   clear hn5
   subst hn6
   obtain ⟨hvn,hw0,hvb⟩:=HR.out v rfl
   by_cases hK2:K<2
   ·have hEr:=HX3.out.trans hY5
    have hdK:decide ((K:Int)<2)=true:=decide_eq_true (by omega)
    have hdK2:decide (K<2)=true:=decide_eq_true hK2
    have HEr:=hid hEr;clear hEr
    clear c0 c1 hb5 hx5 hY5
    go_wp2_with fail
    go_ret
    exact ⟨rfl,HEr.out⟩
   ·have hdK:decide ((K:Int)<2)=false:=decide_eq_false (by omega)
    have hdK2:decide (K<2)=false:=decide_eq_false hK2
    obtain ⟨kk,hkk⟩:∃ kk,a0 % (K - 1)=kk:=⟨_,rfl⟩
    have hkl:kk+1<K:=by have:=Nat.mod_lt a0 (show 0<K - 1 by omega);omega
    have hwa:IntKind.i64.wrap (a0:Int)=(a0:Int):=IntWalk.i64_in _ (by omega)
    have hwK:IntKind.i64.wrap ((K:Int) - 1)=((K - 1:Nat):Int):=by rw [IntWalk.i64_in _ (by omega)];omega
    have hkz:¬ ((K - 1:Nat):Int)=0:=by omega
    have htm:(a0:Int).tmod ((K - 1:Nat):Int)=(kk:Int):=by rw [Int.tmod_eq_emod_of_nonneg (by omega),← hkk];rfl
    have hwk:IntKind.i64.wrap (kk:Int)=(kk:Int):=IntWalk.i64_in _ (by omega)
    have hwk1:IntKind.i64.wrap ((kk:Int)+1)=(kk:Int)+1:=IntWalk.i64_in _ (by omega)
    obtain ⟨u0,hu0⟩:∃ u,vs[0]?=some u:=⟨_,List.getElem?_eq_getElem (by rw [Hvl2.out,HK.out];exact hK0)⟩
    obtain ⟨bl,off,rfl,_⟩:=Hcl.out 0 u0 hu0
    have hvK:vs.length=K:=by rw [Hvl2.out,HK.out]
    have hce:∀ W,Ext w3 W→∀ j u,vs[j]?=some u→W.cell? ⟨bl,off+j,none⟩=some u:=fun W hW j u hu=>by
     obtain ⟨b2,o2,e,h⟩:=Hcl.out j u hu
     cases e
     exact hW.cell h
    have hone:∀ u∈vs,u.oneCell'=true:=fun u hu=>by
     obtain ⟨j,hj⟩:=List.mem_iff_getElem?.1 hu;obtain ⟨_,_,rfl,_,_,_⟩:=(Hrows.out j u hj).parts;rfl
    have hv0:zr7 np v=0:=zrY hvn (by omega) hvb
    have hwf:wrF np v (zrO rs kk)=kk+1:=by unfold wrF;rw [if_neg (by simpa using hv0)];exact Hwo.out v kk hkl hw0
    have hnu:=fun vl' W hE hm hs=>Hnu.out vl' (.slice a5 np c5) v kk W hE hkl hm hs hvn
    have hwr:=fun vl' W hE hm hs=>Hwr.out vl' (.slice a5 np c5) v kk W hE hkl hm hs hvn
    have hz2:decide (0<kk+1)=true:=decide_eq_true (by omega)
    simp only [hwf,hz2,hv0,decide_true,Bool.not_true,Bool.and_false] at hnu hwr
    have htk:(vs.take kk).length=kk * 1:=by rw [List.length_take,hvK];omega
    have hdr:(vs.drop (kk+1)).length=(K - (kk+1)) * 1:=by rw [List.length_drop,hvK];omega
    have hnw1:∀ W,Ext w3 W→∀ j u,(vs.take kk)[j]?=some u→W.cell? ((⟨bl,off,none⟩:Addr).add j)=some u:=fun W hW j u hu=>by
     have hja:j<kk:=by
      have:=(List.getElem?_eq_some_iff.1 hu).1;rw [List.length_take] at this;omega
     rw [List.getElem?_take_of_lt hja] at hu;rw [zsd];exact hce W hW j u hu
    have hnw2:∀ W,Ext w3 W→∀ j u,(vs.drop (kk+1))[j]?=some u→W.cell? ((⟨bl,off+(kk+1),none⟩:Addr).add j)=some u:=fun W hW j u hu=>by
     rw [List.getElem?_drop] at hu;rw [zsd,Nat.add_assoc];exact hce W hW _ u hu
    have hon1:∀ u∈vs.take kk,u.oneCell'=true:=fun u hu=>hone u (List.mem_of_mem_take hu)
    have hon2:∀ u∈vs.drop (kk+1),u.oneCell'=true:=fun u hu=>hone u (List.mem_of_mem_drop hu)
    have hmat:∀ V B v',Ext w3 V→V.ownsRow B 33 1 v' (kk+(K - (kk+1))) (vs.take kk++vs.drop (kk+1))→Mat V v' (zrO rs kk):=fun V B v' hV hown=>by
     refine zsb hown ?_ fun i u hu=>?_
     ·rw [zrP (by rw [HK.out];omega),HK.out,List.length_append];omega
     ·by_cases hik:i<kk
      ·rw [List.getElem?_append_left (by omega),List.getElem?_take_of_lt hik] at hu;rw [zrR hik (by rw [HK.out];omega)];exact hV.sl (Hrows.out i u hu)
      ·rw [List.getElem?_append_right (by omega),List.getElem?_drop,show kk+1+(i - (vs.take kk).length)=i+1 by omega] at hu;rw [zse (by omega) (by rw [HK.out];omega)];exact hV.sl (Hrows.out (i+1) u hu)
    have hE5:Ext w3 w5:=hY5
    have hj9:=Tryz.underlying29
    have hb0:0+kk≤maxLen:=by unfold maxLen;omega
    have hb00:(0+kk) * 24≤140737488355328:=by omega
    have hb1:kk+(K - (kk+1))≤maxLen:=by unfold maxLen;omega
    have hb2:(kk+(K - (kk+1))) * 24≤140737488355328:=by omega
    have hKc:K≤cl:=by have:=Hvl2.out;omega
    have k1:(kk:Int)≤(cl:Int):=by omega
    have k2:kk≤cl:=by omega
    have k3:(kk:Int)≤(K:Int):=by omega
    have k4:(K:Int)≤(cl:Int):=by omega
    have k5:(kk:Int)+1≤(K:Int):=by omega
    have k6:(kk:Int)+1≤(cl:Int):=by omega
    have k7:¬ cl=kk+1:=by omega
    have k8:(0:Int)≤(kk:Int):=by omega
    have k9:(0:Int)≤(kk:Int)+1:=by omega
    have Hs5:=hid hs5
    clear Hnu Hwr Hwo
    have Hnu:=hid hnu;have Hwr:=hid hwr;have Htk:=hid htk;have Hdr:=hid hdr;have Hnw1:=hid hnw1;have Hnw2:=hid hnw2;have Hon1:=hid hon1;have Hon2:=hid hon2;have Hmat:=hid hmat;have HE5:=hid hE5;clear hnu hwr htk hdr hnw1 hnw2 hon1 hon2 hmat hE5
    clear hwf hv0 hz2 hce hone hu0 hvK hs5 hv5 hx5 hY5 c0 c1 hvb hw0 hvn hb5 hkk hclm Hrows Hcl Hval HR
    have ho0:=zsc w5
    have hX5a:Ext w5 ((w5.alloc (.cells #[] 33)).drew):=((Ext.refl w5).alloc _).drew
    have ho0A:=zsh w5 (.cells #[.slice none 0 0,.slice none 0 0] 31)
    have hX5A:Ext w5 (((w5.alloc (.cells #[.slice none 0 0,.slice none 0 0] 31)).alloc (.cells #[] 33)).drew):=(((Ext.refl w5).alloc _).alloc _).drew
    have ho0B:=zsg w5 (.cells #[.slice none 0 0,.slice none 0 0] 31)
    have hX5B:Ext w5 (((w5.alloc (.cells #[] 33)).alloc (.cells #[.slice none 0 0,.slice none 0 0] 31)).drew):=(((Ext.refl w5).alloc _).alloc _).drew
    have hbA:zok 31 (((w5.alloc (.cells #[.slice none 0 0,.slice none 0 0] 31)).alloc (.cells #[] 33)).drew) w5.heap.size (.slice none 0 0) (.slice none 0 0):=zok.ext (((Ext.refl _).alloc _).drew) (zok.new 31 w5 _ _)
    have hbB:zok 31 (((w5.alloc (.cells #[] 33)).alloc (.cells #[.slice none 0 0,.slice none 0 0] 31)).drew) (w5.heap.size+1) (.slice none 0 0) (.slice none 0 0):=by
     have:=zok.new 31 (w5.alloc (.cells #[] 33)) (.slice none 0 0) (.slice none 0 0);rw [World.size_alloc] at this;exact this
    have HbA:=hid hbA
    have HbB:=hid hbB
    clear hbA hbB
    have Ho0:=hid ho0;have HX5a:=hid hX5a;have Ho0A:=hid ho0A;have HX5A:=hid hX5A;have Ho0B:=hid ho0B;have HX5B:=hid hX5B;clear ho0 hX5a ho0A hX5A ho0B hX5B
    go_upto_region 10 with (fail)
    go_cut [10] (fun v10 wx=>LvC w5 (.slice ap np cp) (zrO rs kk) v10 wx)
    case first =>
     -- region 10 (lvo.py)
     refine zih 16 (fun w'=>Ext w5 w'∧w'.cell? ⟨w3.heap.size,0,none⟩=some (.slice ap np cp)∧w'.cell? ⟨w3.heap.size,1,none⟩=some (.slice (some ⟨bl,off,none⟩) K cl)) (by kernel_rfl) ⟨(Ext.refl w5).drew,((Ext.refl w5).drew).cell d0,((Ext.refl w5).drew).cell d1⟩ (fun hHeld=>?_)
     refine zid (i:=0) (v:=?v0x1) rfl (by kernel_rfl) (by kernel_rfl) (by kernel_rfl) (by kernel_rfl) (fun _ _ _ h=>h) (Or.inl ⟨by rfl,?y0x1⟩) hHeld ?r0x1
     case y0x1=>(intro w hSw;(try dsimp only at hSw);go_simp;try with_reducible rfl)
     case r0x1 =>
     refine zid (i:=1) (v:=?v1x2) rfl (by kernel_rfl) (by kernel_rfl) (by kernel_rfl) (by kernel_rfl) (fun _ _ _ h=>h) (Or.inl ⟨by rfl,?y1x2⟩) hHeld ?r1x2
     case y1x2=>(intro w hSw;(try dsimp only at hSw);go_simp;try with_reducible rfl)
     case r1x2 =>
     refine zid (i:=3) (v:=?v3x3) rfl (by kernel_rfl) (by kernel_rfl) (by kernel_rfl) (by kernel_rfl) (fun _ _ _ h=>h) (Or.inl ⟨by rfl,?y3x3⟩) hHeld ?r3x3
     case y3x3=>(intro w hSw;(try dsimp only at hSw);go_simp;try with_reducible rfl)
     case r3x3 =>
     refine zid (i:=4) (v:=?v4x4) rfl (by kernel_rfl) (by kernel_rfl) (by kernel_rfl) (by kernel_rfl) (fun _ _ _ h=>h) (Or.inl ⟨by rfl,?y4x4⟩) hHeld ?r4x4
     case y4x4=>(intro w hSw;(try dsimp only at hSw);go_simp;try with_reducible rfl)
     case r4x4 =>
     refine zid (i:=5) (v:=?v5x5) rfl (by kernel_rfl) (by kernel_rfl) (by kernel_rfl) (by kernel_rfl) (fun _ _ _ h=>h) (Or.inl ⟨by rfl,?y5x5⟩) hHeld ?r5x5
     case y5x5=>(intro w hSw;(try dsimp only at hSw);go_simp;try with_reducible rfl)
     case r5x5 =>
     refine zid (i:=6) (v:=?v6x6) rfl (by kernel_rfl) (by kernel_rfl) (by kernel_rfl) (by kernel_rfl) (fun _ _ _ h=>h) (Or.inl ⟨by rfl,?y6x6⟩) hHeld ?r6x6
     case y6x6=>(intro w hSw;(try dsimp only at hSw);go_simp;try with_reducible rfl)
     case r6x6 =>
     refine zid (i:=8) (v:=?v8x7) rfl (by kernel_rfl) (by kernel_rfl) (by kernel_rfl) (by kernel_rfl) (fun _ _ _ h=>h) (Or.inl ⟨by rfl,?y8x7⟩) hHeld ?r8x7
     case y8x7=>(intro w hSw;(try dsimp only at hSw);go_simp;try with_reducible rfl)
     case r8x7 =>
     refine zid (i:=9) (v:=?v9x8) rfl (by kernel_rfl) (by kernel_rfl) (by kernel_rfl) (by kernel_rfl) (fun _ _ _ h=>h) (Or.inl ⟨by rfl,?y9x8⟩) hHeld ?r9x8
     case y9x8=>(intro w hSw;(try dsimp only at hSw);go_simp;try with_reducible rfl)
     case r9x8 =>
     refine zid (i:=10) (v:=?v10x9) rfl (by kernel_rfl) (by kernel_rfl) (by kernel_rfl) (by kernel_rfl) (fun _ _ _ h=>h) (Or.inl ⟨by rfl,?y10x9⟩) hHeld ?r10x9
     case y10x9=>(intro w hSw;(try dsimp only at hSw);go_simp;try with_reducible rfl)
     case r10x9 =>
     refine zid (i:=11) (v:=?v11x10) rfl (by kernel_rfl) (by kernel_rfl) (by kernel_rfl) (by kernel_rfl) (fun _ _ _ h=>h) (Or.inl ⟨by rfl,?y11x10⟩) hHeld ?r11x10
     case y11x10=>(intro w hSw;(try dsimp only at hSw);go_simp;try with_reducible rfl)
     case r11x10 =>
     refine zid (i:=12) (v:=?v12x11) rfl (by kernel_rfl) (by kernel_rfl) (by kernel_rfl) (by kernel_rfl) (fun _ _ _ h=>h) (Or.inl ⟨by rfl,?y12x11⟩) hHeld ?r12x11
     case y12x11=>(intro w hSw;(try dsimp only at hSw);go_simp;try with_reducible rfl)
     case r12x11 =>
     refine zsf (i:=2) (k:=15) (by kernel_rfl) rfl rfl (fun KQ hK=>?_) (fun KQ hK=>?_)
     ·skip
      go_simp
      refine hK.out _ _ ⟨HX5a.out,(HX5a.out).cell d0,(HX5a.out).cell d1⟩ (fun hHeld=>?_)
      clear hK KQ
      refine zsf (i:=7) (k:=15) (by kernel_rfl) rfl rfl (fun KQ hK=>?_) (fun KQ hK=>?_)
      ·skip
       refine zrZ _ rfl (.tmp 51) (.tmp 55) 29 rfl w5.heap.size 33 j0 (.slice none 0 0) 1 24 hj9 hj hy0 hy1 hy2 rfl (by decide) (.slice (some ⟨w5.heap.size,0,none⟩) 0 0) 0 [] (by rfl) Ho0.out (some ⟨bl,off,none⟩) kk cl (vs.take kk) (by rfl) (fun h=>by cases h) Htk.out (fun ad h=>by cases h;exact Hnw1.out _ (HE5.out.trans HX5a.out)) Hon1.out hb0 hb00 HX5a.out.size ?_
       intro v1 V1 hown1 hgrow1
       rw [Nat.zero_add,List.nil_append] at hown1
       have HX1:=hid (HX5a.out.grown hgrow1 fun j hj=>(World.ownsRow.lt Ho0.out j hj).1)
       have Hrow1:=hid hown1
       clear hown1 hgrow1
       refine hK.out _ _ ⟨HX1.out,(HX1.out).cell d0,(HX1.out).cell d1⟩ (fun hHeld=>?_)
       clear hK KQ
       refine zsf (i:=13) (k:=15) (by kernel_rfl) rfl rfl (fun KQ hK=>?_) (fun KQ hK=>?_)
       ·skip
        refine zrZ _ rfl (.tmp 56) (.tmp 61) 29 rfl w5.heap.size 33 j0 (.slice none 0 0) 1 24 hj9 hj hy0 hy1 hy2 rfl (by decide) v1 kk (vs.take kk) (by rfl) Hrow1.out (some ⟨bl,off+(kk+1),none⟩) (K - (kk+1)) (cl - (kk+1)) (vs.drop (kk+1)) (by rfl) (fun h=>by cases h) Hdr.out (fun ad h=>by cases h;exact Hnw2.out _ (HE5.out.trans HX1.out)) Hon2.out hb1 hb2 (HX1.out).size ?_
        intro v2 V2 hown2 hgrow2
        obtain ⟨a2,c2,e2⟩:=zc3 hown2
        subst e2
        have HX2:=hid ((HX1.out).grown hgrow2 fun j hj=>(World.ownsRow.lt Hrow1.out j hj).1)
        have Hrow2:=hid hown2
        clear hown2 hgrow2
        refine hK.out _ _ ⟨HX2.out,(HX2.out).cell d0,(HX2.out).cell d1⟩ (fun hHeld=>?_)
        clear hK KQ
        refine zid (i:=14) (v:=?v14x12) rfl (by kernel_rfl) (by kernel_rfl) (by kernel_rfl) (by kernel_rfl) (fun _ _ _ h=>h) (Or.inl ⟨by rfl,?y14x12⟩) hHeld ?r14x12
        case y14x12=>(intro w hSw;(try dsimp only at hSw);go_simp;try with_reducible rfl)
        case r14x12 =>
        refine zie (i:=15) (by kernel_rfl) rfl (fun KQ hK=>?_)
        go_simp
        refine hK.out _ _ ⟨(HX2.out.alloc (.cells #[.slice none 0 0,.slice none 0 0] 31)),((HX2.out.alloc (.cells #[.slice none 0 0,.slice none 0 0] 31))).cell d0,((HX2.out.alloc (.cells #[.slice none 0 0,.slice none 0 0] 31))).cell d1⟩ (fun hHeld=>?_)
        clear hK KQ
        refine zif (i:=16) (by kernel_rfl) (by decide) rfl (fun KQ hK=>?_)
        go_simp
        refine hK.out _ _ ?_
        clear hK KQ
        refine zig (by kernel_rfl) ?_
        go_wp2_with fail
        go_meet
        exact LvC.new HX2.out fun W hW=>Hmat.out W _ _ (HE5.out.trans (HX2.out.trans hW)) (hW.own Hrow2.out)
       ·skip
        go_simp
        refine hK.out _ _ ⟨(HX1.out.alloc (.cells #[.slice none 0 0,.slice none 0 0] 31)),((HX1.out.alloc (.cells #[.slice none 0 0,.slice none 0 0] 31))).cell d0,((HX1.out.alloc (.cells #[.slice none 0 0,.slice none 0 0] 31))).cell d1⟩ (fun hHeld=>?_)
        clear hK KQ
        refine zie (i:=13) (by kernel_rfl) rfl (fun KQ hK=>?_)
        refine zrZ _ rfl (.tmp 56) (.tmp 61) 29 rfl w5.heap.size 33 j0 (.slice none 0 0) 1 24 hj9 hj hy0 hy1 hy2 rfl (by decide) v1 kk (vs.take kk) (by rfl) (Hrow1.out.alloc (.cells #[.slice none 0 0,.slice none 0 0] 31)) (some ⟨bl,off+(kk+1),none⟩) (K - (kk+1)) (cl - (kk+1)) (vs.drop (kk+1)) (by rfl) (fun h=>by cases h) Hdr.out (fun ad h=>by cases h;exact Hnw2.out _ (HE5.out.trans (HX1.out.alloc (.cells #[.slice none 0 0,.slice none 0 0] 31)))) Hon2.out hb1 hb2 ((HX1.out.alloc (.cells #[.slice none 0 0,.slice none 0 0] 31))).size ?_
        intro v2 V2 hown2 hgrow2
        obtain ⟨a2,c2,e2⟩:=zc3 hown2
        subst e2
        have HX2:=hid (((HX1.out.alloc (.cells #[.slice none 0 0,.slice none 0 0] 31))).grown hgrow2 fun j hj=>(World.ownsRow.lt (Hrow1.out.alloc (.cells #[.slice none 0 0,.slice none 0 0] 31)) j hj).1)
        have HbZ:=hid (zf5 (World.alloc_heap_new V1 (.cells #[.slice none 0 0,.slice none 0 0] 31)) (Hrow1.out.alloc (.cells #[.slice none 0 0,.slice none 0 0] 31)) zoD hgrow2)
        have Hrow2:=hid hown2
        clear hown2 hgrow2
        refine hK.out _ _ ⟨HX2.out,(HX2.out).cell d0,(HX2.out).cell d1⟩ (fun hHeld=>?_)
        clear hK KQ
        refine zie (i:=14) (by kernel_rfl) rfl (fun KQ hK=>?_)
        go_simp
        refine hK.out _ _ ⟨HX2.out,(HX2.out).cell d0,(HX2.out).cell d1⟩ (fun hHeld=>?_)
        clear hK KQ
        have z0:=zok.c0 HbZ.out;have z1:=zok.c1 HbZ.out;have z2:=zok.fz HbZ.out 0;have z3:=zok.fz HbZ.out 1
        refine zif (i:=16) (by kernel_rfl) (by decide) rfl (fun KQ hK=>?_)
        go_simp
        refine hK.out _ _ ?_
        clear hK KQ
        refine zig (by kernel_rfl) ?_
        go_wp2_with fail
        go_meet
        exact LvC.put HX2.out HbZ.out (by have:=HX1.out.size;(try simp only [World.size_alloc]);omega) Hrow2.out fun W hW ho=>Hmat.out W _ _ (HE5.out.trans hW) ho
      ·skip
       go_simp
       refine hK.out _ _ ⟨HX5B.out,(HX5B.out).cell d0,(HX5B.out).cell d1⟩ (fun hHeld=>?_)
       clear hK KQ
       refine zie (i:=7) (by kernel_rfl) rfl (fun KQ hK=>?_)
       refine zrZ _ rfl (.tmp 51) (.tmp 55) 29 rfl w5.heap.size 33 j0 (.slice none 0 0) 1 24 hj9 hj hy0 hy1 hy2 rfl (by decide) (.slice (some ⟨w5.heap.size,0,none⟩) 0 0) 0 [] (by rfl) Ho0B.out (some ⟨bl,off,none⟩) kk cl (vs.take kk) (by rfl) (fun h=>by cases h) Htk.out (fun ad h=>by cases h;exact Hnw1.out _ (HE5.out.trans HX5B.out)) Hon1.out hb0 hb00 HX5B.out.size ?_
       intro v1 V1 hown1 hgrow1
       rw [Nat.zero_add,List.nil_append] at hown1
       have HX1:=hid (HX5B.out.grown hgrow1 fun j hj=>(World.ownsRow.lt Ho0B.out j hj).1)
       have HbY:=hid (zf5 HbB.out Ho0B.out zoD hgrow1)
       have Hrow1:=hid hown1
       clear hown1 hgrow1
       refine hK.out _ _ ⟨HX1.out,(HX1.out).cell d0,(HX1.out).cell d1⟩ (fun hHeld=>?_)
       clear hK KQ
       refine zie (i:=13) (by kernel_rfl) rfl (fun KQ hK=>?_)
       refine zrZ _ rfl (.tmp 56) (.tmp 61) 29 rfl w5.heap.size 33 j0 (.slice none 0 0) 1 24 hj9 hj hy0 hy1 hy2 rfl (by decide) v1 kk (vs.take kk) (by rfl) Hrow1.out (some ⟨bl,off+(kk+1),none⟩) (K - (kk+1)) (cl - (kk+1)) (vs.drop (kk+1)) (by rfl) (fun h=>by cases h) Hdr.out (fun ad h=>by cases h;exact Hnw2.out _ (HE5.out.trans HX1.out)) Hon2.out hb1 hb2 (HX1.out).size ?_
       intro v2 V2 hown2 hgrow2
       obtain ⟨a2,c2,e2⟩:=zc3 hown2
       subst e2
       have HX2:=hid ((HX1.out).grown hgrow2 fun j hj=>(World.ownsRow.lt Hrow1.out j hj).1)
       have HbZ:=hid (zf5 HbY.out Hrow1.out zoD hgrow2)
       have Hrow2:=hid hown2
       clear hown2 hgrow2
       refine hK.out _ _ ⟨HX2.out,(HX2.out).cell d0,(HX2.out).cell d1⟩ (fun hHeld=>?_)
       clear hK KQ
       refine zie (i:=14) (by kernel_rfl) rfl (fun KQ hK=>?_)
       go_simp
       refine hK.out _ _ ⟨HX2.out,(HX2.out).cell d0,(HX2.out).cell d1⟩ (fun hHeld=>?_)
       clear hK KQ
       have z0:=zok.c0 HbZ.out;have z1:=zok.c1 HbZ.out;have z2:=zok.fz HbZ.out 0;have z3:=zok.fz HbZ.out 1
       refine zif (i:=16) (by kernel_rfl) (by decide) rfl (fun KQ hK=>?_)
       go_simp
       refine hK.out _ _ ?_
       clear hK KQ
       refine zig (by kernel_rfl) ?_
       go_wp2_with fail
       go_meet
       exact LvC.put HX2.out HbZ.out (by have:=HX1.out.size;(try simp only [World.size_alloc]);omega) Hrow2.out fun W hW ho=>Hmat.out W _ _ (HE5.out.trans hW) ho
     ·skip
      go_simp
      refine hK.out _ _ ⟨((Ext.refl w5).alloc (.cells #[.slice none 0 0,.slice none 0 0] 31)).drew,(((Ext.refl w5).alloc (.cells #[.slice none 0 0,.slice none 0 0] 31)).drew).cell d0,(((Ext.refl w5).alloc (.cells #[.slice none 0 0,.slice none 0 0] 31)).drew).cell d1⟩ (fun hHeld=>?_)
      clear hK KQ
      refine zie (i:=2) (by kernel_rfl) rfl (fun KQ hK=>?_)
      go_simp
      refine hK.out _ _ ⟨HX5A.out,(HX5A.out).cell d0,(HX5A.out).cell d1⟩ (fun hHeld=>?_)
      clear hK KQ
      refine zie (i:=7) (by kernel_rfl) rfl (fun KQ hK=>?_)
      refine zrZ _ rfl (.tmp 51) (.tmp 55) 29 rfl w5.heap.size 33 j0 (.slice none 0 0) 1 24 hj9 hj hy0 hy1 hy2 rfl (by decide) (.slice (some ⟨w5.heap.size+1,0,none⟩) 0 0) 0 [] (by rfl) Ho0A.out (some ⟨bl,off,none⟩) kk cl (vs.take kk) (by rfl) (fun h=>by cases h) Htk.out (fun ad h=>by cases h;exact Hnw1.out _ (HE5.out.trans HX5A.out)) Hon1.out hb0 hb00 HX5A.out.size ?_
      intro v1 V1 hown1 hgrow1
      rw [Nat.zero_add,List.nil_append] at hown1
      have HX1:=hid (HX5A.out.grown hgrow1 fun j hj=>(World.ownsRow.lt Ho0A.out j hj).1)
      have HbY:=hid (zf5 HbA.out Ho0A.out zoD hgrow1)
      have Hrow1:=hid hown1
      clear hown1 hgrow1
      refine hK.out _ _ ⟨HX1.out,(HX1.out).cell d0,(HX1.out).cell d1⟩ (fun hHeld=>?_)
      clear hK KQ
      refine zie (i:=13) (by kernel_rfl) rfl (fun KQ hK=>?_)
      refine zrZ _ rfl (.tmp 56) (.tmp 61) 29 rfl w5.heap.size 33 j0 (.slice none 0 0) 1 24 hj9 hj hy0 hy1 hy2 rfl (by decide) v1 kk (vs.take kk) (by rfl) Hrow1.out (some ⟨bl,off+(kk+1),none⟩) (K - (kk+1)) (cl - (kk+1)) (vs.drop (kk+1)) (by rfl) (fun h=>by cases h) Hdr.out (fun ad h=>by cases h;exact Hnw2.out _ (HE5.out.trans HX1.out)) Hon2.out hb1 hb2 (HX1.out).size ?_
      intro v2 V2 hown2 hgrow2
      obtain ⟨a2,c2,e2⟩:=zc3 hown2
      subst e2
      have HX2:=hid ((HX1.out).grown hgrow2 fun j hj=>(World.ownsRow.lt Hrow1.out j hj).1)
      have HbZ:=hid (zf5 HbY.out Hrow1.out zoD hgrow2)
      have Hrow2:=hid hown2
      clear hown2 hgrow2
      refine hK.out _ _ ⟨HX2.out,(HX2.out).cell d0,(HX2.out).cell d1⟩ (fun hHeld=>?_)
      clear hK KQ
      refine zie (i:=14) (by kernel_rfl) rfl (fun KQ hK=>?_)
      go_simp
      refine hK.out _ _ ⟨HX2.out,(HX2.out).cell d0,(HX2.out).cell d1⟩ (fun hHeld=>?_)
      clear hK KQ
      have z0:=zok.c0 HbZ.out;have z1:=zok.c1 HbZ.out;have z2:=zok.fz HbZ.out 0;have z3:=zok.fz HbZ.out 1
      refine zif (i:=16) (by kernel_rfl) (by decide) rfl (fun KQ hK=>?_)
      go_simp
      refine hK.out _ _ ?_
      clear hK KQ
      refine zig (by kernel_rfl) ?_
      go_wp2_with fail
      go_meet
      exact LvC.put HX2.out HbZ.out (by have:=HX1.out.size;(try simp only [World.size_alloc]);omega) Hrow2.out fun W hW ho=>Hmat.out W _ _ (HE5.out.trans hW) ho
     -- end of region 10
    case rest =>
     obtain ⟨b9,a2,n2,c2,rfl,hb9,hm9,hx6⟩:=hcut
     have r0:=hb9.c0
     have r1:=hb9.c1
     have h11:=Hnu.out (.slice a2 n2 c2) _ (HE5.out.trans hx6) hm9 (hx6.sl Hs5.out)
     have Hb9:=hid hb9
     have Hm9:=hid hm9
     have Hx6:=hid hx6
     have H11:=hid h11;clear h11
     clear hb9 hm9 hx6 d0 d1 Hnu
     go_wp2_with fail
     refine H11.out.mono ?_
     rintro e w7 ⟨rfl,hx7⟩
     have hb7:=zok.ext hx7 Hb9.out
     have s0:=hb7.c0
     have s1:=hb7.c1
     have hx67:=Hx6.out.trans hx7
     have h12:=Hwr.out (.slice a2 n2 c2) w7 (HE5.out.trans hx67) (hx7.mat Hm9.out) (hx67.sl Hs5.out)
     have H12:=hid h12;have Hx67:=hid hx67;clear h12 hx67
     clear r0 r1 hb7 hx7 H11 Hwr
     go_wp2_with fail
     refine H12.out.mono ?_
     rintro e w8 ⟨rfl,hx8⟩
     have hEr:=HX3.out.trans (HE5.out.trans (Hx67.out.trans hx8))
     have HEr:=hid hEr;clear hEr
     clear s0 s1 hx8
     go_wp2_with fail
     go_ret
     exact ⟨rfl,HEr.out⟩
 ·have h8d:decide (k≤8)=false:=decide_eq_false h8
  have hft:=Hft.out
  rw [h8d] at hft
  clear Hmk Hft hQ hb
  have Hft:=hid hft;clear hft
  go_enter Tryz.func3,Tryz.ntmps3
  go_wp2_with fail
  refine (Hkn.out _ HX0.out).mono ?_
  rintro e w1 ⟨rfl,hx1⟩
  obtain ⟨q0,q1,q2,q3⟩:=Hpl.out w1 hx1
  have Hx1:=hid hx1;clear hx1
  go_wp2_with fail
  refine (Hft.out _).mono ?_
  rintro e w2 ⟨rfl,hx2⟩
  have hx2:=Hx1.out.trans hx2
  clear q0 q1 q2 q3 Hx1
  have h3:=Hkn.out _ (HX0.out.trans hx2)
  have Hx2:=hid hx2;have H3:=hid h3;clear hx2 h3
  go_wp2_with fail
  refine H3.out.mono ?_
  rintro e w3 ⟨rfl,hx3⟩
  have hEr:=(HX0.out.trans Hx2.out).trans hx3
  have HEr:=hid hEr;clear hEr
  clear hx3
  go_wp2_with fail
  go_ret
  exact ⟨rfl,HEr.out⟩
end
section
open Go.ChangeShapes Go.WideShapes Go.ChangeAt Go.WideMaps Go.WideElems Go.RowKit Go.Lib Go.Joins
section
variable {H : Type} {enc : TypeId × Value → H} {w : World} {base : Nat} {spare : Nat → Bool} {held : Bool}
theorem zsj {n:Int}(h:(Lit.int .u8 n).wf=true):∃ k:Nat,n=(k:Int)∧k<256:=by
 have h2:0≤n∧n≤255:=by
  simp [Lit.wf,IntKind.min,IntKind.max,IntKind.signed,IntKind.bits] at h;omega
 exact ⟨n.toNat,by omega,by omega⟩
theorem zsk {fuel:Nat}{c0 c1 c2 c3:Value}{x:DataW H × List MemPlace}(h:DataW.trod enc Tryz.prog w base spare held fuel 119 [c0,c1,c2,c3]=some x) :
  ∃ e:Q4,c0=.int .i8 e.1∧c1=.int .i8 e.2.1∧c2=.int .i8 e.2.2.1∧c3=.int .i8 e.2.2.2∧∀ z∈q4l e,-128≤z∧z≤127:=by
 obtain ⟨y0,y1,y2,y3,n,rfl,h0,h1,h2,h3⟩:=trod_array4 Tryz.underlying119 (show Tryz.prog.cellsOf 50=1 by kernel_rfl) h;obtain ⟨a,ha,rfl,wa⟩:=DataW.trod_int Tryz.underlying50 h0;obtain ⟨b,hb,rfl,wb⟩:=DataW.trod_int Tryz.underlying50 h1;obtain ⟨c,hc,rfl,wc⟩:=DataW.trod_int Tryz.underlying50 h2;obtain ⟨d,hd,rfl,wd⟩:=DataW.trod_int Tryz.underlying50 h3;simp only [List.cons.injEq,and_true] at ha hb hc hd;refine ⟨(a,b,c,d),ha,hb,hc,hd,fun z hz=>?_⟩;unfold q4l at hz;simp only [List.mem_cons,List.not_mem_nil,or_false] at hz;rcases hz with rfl | rfl | rfl | rfl
 ·exact bounds_i8 wa
 ·exact bounds_i8 wb
 ·exact bounds_i8 wc
 ·exact bounds_i8 wd
theorem zsl {w:World}{a:Addr}{cs:List Value}(h:w.cells? 0 a 4=some cs):∃ c0 c1 c2 c3,cs=[c0,c1,c2,c3]∧w.cell? (a.add 0)=some c0∧w.cell? (a.add 1)=some c1∧w.cell? (a.add 2)=some c2∧w.cell? (a.add 3)=some c3:=by
 obtain ⟨_,hl,hg⟩:=World.cells?_some h;match cs,hl,hg with
 | [c0,c1,c2,c3],_,hg=>exact ⟨c0,c1,c2,c3,rfl,hg 0 (by omega),hg 1 (by omega),hg 2 (by omega),hg 3 (by omega)⟩
theorem zsm {c:Value}{fuel:Nat}{x:DataW H × List MemPlace}(hf:DataW.trod enc Tryz.prog w 0 (fun _=>true) held fuel 22 [c]=some x) :
  ∃ (am:Option Addr)(Q:List Q4)(cm:Nat),c=.slice am Q.length cm∧QIn w am Q∧zoI Q:=by
 rcases Go.Deep.open_slice Tryz.underlying22 hf with ⟨h1,_⟩ | ⟨a,len0,cap0,m,n,D,Pl,h1,_,hl,hm,hmm,_,hel⟩
 ·obtain rfl:c=.slice none 0 0:=by simpa using h1
  exact ⟨none,[],0,rfl,fun i e he=>by simp at he,fun e he=>by cases he⟩
 ·obtain rfl:c=.slice (some a) len0 cap0:=by simpa using h1
  have hml:len0≤m:=by rw [hmm];split <;> omega
  have each:∀ i,i<len0→∃ e:Q4,(w.cell? ((a.add (i * 4)).add 0)=some (.int .i8 e.1)∧w.cell? ((a.add (i * 4)).add 1)=some (.int .i8 e.2.1)∧w.cell? ((a.add (i * 4)).add 2)=some (.int .i8 e.2.2.1)∧w.cell? ((a.add (i * 4)).add 3)=some (.int .i8 e.2.2.2))∧∀ z∈q4l e,-128≤z∧z≤127:=by
   intro i hi;obtain ⟨cs',h2,h3⟩:=hel i (by omega);rw [show Tryz.prog.cellsOf 119=4 by kernel_rfl] at h2;obtain ⟨c0,c1,c2,c3,rfl,g0,g1,g2,g3⟩:=zsl h2;obtain ⟨e,rfl,rfl,rfl,rfl,hs⟩:=zsk h3;exact ⟨e,⟨g0,g1,g2,g3⟩,hs⟩
  let f:Nat→Q4:=fun i=>if h:i<len0 then Classical.choose (each i h) else (0,0,0,0);have hf':∀ i (h:i<len0),f i=Classical.choose (each i h):=fun i h=>by show (if h:i<len0 then _ else _)=_;rw [dif_pos h]
  refine ⟨some a,(List.range len0).map f,cap0,by rw [List.length_map,List.length_range],?_,?_⟩
  ·intro i e he;rw [List.getElem?_map] at he;have hi:i<len0:=by
    rcases Nat.lt_or_ge i len0 with g | g
    ·exact g
    ·rw [List.getElem?_eq_none (by rw [List.length_range];exact g)] at he;cases he
   rw [List.getElem?_range hi] at he;simp only [Option.map_some,Option.some.injEq] at he;have hc:=(Classical.choose_spec (each i hi)).1;rw [← hf' i hi,he] at hc;obtain ⟨bb,off,sp⟩:=a;obtain ⟨g0,g1,g2,g3⟩:=hc;obtain ⟨_,⟨f0,_,_,_⟩,_⟩:=each 0 (by omega);have hs:=World.cell?_spot f0;have hs':sp=none:=(by simpa [Addr.add] using hs);subst hs';have ha:∀ k,((⟨bb,off,none⟩:Addr).add (i * 4)).add k=⟨bb,off+i * 4+k,none⟩:=fun k=>by
    rw [Addr.add_lit,Addr.add_lit]
   rw [ha] at g0 g1 g2 g3;exact ⟨bb,off,rfl,g0,g1,g2,g3⟩
  ·intro e he;obtain ⟨i,hi,rfl⟩:=List.mem_map.1 he;have hi:=List.mem_range.1 hi;rw [hf' i hi];exact (Classical.choose_spec (each i hi)).2
theorem zsn {r:Reach}{b0:Nat}{v:Value}{d:DataW H}{p:List MemPlace}(hv:Value.okWide Tryz.prog w r b0 24 v)(h:DataW.Trod enc Tryz.prog w 0 (fun _=>true) held 24 v d p) :
  ∃ (n o cm:Nat)(M:Bool)(am:Option Addr)(Q:List Q4),v=.agg #[.int .u8 n,.slice am Q.length cm,.bool M,.int .u8 o]∧n<256∧o<256∧QIn w am Q∧zoI Q:=by
 obtain ⟨cs,rfl,hsz⟩:=okWide_struct Tryz.underlying24 hv;rw [show Tryz.prog.cellsOf 24=4 by kernel_rfl] at hsz;obtain ⟨l⟩:=cs;match l,hsz with
 | [c0,c1,c2,c3],_ =>
  obtain ⟨fuel,hf⟩:=h
  obtain ⟨y0,y1,y2,y3,k,hx,_,h0,h1,h2,h3⟩:=trod_struct4 Tryz.underlying24 hf
  simp only [Value.cells,show Tryz.prog.cellsOf 5=1 by kernel_rfl,show Tryz.prog.cellsOf 22=1 by kernel_rfl,show Tryz.prog.cellsOf 4=1 by kernel_rfl,List.drop_zero,List.take_succ_cons,List.take_zero,List.drop_succ_cons] at h0 h1 h2 h3
  obtain ⟨n,hn,_,wn⟩:=DataW.trod_int Tryz.underlying5 h0
  obtain ⟨am,Q,cm,rfl,hQ,hb⟩:=zsm h1
  obtain ⟨M,hM,_⟩:=DataW.trod_bool Tryz.underlying4 h2
  obtain ⟨o,ho,_,wo⟩:=DataW.trod_int Tryz.underlying5 h3
  simp only [List.cons.injEq,and_true] at hn hM ho
  subst hn hM ho
  obtain ⟨n',rfl,hn'⟩:=zsj wn
  obtain ⟨o',rfl,ho'⟩:=zsj wo
  exact ⟨n',o',cm,M,am,Q,rfl,hn',ho',hQ,hb⟩
end
end
end Go.Proofs.YtipkdebkdnbieaaGreatDoor
