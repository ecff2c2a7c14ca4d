/- Walk: epimorphism.Mode of a right set. (KEEPALL) Walk: epimorphism.Mode at an index that is none. (KEEPALL) -/
import Derived.Test.YtipkdebkdnbieaaGreatDoorPa31
set_option maxRecDepth 100000
set_option maxHeartbeats 4000000
namespace Go.Proofs.YtipkdebkdnbieaaGreatDoor
open Go.RowKit Go.Lib Go.Shelf
def tkZ (z:List Int)(j:Nat):List Int:=z.take j++List.replicate (z.length - j) 0
theorem zpZ {z:List Int}{j:Nat}(h:j≤z.length):(tkZ z j).length=z.length:=by
 unfold tkZ;rw [List.length_append,List.length_take,List.length_replicate];omega
theorem zqa (z:List Int):tkZ z 0=zhd z.length:=by simp [tkZ,zhd]
theorem zqb (z:List Int):tkZ z z.length=z:=by simp [tkZ]
theorem zqc {z:List Int}{j:Nat}(h:j<z.length):(tkZ z j).set j (zas z j)=tkZ z (j+1):=by
 apply List.ext_getElem?;intro i;rw [List.getElem?_set,zpZ (by omega)];unfold tkZ;by_cases e:j=i
 ·subst e;rw [if_pos rfl,if_pos h,List.getElem?_append_left (by rw [List.length_take];omega),List.getElem?_take_of_lt (by omega)];unfold zas;rw [List.getD_eq_getElem?_getD,List.getElem?_eq_getElem h];rfl
 ·rw [if_neg e];by_cases g:i<j
  ·rw [List.getElem?_append_left (by rw [List.length_take];omega),List.getElem?_append_left (by rw [List.length_take];omega),List.getElem?_take_of_lt g,List.getElem?_take_of_lt (by omega)]
  ·rw [List.getElem?_append_right (by rw [List.length_take];omega),List.getElem?_append_right (by rw [List.length_take];omega),List.getElem?_replicate,List.getElem?_replicate,List.length_take,List.length_take];congr 1;simp only [eq_iff_iff];omega
theorem zqd {z:List Int}(h:∀ j,j<z.length→-1000≤zas z j∧zas z j≤1000):z.any far=false:=by
 cases hq:z.any far with
 | false=>rfl
 | true =>
  exfalso
  obtain ⟨y,hy,hf⟩:=List.any_eq_true.1 hq
  obtain ⟨j,hj⟩:=List.mem_iff_getElem?.1 hy
  have h2:=h j (List.getElem?_eq_some_iff.1 hj).1
  unfold zas at h2
  rw [List.getD_eq_getElem?_getD,hj,Option.getD_some] at h2
  unfold far at hf
  simp only [Bool.or_eq_true,decide_eq_true_eq] at hf
  omega
theorem zqe {w3:World}{A:Option Addr}{n c:Nat}{x:List Int}(hn:0<n)(hx:x.length=n)(h:∀ V,Ext w3 V→Sl V (.slice A n c) (zap x)):∃ b o,A=some ⟨b,o,none⟩∧∀ V,Ext w3 V→∀ j,j<n→V.cell? ⟨b,o+j,none⟩=some (.int .i64 (zas x j)):=by
 have key:∀ V,Ext w3 V→∃ b o,A=some ⟨b,o,none⟩∧∀ j,j<n→V.cell? ⟨b,o+j,none⟩=some (.int .i64 (zas x j)):=fun V hV=>by
  rcases h V hV with ⟨_,_,_,_,h0⟩ | ⟨b,o,cap,e,_,_,hc⟩
  ·have:=congrArg List.length h0;rw [zar] at this;simp only [List.length_nil] at this;omega
  ·exact ⟨b,o,(Value.slice.inj e).1,fun j hj=>hc j _ (zau (by omega))⟩
 obtain ⟨b,o,hA,_⟩:=key w3 (Ext.refl _);refine ⟨b,o,hA,fun V hV j hj=>?_⟩;obtain ⟨b2,o2,hB,hc⟩:=key V hV;rw [hA] at hB
 cases hB
 exact hc j hj
def zqf (n:Nat)(l:List (List Int))(m i:Nat):List (List Int):=(List.range i).map fun i=>znH n l m (i+1)
theorem zqg (n:Nat)(l:List (List Int))(m i:Nat):zqf n l m (i+1)=zqf n l m i++[znH n l m (i+1)]:=by
 unfold zqf;rw [List.range_succ,List.map_append];rfl
theorem zqh (vp vl:Value)(p:List Int)(l:List (List Int))(n K m:Nat)(w:World)(he:Env w)(hp:Sl w vp (zap p))(hl:Mat w vl l)(hep:zhf p l=0)(hpn:p.length=n)(hK:l.length=K)(hn0:0<n)(hn:n≤4)(hS:zlL n l)(hm:m<K) :
  Calls Tryz.prog 20 #[.agg #[vp,vl],.int .i64 (m:Int)] w fun e w'=>∃ up ul,e=.returned (.tuple #[.agg #[up,ul],.int .i64 0])∧Sl w' up (zap p)∧Mat w' ul (zqf n l m K)∧Ext w w':=by
 obtain ⟨i0,hi0,hz0,hz1,hz2⟩:=info_parts zc1;obtain ⟨j0,hj,hy0,hy1,hy2⟩:=info_parts zns;have hK9:K≤9:=by have:=hS.few;omega
 have hrl:∀ i,(l.getD i []).length≤1000:=fun i=>by
  by_cases hi:i<K
  ·rw [(hS.row (by omega)).1];omega
  ·rw [List.getD_eq_getElem?_getD,List.getElem?_eq_none (by omega)];simp
 have hck:=fun W (hE:Ext w W)=>zk8 vp vl p l W (he.ext hE) (hE.sl hp) (hE.mat hl) (by omega) (by omega) hrl;have hcl:=fun W (hE:Ext w W)=>zpG vp p W (hE.sl hp) (by omega) (fun h=>by rw [h] at hpn;simp at hpn;omega);have hrow:∀ i,i<K→(l.getD i []).length=n∧∀ j,-200≤zas (l.getD i []) j∧zas (l.getD i []) j≤200:=fun i hi=>hS.row (by omega);have hbef:(zlR n l m).length=n∧∀ j,-200≤zas (zlR n l m) j∧zas (zlR n l m) j≤200:=hS.low (by omega);have hmz:=fun i (h1:1≤i)(hi:i≤K) j (hj:j<n)=>hS.modbd (m:=m) (i:=i) (j:=j) (by omega) h1 (by omega) hj;have hma:=fun i j (hj:j<n)=>znJ (n:=n) (l:=l) (m:=m) (i:=i) hj;have hml:=fun i=>znI n l m i;have hmt:=zqg n l m;obtain ⟨ap,cp,rfl,_,_,_⟩:=hp.parts;obtain ⟨vs,hvl,hvs,hrows⟩:=hl;obtain ⟨am,cm,rfl,_,_,hcm⟩:=hvs.parts;simp only [zar,hpn,hvl,hK,hep] at hck hcl hcm hma ⊢;have hcc:∀ i,i<K→∃ u bl off,am=some ⟨bl,off,none⟩∧w.cell? ⟨bl,off+i,none⟩=some u∧Sl w u (zap (l.getD i [])):=fun i hi=>by
  obtain ⟨u,hu⟩:∃ u,vs[i]?=some u:=⟨_,List.getElem?_eq_getElem (by omega)⟩;obtain ⟨bl,off,e,h⟩:=hcm i u hu;exact ⟨u,bl,off,e,h,hrows i u hu⟩
 obtain ⟨uL,bm,om,rfl,_,_⟩:=hcc (K - 1) (by omega);have hrw:∀ i,i<K→∃ a c,w.cell? ⟨bm,om+i,none⟩=some (.slice a n c)∧∀ j,j<n→∃ b o,a=some ⟨b,o,none⟩∧w.cell? ⟨b,o+j,none⟩=some (.int .i64 (zas (l.getD i []) j)):=fun i hi=>by
  obtain ⟨u,bl,off,e,h1,h2⟩:=hcc i hi
  cases e
  obtain ⟨a,c,rfl,_,_,hcu⟩:=h2.parts;rw [zar,(hrow i hi).1] at h1;exact ⟨a,c,h1,fun j hj=>hcu j _ (zau (by rw [(hrow i hi).1];exact hj))⟩
 have hbA:zmh 31 ((w.alloc (.cells #[.slice ap n cp,.slice (some ⟨bm,om,none⟩) K cm] 31)).alloc (.cells #[.slice none 0 0,.slice none 0 0] 31)) w.heap.size (.slice ap n cp) (.slice (some ⟨bm,om,none⟩) K cm):=zmh.ext ((Ext.refl _).alloc _) (zmh.new 31 w (.slice ap n cp) (.slice (some ⟨bm,om,none⟩) K cm));have hbB:=zmh.new 31 (w.alloc (.cells #[.slice ap n cp,.slice (some ⟨bm,om,none⟩) K cm] 31)) (.slice none 0 0) (.slice none 0 0);rw [World.size_alloc] at hbB;have hX0:Ext w ((w.alloc (.cells #[.slice ap n cp,.slice (some ⟨bm,om,none⟩) K cm] 31)).alloc (.cells #[.slice none 0 0,.slice none 0 0] 31)):=((Ext.refl w).alloc _).alloc _;have c0:=hbA.c0;have c1:=hbA.c1;have hd1:decide ((m:Int)<0)=false:=decide_eq_false (by omega);have hd2:decide ((m:Int) ≥ (K:Int))=false:=decide_eq_false (by omega);have hwm:IntKind.i64.wrap ((m:Int)+1)=((m+1:Nat):Int):=by rw [IntWalk.i64_in _ (by omega)];omega
 obtain ⟨mk,hmk⟩:∃ mk,m+K=mk:=⟨_,rfl⟩;have hwk:IntKind.i64.wrap ((m:Int)+(K:Int))=(mk:Int):=by rw [IntWalk.i64_in _ (by omega)];omega
 have hKz:¬ (K:Int)=0:=by omega
 have hb0:m=0→zlR n l m=zhd n:=fun h=>by subst h;rfl
 have hb1:m ≠ 0→zlR n l m=l.getD (m - 1) []:=fun h=>by unfold zlR;rw [if_neg h]
 have Hck:=hid hck;have Hcl:=hid hcl;have Hcc:=hid hcc;have HbA:=hid hbA;have HbB:=hid hbB;have HX0:=hid hX0;have Hrow:=hid hrow;have Hbef:=hid hbef;have Hmz:=hid hmz;have Hma:=hid hma;have Hml:=hid hml;have Hmt:=hid hmt;have Hrw:=hid hrw;have Hb0:=hid hb0;have Hb1:=hid hb1;clear hck hcl hcc hbA hbB hX0 hrow hbef hmz hma hml hmt hrw hb0 hb1;clear hp hvs hvl hrows hcm he hep hrl hS;by_cases hm0:m=0
 ·have hd3:decide ((m:Int) > 0)=false:=decide_eq_false (by omega);have hd4:decide (0<m)=false:=decide_eq_false (by omega);have Hm0:=hid hm0;clear hm0;go_enter Tryz.func20,Tryz.ntmps20
  go_wp2_with fail
  generalize (w.alloc (.cells #[.slice ap n cp,.slice (some ⟨bm,om,none⟩) K cm] 31)).alloc (.cells #[.slice none 0 0,.slice none 0 0] 31)=W0 at *;refine (Hck.out _ HX0.out).mono ?_;rintro e w1 ⟨rfl,hx1⟩;have hbA1:=zmh.ext hx1 HbA.out;have d0:=hbA1.c0;have d1:=hbA1.c1;have Hx1:=hid hx1;clear hx1;clear c0 c1 hbA1;go_wp2_with (at_make;refine wpList_make_full _ rfl _ _ 33 rfl w1.heap.size 3 i0 (.int .i64 0) 1 Tryz.underlying33 hi0 hz0 hz1 _ _ _ _ n rfl rfl rfl rfl (by rw [hz2];omega) (by unfold maxLen;omega) (Nat.le_refl _) ?_;intro w2 hown hgrow;have hO:=zmg hown;have hx2:Ext w1 w2:=(Ext.refl _).grown hgrow (by simp);have hbA2:=zmh.ext (Hx1.out.trans hx2) HbA.out;have e0:=hbA2.c0;have e1:=hbA2.c1;have HO:=hid hO.sl;have Hx2:=hid (Hx1.out.trans hx2);clear hO hown hgrow hx2 hbA2)
  rw [zlM,← Hb0.out Hm0.out] at HO;have HF:=hid (fun V (hV:Ext w2 V)=>hV.sl HO.out);clear d0 d1 HO;clear e0 e1;refine (Hcl.out w2 (HX0.out.trans Hx2.out)).mono ?_;rintro e w3 ⟨u3,rfl,ho3,hx3⟩;have hs3:∃ a c,u3=.slice a n c:=by
   obtain ⟨a,c,e⟩:=zc3 ho3;rw [hpn] at e;exact ⟨a,c,e⟩
  obtain ⟨a3,c3,rfl⟩:=hs3;have hb6:=zmh.new 31 w3 (.slice a3 n c3) (.slice none 0 0);have hx6:=(Ext.refl w3).alloc (.cells #[.slice a3 n c3,.slice none 0 0] 31);have hM0:M37 w3 w3.heap.size (.slice a3 n c3) (zqf n l m 0) (.slice none 0 0) [] (w3.alloc (.cells #[.slice a3 n c3,.slice none 0 0] 31)):=⟨hb6,⟨World.ownsRow_nil _ _ _ 1,fun r h=>by cases h⟩,rfl,hx6⟩;have HF3:=hid (fun V (hV:Ext w3 V)=>HF.out V (hx3.trans hV));obtain ⟨bf,of,hA,hcF⟩:=zqe hn0 Hbef.out.1 (fun V hV=>HF3.out V hV)
  cases hA
  have hX3:=Hx2.out.trans hx3;have Ho3:=hid ho3;have HX3:=hid hX3;have HM0:=hid hM0;have HcF:=hid hcF;clear ho3 hX3 hM0 hcF;clear HF3;clear hb6 hx3 HF hx6;go_upto_region 11 with fail
  generalize w3.alloc (.cells #[.slice a3 n c3,.slice none 0 0] 31)=W6 at *;go_wp2_with fail
  go_loopw [10] (fun v10 wr=>∃ (i t:Nat)(vn:Value)(rs:List Rw),v10=.int .i64 t∧t=m+1+i∧i≤K∧rs.length=i∧Hid (M37 w3 w3.heap.size (.slice a3 n c3) (zqf n l m i) vn rs wr)) (fun v10 _=>(m+1+K) - (zal v10).toNat)
  case atStart=>exact ⟨0,m+1,_,_,by go_num,rfl,Nat.zero_le _,rfl,HM0⟩
  case round =>
   obtain ⟨i,t,vn,rs,rfl,ht,hiK,hri,HM⟩:=hrel;obtain ⟨wo,hwo⟩:∃ wo,wr=wo:=⟨_,rfl⟩;rw [hwo] at HM ⊢;clear hwo;obtain ⟨avn,cvn,evn⟩:=zc3 HM.out.q.1;subst evn;have Hri:=hid hri;clear hri;have hEr:=HX3.out.trans HM.out.x;have hbr:=zmh.ext hEr HbA.out;have c0:=hbr.c0;have c1:=hbr.c1;by_cases hin:i<K
   ·obtain ⟨t1,ht1⟩:∃ t1,m+i=t1:=⟨_,rfl⟩;obtain ⟨rx,hrx⟩:∃ rx,t1 % K=rx:=⟨_,rfl⟩;have hrxK:rx<K:=(by rw [← hrx];exact Nat.mod_lt _ (by omega));have hle:(t:Int)≤(mk:Int):=(by omega);have hw1:IntKind.i64.wrap ((t:Int) - 1)=(t1:Int):=(by rw [IntWalk.i64_in _ (by omega)];omega);have hw2:(t1:Int).tmod (K:Int)=(rx:Int):=(by rw [Int.tmod_eq_emod_of_nonneg (by omega),← hrx];rfl);have hw3:IntKind.i64.wrap (rx:Int)=(rx:Int):=IntWalk.i64_in _ (by omega);have hw6:IntKind.i64.wrap ((K:Int) - 1)=((K - 1:Nat):Int):=(by rw [IntWalk.i64_in _ (by omega)];omega);have hx0:(0:Int)≤(rx:Int):=(by omega);have hx1':(rx:Int)<(K:Int):=(by omega);have hx2':(0:Int)≤((K - 1:Nat):Int):=(by omega);have hx3':((K - 1:Nat):Int)<(K:Int):=(by omega);obtain ⟨ar,cr,gr,er⟩:=Hrw.out rx hrxK;obtain ⟨aL,cL,gL,eL⟩:=Hrw.out (K - 1) (by omega);have hza:=fun j hj=>Hma.out (i+1) j hj;have hzb:=fun j hj=>Hmz.out (i+1) (by omega) (by omega) j hj;have hzl:=Hml.out (i+1);have hzt:=Hmt.out i;rw [show m+(i+1) - 1=t1 by omega,hrx] at hza;have hz0':tkZ (znH n l m (i+1)) 0=zhd n:=(by rw [zqa,hzl]);have hzs:=fun j (hj:j<n)=>zqc (z:=znH n l m (i+1)) (j:=j) (by rw [hzl];exact hj);have hzn:=fun j (hj:j≤n)=>zpZ (z:=znH n l m (i+1)) (j:=j) (by rw [hzl];exact hj);have hzf:tkZ (znH n l m (i+1)) n=znH n l m (i+1):=by
     have:=zqb (znH n l m (i+1));rwa [hzl] at this
    generalize znH n l m (i+1)=z at *;have hEw:=HX0.out.trans hEr;have Gr:=hid gr;have Er:=hid er;have GL:=hid gL;have EL:=hid eL;have Hza:=hid hza;have Hzb:=hid hzb;have Hzl:=hid hzl;have Hzt:=hid hzt;have Hz0':=hid hz0';have Hzs:=hid hzs;have Hzn:=hid hzn;have Hzf:=hid hzf;have HEw:=hid hEw;have Ht:=hid ht;have Ht1:=hid ht1;have Hrx:=hid hrx;clear gr er gL eL hza hzb hzl hzt hz0' hzs hzn hzf hEw ht ht1 hrx;clear hbr;go_wp2_with (at_make;refine wpList_make_full _ rfl _ _ 33 rfl wo.heap.size 3 i0 (.int .i64 0) 1 Tryz.underlying33 hi0 hz0 hz1 _ _ _ _ n rfl rfl rfl rfl (by rw [hz2];omega) (by unfold maxLen;omega) (Nat.le_refl _) ?_;intro w5 hown hgrow;have HO5:=hid (zmg hown);have HE5:=hid ((Ext.refl wo).grown hgrow (by simp));clear hown hgrow)
    rw [zlM,← Hz0'.out] at HO5;clear c0 c1;go_loopw [60] (fun v60 wr=>∃ j:Nat,v60=.int .i64 j∧j≤n∧Hid (zc2 wr wo.heap.size (.slice (some ⟨wo.heap.size,0,none⟩) n n) (tkZ z j))∧Hid (Ext wo wr)) (fun v60 _=>n - (zal v60).toNat)
    case atStart=>exact ⟨0,rfl,Nat.zero_le _,HO5,HE5⟩
    case round =>
     obtain ⟨j,rfl,hjn0,HO,HEi⟩:=hrel;by_cases hjn:j<n
     ·have hEi:=HEw.out.trans HEi.out;have hE3i:=HM.out.x.trans HEi.out;have hEAi:=HX3.out.trans hE3i;have hbi:=zmh.ext hEAi HbA.out;have c1:=hbi.c1;have kr:=hEi.cell Gr.out;have kL:=hEi.cell GL.out;obtain ⟨br,orr,rfl,hr1⟩:=Er.out j hjn;obtain ⟨bL,oL,rfl,hL1⟩:=EL.out j hjn;have krj:=hEi.cell hr1;have kLj:=hEi.cell hL1;have kF:=HcF.out wr hE3i j hjn;try rw [Nat.zero_add] at kF
      have hnj:=Hzn.out j (by omega);rw [Hzl.out] at hnj;have hO:zc2 wr wo.heap.size (.slice (some ⟨wo.heap.size,0,none⟩) (tkZ z j).length n) (tkZ z j):=(by rw [hnj];exact HO.out);have hc3:=zgM hO j (by rw [hnj];exact hjn);have hfz:wr.frozen? ⟨wo.heap.size,j,none⟩=false:=World.ownsRow.frozenAt hO j;have hzaj:=Hza.out j hjn;have hzsj:=Hzs.out j hjn;have bA:=(Hrow.out rx hrxK).2 j;have bF:=Hbef.out.2 j;have bL':=(Hrow.out (K - 1) (by omega)).2 j;generalize zas (l.getD rx []) j=zA at *;generalize zas (zlR n l m) j=zF at *;generalize zas (l.getD (K - 1) []) j=zL at *;have hset1:=zgL hO j (zA - zF);have hwA:IntKind.i64.wrap (zA - zF)=zA - zF:=IntWalk.i64_in _ (by omega);have hj0:(0:Int)≤(j:Int):=(by omega);have hj1:(j:Int)<(n:Int):=(by omega);have hE7:Ext w (wr.setCell ⟨wo.heap.size,j,none⟩ (.int .i64 (zA - zF))):=hEi.setCell (p:=⟨wo.heap.size,j,none⟩) HEw.out.size _;have hE37:Ext w3 (wr.setCell ⟨wo.heap.size,j,none⟩ (.int .i64 (zA - zF))):=hE3i.setCell (p:=⟨wo.heap.size,j,none⟩) HM.out.x.size _;have hEr7:Ext wo (wr.setCell ⟨wo.heap.size,j,none⟩ (.int .i64 (zA - zF))):=HEi.out.setCell (p:=⟨wo.heap.size,j,none⟩) (Nat.le_refl _) _;have Hset1:=hid hset1;have HE7:=hid hE7;have HE37:=hid hE37;have HEr7:=hid hEr7;have Hzsj:=hid hzsj;have Hnj:=hid hnj;clear hset1 hE7 hE37 hEr7 hzsj hnj;have HL1:=hid hL1;clear hO hbi hr1 hL1 hEi hE3i hEAi;by_cases hc:K<t
      ·have hgt:decide ((t:Int) > (K:Int))=true:=decide_eq_true (by omega);rw [if_pos (by have:=Ht.out;omega)] at hzaj;have hwB:IntKind.i64.wrap (zA - zF+zL)=zA - zF+zL:=IntWalk.i64_in _ (by omega);have hnz:zas ((tkZ z j).set j (zA - zF)) j=zA - zF:=by
        unfold zas;rw [List.getD_eq_getElem?_getD,List.getElem?_set_self (by rw [Hnj.out];exact hjn)];rfl
       have hs9:=Hzsj.out;rw [hzaj] at hs9;have Hs9:=hid hs9;have Hnz:=hid hnz;clear hs9 hnz;clear hzaj;go_wp2_with fail
       go_region
       have hS1:=((Ext.refl _).drew).ownI Hset1.out;have hE71:=HE7.out.drew;have hE371:=HE37.out.drew;have hEr71:=HEr7.out.drew;clear c1 kr kL krj kLj kF hc3 hfz Hset1 HE7 HE37 HEr7;generalize (wr.setCell ⟨wo.heap.size,j,none⟩ (.int .i64 (zA - zF))).drew=W1 at *;have c1:=(zmh.ext (HX3.out.trans hE371) HbA.out).c1;have kL:=hE71.cell GL.out;have kLj:=hE71.cell HL1.out;have hlz:((tkZ z j).set j (zA - zF)).length=n:=(by rw [List.length_set];exact Hnj.out);have hO2:zc2 W1 wo.heap.size (.slice (some ⟨wo.heap.size,0,none⟩) ((tkZ z j).set j (zA - zF)).length n) ((tkZ z j).set j (zA - zF)):=by
        rw [hlz];have:=hS1;rw [Hnj.out] at this;exact this
       have hc4:=zgM hO2 j (by rw [hlz];exact hjn);rw [Hnz.out] at hc4;have hfz2:W1.frozen? ⟨wo.heap.size,j,none⟩=false:=World.ownsRow.frozenAt hO2 j;have hset2:=zgL hO2 j (zA - zF+zL);rw [hlz,List.set_set,Hs9.out] at hset2;have hEr9:Ext wo (W1.setCell ⟨wo.heap.size,j,none⟩ (.int .i64 (zA - zF+zL))):=hEr71.setCell (p:=⟨wo.heap.size,j,none⟩) (Nat.le_refl _) _;have Hset2:=hid hset2;have HEr9:=hid hEr9;clear hset2 hEr9;clear hO2 hS1 hE71 hE371 hEr71 hlz;go_wp2_with fail
       go_region
       have HS9:=hid (((Ext.refl _).drew).ownI Hset2.out);have HE9:=hid HEr9.out.drew;clear c1 kL kLj hc4 hfz2 Hset2 HEr9;go_wp2_with fail
       go_roundw
       case rel=>exact ⟨j+1,by go_num,hjn,HS9,HE9⟩
       case measure=>simp [zal];omega
      ·have hgt:decide ((t:Int) > (K:Int))=false:=decide_eq_false (by omega);rw [if_neg (by have:=Ht.out;omega)] at hzaj;have hlst:(tkZ z j).set j (zA - zF)=tkZ z (j+1):=(by rw [← hzaj];exact Hzsj.out);have hs9:=Hset1.out;rw [Hnj.out,hlst] at hs9;have hEr9:=HEr7.out;have Hs9:=hid hs9;have HEr9:=hid hEr9;clear hs9 hEr9;clear hzaj hlst;go_wp2_with fail
       go_region
       have HS9:=hid (((Ext.refl _).drew).ownI Hs9.out);have HE9:=hid HEr9.out.drew;clear c1 kr kL krj kLj kF hc3 hfz Hset1 HE7 HE37 HEr7;go_wp2_with fail
       go_roundw
       case rel=>exact ⟨j+1,by go_num,hjn,HS9,HE9⟩
       case measure=>simp [zal];omega
     ·have hnj2:¬ (j:Int)<(n:Int):=(by omega);have hje:j=n:=(by omega);have ho:=HO.out;rw [hje,Hzf.out] at ho;have hfar:z.any far=false:=zqd fun q hq=>Hzb.out q (by rw [Hzl.out] at hq;exact hq);have hcon:=zpX (some ⟨wo.heap.size,0,none⟩) n z wr (by rw [Hzl.out];omega) (by
       obtain ⟨a',c',e,_,_,hcz⟩:=ho.sl.parts;rw [(Value.slice.inj e).1];exact hcz)
      rw [Hzl.out,hfar] at hcon;have hM5:=HM.out.ext HEi.out;have Hcon:=hid hcon;have HM5:=hid hM5;have Ho:=hid ho;clear hcon hM5 ho;clear hfar hje;go_wp2_with fail
      refine Hcon.out.mono ?_;rintro e w6 ⟨rfl,hx6⟩;have hM6:=HM5.out.ext hx6;have ho6:=zam (hx6.ownI Ho.out) HM.out.x.size;have hqo:=hM6.q.1;have hb6:=hM6.b;have q1:=hb6.c1;have hbase:=hM6.x.size;have hm3:rs.length+1≤maxLen:=(by unfold maxLen;have:=Hri.out;omega);have hm4:(rs.length+1) * 24≤140737488355328:=(by have:=Hri.out;omega);have HM6:=hid hM6;have Ho6:=hid ho6;clear hM6 ho6;clear hx6;go_wp2_with (at_builtin;refine wpList_append_own _ rfl _ _ 29 rfl w3.heap.size 33 j0 (.slice none 0 0) 1 24 Tryz.underlying29 hj hy0 hy1 hy2 rfl (by decide) _ _ _ rfl (hqo.alloc _) ⟨w6.heap.size,0,none⟩ 1 1 [.slice (some ⟨wo.heap.size,0,none⟩) n n] rfl rfl (cell_one_new _ _ _) (by simp [Value.oneCell']) hm3 hm4 (by rw [World.size_alloc];omega) ?_;intro v7 V7 hown7 hgrow7 _;obtain ⟨a7,c7,e7⟩:=zc3 hown7;subst e7;have hbV:zmh 31 V7 w3.heap.size (.slice a3 n c3) (.slice avn rs.length cvn):=zf7 (((Ext.refl w6).alloc (.cells #[.slice (some ⟨wo.heap.size,0,none⟩) n n] 33)).heap hb6) (World.ownsRow.alloc hqo _) zpP hgrow7;have q1V:=hbV.c1;have zV:=hbV.fz 1)
      go_roundw
      case rel =>
       have hmo:=HM6.out.more (r:=⟨z,.slice (some ⟨wo.heap.size,0,none⟩) n n,rfl⟩) (Nat.le_refl _) Ho6.out (by show z.length≤1000000;rw [Hzl.out];omega) hown7 hgrow7;exact ⟨i+1,t+1,_,rs++[⟨z,.slice (some ⟨wo.heap.size,0,none⟩) n n,rfl⟩],by go_num,by have:=Ht.out;omega,hin,by rw [List.length_append,Hri.out];rfl,hid (by rw [Hzt.out];exact hmo)⟩
      case measure =>
       have:=Ht.out;simp [zal];omega
   ·have hie:i=K:=(by omega);have hnle:¬ (t:Int)≤(mk:Int):=(by omega);have hM:=HM.out;have hbB2:=zmh.ext hEr HbB.out;have hm9:=hM.m;rw [hie] at hm9;have hb:=hM.b;have d0:=hb.c0;have d1:=hb.c1;have r0:=hbB2.c0;have r1:=hbB2.c1;have z0:=hbB2.fz 0;have z1:=hbB2.fz 1;have ho9:=hM.x.own Ho3.out;have hq9:=hM.q;have hXr:=HX0.out.trans hEr;have Hm9:=hid hm9;have Ho9:=hid ho9;have Hq9:=hid hq9;have HXr:=hid hXr;clear hm9 ho9 hq9 hXr;clear hbr hM hEr ht hie c0 c1;go_wp2_with fail
    have hfin:=hbB2.put (.slice a3 n c3) (.slice avn rs.length cvn);have hd0:=hfin.c0;have hd1:=hfin.c1;have hq4:=zpY (zpY Hq9.out hbB2 0 (.slice a3 n c3)) (hbB2.put0 (.slice a3 n c3)) 1 (.slice avn rs.length cvn);have ho4:=zfA (hbB2.put0 (.slice a3 n c3)) (zfA hbB2 Ho9.out zpQ 0 (.slice a3 n c3)) zpQ 1 (.slice avn rs.length cvn);have hmat:=RwM.reads hq4;rw [Hm9.out] at hmat;exact bodyPost_ret (v:=.tuple #[.agg #[.slice a3 n c3,.slice avn rs.length cvn],.int .i64 0]) (by simp [results,Tryz.results20,go_sem,hd0,hd1]) rfl ⟨_,_,rfl,zan ho4,hmat,(HXr.out.setCell (p:=⟨w.heap.size+1,0,none⟩) (by show w.heap.size≤w.heap.size+1;omega) _).setCell (p:=⟨w.heap.size+1,1,none⟩) (by show w.heap.size≤w.heap.size+1;omega) _⟩
 ·obtain ⟨af,cf,h1,h2⟩:=Hrw.out (m - 1) (by omega);have hf9:Sl w (.slice af n cf) (zap (zlR n l m)):=by
   obtain ⟨u,bl,off,e,g1,g2⟩:=Hcc.out (m - 1) (by omega)
   cases e
   rw [h1] at g1;obtain rfl:=Option.some.inj g1;rw [Hb1.out hm0];exact g2
  have hd3:decide ((m:Int) > 0)=true:=decide_eq_true (by omega);have hw9:IntKind.i64.wrap ((m:Int) - 1)=((m - 1:Nat):Int):=by rw [IntWalk.i64_in _ (by omega)];omega
  have hk8:(0:Int)≤((m - 1:Nat):Int):=by omega
  have hk9:((m - 1:Nat):Int)<(K:Int):=by omega
  have Hh1:=hid h1;have Hf9:=hid hf9;clear hf9;clear h1 h2;go_enter Tryz.func20,Tryz.ntmps20
  go_wp2_with fail
  generalize (w.alloc (.cells #[.slice ap n cp,.slice (some ⟨bm,om,none⟩) K cm] 31)).alloc (.cells #[.slice none 0 0,.slice none 0 0] 31)=W0 at *;refine (Hck.out _ HX0.out).mono ?_;rintro e w1 ⟨rfl,hx1⟩;have hbA1:=zmh.ext hx1 HbA.out;have d0:=hbA1.c0;have d1:=hbA1.c1;have Hx1:=hid hx1;clear hx1;clear c0 c1 hbA1;go_wp2_with (at_make;refine wpList_make_full _ rfl _ _ 33 rfl w1.heap.size 3 i0 (.int .i64 0) 1 Tryz.underlying33 hi0 hz0 hz1 _ _ _ _ n rfl rfl rfl rfl (by rw [hz2];omega) (by unfold maxLen;omega) (Nat.le_refl _) ?_;intro w2 hown hgrow;have hO:=zmg hown;have hx2:Ext w1 w2:=(Ext.refl _).grown hgrow (by simp);have hbA2:=zmh.ext (Hx1.out.trans hx2) HbA.out;have e0:=hbA2.c0;have e1:=hbA2.c1;have hL:=(HX0.out.trans (Hx1.out.trans hx2)).cell Hh1.out;have HO:=hid hO.sl;have Hx2:=hid (Hx1.out.trans hx2);clear hO hown hgrow hx2 hbA2)
  have HF:=hid (fun V (hV:Ext w2 V)=>((HX0.out.trans Hx2.out).trans hV).sl Hf9.out);clear d0 d1 HO hL;clear e0 e1;refine (Hcl.out w2 (HX0.out.trans Hx2.out)).mono ?_;rintro e w3 ⟨u3,rfl,ho3,hx3⟩;have hs3:∃ a c,u3=.slice a n c:=by
   obtain ⟨a,c,e⟩:=zc3 ho3;rw [hpn] at e;exact ⟨a,c,e⟩
  obtain ⟨a3,c3,rfl⟩:=hs3;have hb6:=zmh.new 31 w3 (.slice a3 n c3) (.slice none 0 0);have hx6:=(Ext.refl w3).alloc (.cells #[.slice a3 n c3,.slice none 0 0] 31);have hM0:M37 w3 w3.heap.size (.slice a3 n c3) (zqf n l m 0) (.slice none 0 0) [] (w3.alloc (.cells #[.slice a3 n c3,.slice none 0 0] 31)):=⟨hb6,⟨World.ownsRow_nil _ _ _ 1,fun r h=>by cases h⟩,rfl,hx6⟩;have HF3:=hid (fun V (hV:Ext w3 V)=>HF.out V (hx3.trans hV));obtain ⟨bf,of,hA,hcF⟩:=zqe hn0 Hbef.out.1 (fun V hV=>HF3.out V hV)
  cases hA
  have hX3:=Hx2.out.trans hx3;have Ho3:=hid ho3;have HX3:=hid hX3;have HM0:=hid hM0;have HcF:=hid hcF;clear ho3 hX3 hM0 hcF;clear HF3;clear hb6 hx3 HF hx6;go_upto_region 11 with fail
  generalize w3.alloc (.cells #[.slice a3 n c3,.slice none 0 0] 31)=W6 at *;go_wp2_with fail
  go_loopw [10] (fun v10 wr=>∃ (i t:Nat)(vn:Value)(rs:List Rw),v10=.int .i64 t∧t=m+1+i∧i≤K∧rs.length=i∧Hid (M37 w3 w3.heap.size (.slice a3 n c3) (zqf n l m i) vn rs wr)) (fun v10 _=>(m+1+K) - (zal v10).toNat)
  case atStart=>exact ⟨0,m+1,_,_,by go_num,rfl,Nat.zero_le _,rfl,HM0⟩
  case round =>
   obtain ⟨i,t,vn,rs,rfl,ht,hiK,hri,HM⟩:=hrel;obtain ⟨wo,hwo⟩:∃ wo,wr=wo:=⟨_,rfl⟩;rw [hwo] at HM ⊢;clear hwo;obtain ⟨avn,cvn,evn⟩:=zc3 HM.out.q.1;subst evn;have Hri:=hid hri;clear hri;have hEr:=HX3.out.trans HM.out.x;have hbr:=zmh.ext hEr HbA.out;have c0:=hbr.c0;have c1:=hbr.c1;by_cases hin:i<K
   ·obtain ⟨t1,ht1⟩:∃ t1,m+i=t1:=⟨_,rfl⟩;obtain ⟨rx,hrx⟩:∃ rx,t1 % K=rx:=⟨_,rfl⟩;have hrxK:rx<K:=(by rw [← hrx];exact Nat.mod_lt _ (by omega));have hle:(t:Int)≤(mk:Int):=(by omega);have hw1:IntKind.i64.wrap ((t:Int) - 1)=(t1:Int):=(by rw [IntWalk.i64_in _ (by omega)];omega);have hw2:(t1:Int).tmod (K:Int)=(rx:Int):=(by rw [Int.tmod_eq_emod_of_nonneg (by omega),← hrx];rfl);have hw3:IntKind.i64.wrap (rx:Int)=(rx:Int):=IntWalk.i64_in _ (by omega);have hw6:IntKind.i64.wrap ((K:Int) - 1)=((K - 1:Nat):Int):=(by rw [IntWalk.i64_in _ (by omega)];omega);have hx0:(0:Int)≤(rx:Int):=(by omega);have hx1':(rx:Int)<(K:Int):=(by omega);have hx2':(0:Int)≤((K - 1:Nat):Int):=(by omega);have hx3':((K - 1:Nat):Int)<(K:Int):=(by omega);obtain ⟨ar,cr,gr,er⟩:=Hrw.out rx hrxK;obtain ⟨aL,cL,gL,eL⟩:=Hrw.out (K - 1) (by omega);have hza:=fun j hj=>Hma.out (i+1) j hj;have hzb:=fun j hj=>Hmz.out (i+1) (by omega) (by omega) j hj;have hzl:=Hml.out (i+1);have hzt:=Hmt.out i;rw [show m+(i+1) - 1=t1 by omega,hrx] at hza;have hz0':tkZ (znH n l m (i+1)) 0=zhd n:=(by rw [zqa,hzl]);have hzs:=fun j (hj:j<n)=>zqc (z:=znH n l m (i+1)) (j:=j) (by rw [hzl];exact hj);have hzn:=fun j (hj:j≤n)=>zpZ (z:=znH n l m (i+1)) (j:=j) (by rw [hzl];exact hj);have hzf:tkZ (znH n l m (i+1)) n=znH n l m (i+1):=by
     have:=zqb (znH n l m (i+1));rwa [hzl] at this
    generalize znH n l m (i+1)=z at *;have hEw:=HX0.out.trans hEr;have Gr:=hid gr;have Er:=hid er;have GL:=hid gL;have EL:=hid eL;have Hza:=hid hza;have Hzb:=hid hzb;have Hzl:=hid hzl;have Hzt:=hid hzt;have Hz0':=hid hz0';have Hzs:=hid hzs;have Hzn:=hid hzn;have Hzf:=hid hzf;have HEw:=hid hEw;have Ht:=hid ht;have Ht1:=hid ht1;have Hrx:=hid hrx;clear gr er gL eL hza hzb hzl hzt hz0' hzs hzn hzf hEw ht ht1 hrx;clear hbr;go_wp2_with (at_make;refine wpList_make_full _ rfl _ _ 33 rfl wo.heap.size 3 i0 (.int .i64 0) 1 Tryz.underlying33 hi0 hz0 hz1 _ _ _ _ n rfl rfl rfl rfl (by rw [hz2];omega) (by unfold maxLen;omega) (Nat.le_refl _) ?_;intro w5 hown hgrow;have HO5:=hid (zmg hown);have HE5:=hid ((Ext.refl wo).grown hgrow (by simp));clear hown hgrow)
    rw [zlM,← Hz0'.out] at HO5;clear c0 c1;go_loopw [60] (fun v60 wr=>∃ j:Nat,v60=.int .i64 j∧j≤n∧Hid (zc2 wr wo.heap.size (.slice (some ⟨wo.heap.size,0,none⟩) n n) (tkZ z j))∧Hid (Ext wo wr)) (fun v60 _=>n - (zal v60).toNat)
    case atStart=>exact ⟨0,rfl,Nat.zero_le _,HO5,HE5⟩
    case round =>
     obtain ⟨j,rfl,hjn0,HO,HEi⟩:=hrel;by_cases hjn:j<n
     ·have hEi:=HEw.out.trans HEi.out;have hE3i:=HM.out.x.trans HEi.out;have hEAi:=HX3.out.trans hE3i;have hbi:=zmh.ext hEAi HbA.out;have c1:=hbi.c1;have kr:=hEi.cell Gr.out;have kL:=hEi.cell GL.out;obtain ⟨br,orr,rfl,hr1⟩:=Er.out j hjn;obtain ⟨bL,oL,rfl,hL1⟩:=EL.out j hjn;have krj:=hEi.cell hr1;have kLj:=hEi.cell hL1;have kF:=HcF.out wr hE3i j hjn;try rw [Nat.zero_add] at kF
      have hnj:=Hzn.out j (by omega);rw [Hzl.out] at hnj;have hO:zc2 wr wo.heap.size (.slice (some ⟨wo.heap.size,0,none⟩) (tkZ z j).length n) (tkZ z j):=(by rw [hnj];exact HO.out);have hc3:=zgM hO j (by rw [hnj];exact hjn);have hfz:wr.frozen? ⟨wo.heap.size,j,none⟩=false:=World.ownsRow.frozenAt hO j;have hzaj:=Hza.out j hjn;have hzsj:=Hzs.out j hjn;have bA:=(Hrow.out rx hrxK).2 j;have bF:=Hbef.out.2 j;have bL':=(Hrow.out (K - 1) (by omega)).2 j;generalize zas (l.getD rx []) j=zA at *;generalize zas (zlR n l m) j=zF at *;generalize zas (l.getD (K - 1) []) j=zL at *;have hset1:=zgL hO j (zA - zF);have hwA:IntKind.i64.wrap (zA - zF)=zA - zF:=IntWalk.i64_in _ (by omega);have hj0:(0:Int)≤(j:Int):=(by omega);have hj1:(j:Int)<(n:Int):=(by omega);have hE7:Ext w (wr.setCell ⟨wo.heap.size,j,none⟩ (.int .i64 (zA - zF))):=hEi.setCell (p:=⟨wo.heap.size,j,none⟩) HEw.out.size _;have hE37:Ext w3 (wr.setCell ⟨wo.heap.size,j,none⟩ (.int .i64 (zA - zF))):=hE3i.setCell (p:=⟨wo.heap.size,j,none⟩) HM.out.x.size _;have hEr7:Ext wo (wr.setCell ⟨wo.heap.size,j,none⟩ (.int .i64 (zA - zF))):=HEi.out.setCell (p:=⟨wo.heap.size,j,none⟩) (Nat.le_refl _) _;have Hset1:=hid hset1;have HE7:=hid hE7;have HE37:=hid hE37;have HEr7:=hid hEr7;have Hzsj:=hid hzsj;have Hnj:=hid hnj;clear hset1 hE7 hE37 hEr7 hzsj hnj;have HL1:=hid hL1;clear hO hbi hr1 hL1 hEi hE3i hEAi;by_cases hc:K<t
      ·have hgt:decide ((t:Int) > (K:Int))=true:=decide_eq_true (by omega);rw [if_pos (by have:=Ht.out;omega)] at hzaj;have hwB:IntKind.i64.wrap (zA - zF+zL)=zA - zF+zL:=IntWalk.i64_in _ (by omega);have hnz:zas ((tkZ z j).set j (zA - zF)) j=zA - zF:=by
        unfold zas;rw [List.getD_eq_getElem?_getD,List.getElem?_set_self (by rw [Hnj.out];exact hjn)];rfl
       have hs9:=Hzsj.out;rw [hzaj] at hs9;have Hs9:=hid hs9;have Hnz:=hid hnz;clear hs9 hnz;clear hzaj;go_wp2_with fail
       go_region
       have hS1:=((Ext.refl _).drew).ownI Hset1.out;have hE71:=HE7.out.drew;have hE371:=HE37.out.drew;have hEr71:=HEr7.out.drew;clear c1 kr kL krj kLj kF hc3 hfz Hset1 HE7 HE37 HEr7;generalize (wr.setCell ⟨wo.heap.size,j,none⟩ (.int .i64 (zA - zF))).drew=W1 at *;have c1:=(zmh.ext (HX3.out.trans hE371) HbA.out).c1;have kL:=hE71.cell GL.out;have kLj:=hE71.cell HL1.out;have hlz:((tkZ z j).set j (zA - zF)).length=n:=(by rw [List.length_set];exact Hnj.out);have hO2:zc2 W1 wo.heap.size (.slice (some ⟨wo.heap.size,0,none⟩) ((tkZ z j).set j (zA - zF)).length n) ((tkZ z j).set j (zA - zF)):=by
        rw [hlz];have:=hS1;rw [Hnj.out] at this;exact this
       have hc4:=zgM hO2 j (by rw [hlz];exact hjn);rw [Hnz.out] at hc4;have hfz2:W1.frozen? ⟨wo.heap.size,j,none⟩=false:=World.ownsRow.frozenAt hO2 j;have hset2:=zgL hO2 j (zA - zF+zL);rw [hlz,List.set_set,Hs9.out] at hset2;have hEr9:Ext wo (W1.setCell ⟨wo.heap.size,j,none⟩ (.int .i64 (zA - zF+zL))):=hEr71.setCell (p:=⟨wo.heap.size,j,none⟩) (Nat.le_refl _) _;have Hset2:=hid hset2;have HEr9:=hid hEr9;clear hset2 hEr9;clear hO2 hS1 hE71 hE371 hEr71 hlz;go_wp2_with fail
       go_region
       have HS9:=hid (((Ext.refl _).drew).ownI Hset2.out);have HE9:=hid HEr9.out.drew;clear c1 kL kLj hc4 hfz2 Hset2 HEr9;go_wp2_with fail
       go_roundw
       case rel=>exact ⟨j+1,by go_num,hjn,HS9,HE9⟩
       case measure=>simp [zal];omega
      ·have hgt:decide ((t:Int) > (K:Int))=false:=decide_eq_false (by omega);rw [if_neg (by have:=Ht.out;omega)] at hzaj;have hlst:(tkZ z j).set j (zA - zF)=tkZ z (j+1):=(by rw [← hzaj];exact Hzsj.out);have hs9:=Hset1.out;rw [Hnj.out,hlst] at hs9;have hEr9:=HEr7.out;have Hs9:=hid hs9;have HEr9:=hid hEr9;clear hs9 hEr9;clear hzaj hlst;go_wp2_with fail
       go_region
       have HS9:=hid (((Ext.refl _).drew).ownI Hs9.out);have HE9:=hid HEr9.out.drew;clear c1 kr kL krj kLj kF hc3 hfz Hset1 HE7 HE37 HEr7;go_wp2_with fail
       go_roundw
       case rel=>exact ⟨j+1,by go_num,hjn,HS9,HE9⟩
       case measure=>simp [zal];omega
     ·have hnj2:¬ (j:Int)<(n:Int):=(by omega);have hje:j=n:=(by omega);have ho:=HO.out;rw [hje,Hzf.out] at ho;have hfar:z.any far=false:=zqd fun q hq=>Hzb.out q (by rw [Hzl.out] at hq;exact hq);have hcon:=zpX (some ⟨wo.heap.size,0,none⟩) n z wr (by rw [Hzl.out];omega) (by
       obtain ⟨a',c',e,_,_,hcz⟩:=ho.sl.parts;rw [(Value.slice.inj e).1];exact hcz)
      rw [Hzl.out,hfar] at hcon;have hM5:=HM.out.ext HEi.out;have Hcon:=hid hcon;have HM5:=hid hM5;have Ho:=hid ho;clear hcon hM5 ho;clear hfar hje;go_wp2_with fail
      refine Hcon.out.mono ?_;rintro e w6 ⟨rfl,hx6⟩;have hM6:=HM5.out.ext hx6;have ho6:=zam (hx6.ownI Ho.out) HM.out.x.size;have hqo:=hM6.q.1;have hb6:=hM6.b;have q1:=hb6.c1;have hbase:=hM6.x.size;have hm3:rs.length+1≤maxLen:=(by unfold maxLen;have:=Hri.out;omega);have hm4:(rs.length+1) * 24≤140737488355328:=(by have:=Hri.out;omega);have HM6:=hid hM6;have Ho6:=hid ho6;clear hM6 ho6;clear hx6;go_wp2_with (at_builtin;refine wpList_append_own _ rfl _ _ 29 rfl w3.heap.size 33 j0 (.slice none 0 0) 1 24 Tryz.underlying29 hj hy0 hy1 hy2 rfl (by decide) _ _ _ rfl (hqo.alloc _) ⟨w6.heap.size,0,none⟩ 1 1 [.slice (some ⟨wo.heap.size,0,none⟩) n n] rfl rfl (cell_one_new _ _ _) (by simp [Value.oneCell']) hm3 hm4 (by rw [World.size_alloc];omega) ?_;intro v7 V7 hown7 hgrow7 _;obtain ⟨a7,c7,e7⟩:=zc3 hown7;subst e7;have hbV:zmh 31 V7 w3.heap.size (.slice a3 n c3) (.slice avn rs.length cvn):=zf7 (((Ext.refl w6).alloc (.cells #[.slice (some ⟨wo.heap.size,0,none⟩) n n] 33)).heap hb6) (World.ownsRow.alloc hqo _) zpP hgrow7;have q1V:=hbV.c1;have zV:=hbV.fz 1)
      go_roundw
      case rel =>
       have hmo:=HM6.out.more (r:=⟨z,.slice (some ⟨wo.heap.size,0,none⟩) n n,rfl⟩) (Nat.le_refl _) Ho6.out (by show z.length≤1000000;rw [Hzl.out];omega) hown7 hgrow7;exact ⟨i+1,t+1,_,rs++[⟨z,.slice (some ⟨wo.heap.size,0,none⟩) n n,rfl⟩],by go_num,by have:=Ht.out;omega,hin,by rw [List.length_append,Hri.out];rfl,hid (by rw [Hzt.out];exact hmo)⟩
      case measure =>
       have:=Ht.out;simp [zal];omega
   ·have hie:i=K:=(by omega);have hnle:¬ (t:Int)≤(mk:Int):=(by omega);have hM:=HM.out;have hbB2:=zmh.ext hEr HbB.out;have hm9:=hM.m;rw [hie] at hm9;have hb:=hM.b;have d0:=hb.c0;have d1:=hb.c1;have r0:=hbB2.c0;have r1:=hbB2.c1;have z0:=hbB2.fz 0;have z1:=hbB2.fz 1;have ho9:=hM.x.own Ho3.out;have hq9:=hM.q;have hXr:=HX0.out.trans hEr;have Hm9:=hid hm9;have Ho9:=hid ho9;have Hq9:=hid hq9;have HXr:=hid hXr;clear hm9 ho9 hq9 hXr;clear hbr hM hEr ht hie c0 c1;go_wp2_with fail
    have hfin:=hbB2.put (.slice a3 n c3) (.slice avn rs.length cvn);have hd0:=hfin.c0;have hd1:=hfin.c1;have hq4:=zpY (zpY Hq9.out hbB2 0 (.slice a3 n c3)) (hbB2.put0 (.slice a3 n c3)) 1 (.slice avn rs.length cvn);have ho4:=zfA (hbB2.put0 (.slice a3 n c3)) (zfA hbB2 Ho9.out zpQ 0 (.slice a3 n c3)) zpQ 1 (.slice avn rs.length cvn);have hmat:=RwM.reads hq4;rw [Hm9.out] at hmat;exact bodyPost_ret (v:=.tuple #[.agg #[.slice a3 n c3,.slice avn rs.length cvn],.int .i64 0]) (by simp [results,Tryz.results20,go_sem,hd0,hd1]) rfl ⟨_,_,rfl,zan ho4,hmat,(HXr.out.setCell (p:=⟨w.heap.size+1,0,none⟩) (by show w.heap.size≤w.heap.size+1;omega) _).setCell (p:=⟨w.heap.size+1,1,none⟩) (by show w.heap.size≤w.heap.size+1;omega) _⟩
theorem zqi (w:World):Sl w (.slice none 0 0) []:=.inl ⟨none,0,rfl,Nat.zero_le _,rfl⟩
theorem zqj (vp vl:Value)(p:List Int)(l:List (List Int))(n K:Nat)(m:Int)(w:World)(he:Env w)(hp:Sl w vp (zap p))(hl:Mat w vl l)(hep:zhf p l=0)(hpn:p.length=n)(hK:l.length=K)(hn:n≤4)(hS:zlL n l)(hm:m<0∨(K:Int)≤m) :
  Calls Tryz.prog 20 #[.agg #[vp,vl],.int .i64 m] w fun e w'=>e=.returned (.tuple #[.agg #[.slice none 0 0,.slice none 0 0],.int .i64 3])∧Ext w w':=by
 have hK9:K≤9:=by have:=hS.few;omega
 have hrl:∀ i,(l.getD i []).length≤1000:=fun i=>by
  by_cases hi:i<K
  ·rw [(hS.row (by omega)).1];omega
  ·rw [List.getD_eq_getElem?_getD,List.getElem?_eq_none (by omega)];simp
 have hck:=fun W (hE:Ext w W)=>zk8 vp vl p l W (he.ext hE) (hE.sl hp) (hE.mat hl) (by omega) (by omega) hrl;obtain ⟨ap,cp,rfl,_,_,_⟩:=hp.parts;obtain ⟨vs,hvl,hvs,_⟩:=hl;obtain ⟨am,cm,rfl,_,_,_⟩:=hvs.parts;simp only [zar,hpn,hvl,hK,hep] at hck ⊢;have hbA:zmh 31 ((w.alloc (.cells #[.slice ap n cp,.slice am K cm] 31)).alloc (.cells #[.slice none 0 0,.slice none 0 0] 31)) w.heap.size (.slice ap n cp) (.slice am K cm):=zmh.ext ((Ext.refl _).alloc _) (zmh.new 31 w (.slice ap n cp) (.slice am K cm));have hbB:=zmh.new 31 (w.alloc (.cells #[.slice ap n cp,.slice am K cm] 31)) (.slice none 0 0) (.slice none 0 0);rw [World.size_alloc] at hbB;have hX0:Ext w ((w.alloc (.cells #[.slice ap n cp,.slice am K cm] 31)).alloc (.cells #[.slice none 0 0,.slice none 0 0] 31)):=((Ext.refl w).alloc _).alloc _;have c0:=hbA.c0;have c1:=hbA.c1;have Hck:=hid hck;have HX0:=hid hX0;have HbA:=hid hbA;have HbB:=hid hbB;clear hck hX0 hbA hbB;clear hp hvs he hep hrl hS;by_cases h0:m<0
 ·have hdm:decide (m<0)=true:=decide_eq_true h0;clear hm h0;go_enter Tryz.func20,Tryz.ntmps20
  go_wp2_with fail
  generalize (w.alloc (.cells #[.slice ap n cp,.slice am K cm] 31)).alloc (.cells #[.slice none 0 0,.slice none 0 0] 31)=W0 at *;refine (Hck.out _ HX0.out).mono ?_;rintro e w1 ⟨rfl,hx1⟩;have hbA1:=zmh.ext hx1 HbA.out;have d1:=hbA1.c1;have d0:=hbA1.c0;have hbB1:=zmh.ext hx1 HbB.out;have r0:=hbB1.c0;have r1:=hbB1.c1;have z0:=hbB1.fz 0;have z1:=hbB1.fz 1;have hX1:=HX0.out.trans hx1;have HX1:=hid hX1;clear hX1;clear c0 c1 hx1 hbA1;go_wp2_with fail
  have hfin:=hbB1.put (.slice none 0 0) (.slice none 0 0);have hd0:=hfin.c0;have hd1:=hfin.c1;exact bodyPost_ret (v:=.tuple #[.agg #[.slice none 0 0,.slice none 0 0],.int .i64 3]) (by simp [results,Tryz.results20,go_sem,hd0,hd1]) rfl ⟨rfl,(HX1.out.setCell (p:=⟨w.heap.size+1,0,none⟩) (by show w.heap.size≤w.heap.size+1;omega) _).setCell (p:=⟨w.heap.size+1,1,none⟩) (by show w.heap.size≤w.heap.size+1;omega) _⟩
 ·have hdm:decide (m<0)=false:=decide_eq_false h0;have hdk:decide (m ≥ (K:Int))=true:=decide_eq_true (by omega);clear hm h0;go_enter Tryz.func20,Tryz.ntmps20
  go_wp2_with fail
  generalize (w.alloc (.cells #[.slice ap n cp,.slice am K cm] 31)).alloc (.cells #[.slice none 0 0,.slice none 0 0] 31)=W0 at *;refine (Hck.out _ HX0.out).mono ?_;rintro e w1 ⟨rfl,hx1⟩;have hbA1:=zmh.ext hx1 HbA.out;have d1:=hbA1.c1;have d0:=hbA1.c0;have hbB1:=zmh.ext hx1 HbB.out;have r0:=hbB1.c0;have r1:=hbB1.c1;have z0:=hbB1.fz 0;have z1:=hbB1.fz 1;have hX1:=HX0.out.trans hx1;have HX1:=hid hX1;clear hX1;clear c0 c1 hx1 hbA1;go_wp2_with fail
  have hfin:=hbB1.put (.slice none 0 0) (.slice none 0 0);have hd0:=hfin.c0;have hd1:=hfin.c1;exact bodyPost_ret (v:=.tuple #[.agg #[.slice none 0 0,.slice none 0 0],.int .i64 3]) (by simp [results,Tryz.results20,go_sem,hd0,hd1]) rfl ⟨rfl,(HX1.out.setCell (p:=⟨w.heap.size+1,0,none⟩) (by show w.heap.size≤w.heap.size+1;omega) _).setCell (p:=⟨w.heap.size+1,1,none⟩) (by show w.heap.size≤w.heap.size+1;omega) _⟩
theorem zqk (vp vl:Value)(p:List Int)(l:List (List Int))(n K:Nat)(m:Int)(w:World)(he:Env w)(hp:Sl w vp (zap p))(hl:Mat w vl l)(hep:zhf p l=0)(hpn:p.length=n)(hK:l.length=K)(hn0:0<n)(hn:n≤4)(hS:zlL n l) :
  Calls Tryz.prog 20 #[.agg #[vp,vl],.int .i64 m] w fun e w'=>∃ a1 k1 c1 a2 k2 c2 eh,e=.returned (.tuple #[.agg #[.slice a1 k1 c1,.slice a2 k2 c2],.int .i64 eh])∧(∀ j:Nat,m=(j:Int)→j<K→eh=0∧Sl w' (.slice a1 k1 c1) (zap p)∧Mat w' (.slice a2 k2 c2) (zqf n l j K))∧((m<0∨(K:Int)≤m)→eh=3∧Sl w' (.slice a1 k1 c1) (zap [])∧Mat w' (.slice a2 k2 c2) [])∧Ext w w':=by
 by_cases h:m<0∨(K:Int)≤m
 ·refine (zqj vp vl p l n K m w he hp hl hep hpn hK hn hS h).mono ?_;rintro e w' ⟨rfl,hx⟩;exact ⟨_,_,_,_,_,_,_,rfl,fun j hj hjk=>by omega,fun _=>⟨rfl,zqi _,⟨[],rfl,zqi _,fun i u hu=>by simp at hu⟩⟩,hx⟩
 ·obtain ⟨j,rfl⟩:∃ j:Nat,m=(j:Int):=⟨m.toNat,by omega⟩;refine (zqh vp vl p l n K j w he hp hl hep hpn hK hn0 hn hS (by omega)).mono ?_;rintro e w' ⟨up,ul,rfl,h1,h2,hx⟩;obtain ⟨a1,c1,e1,_,_,_⟩:=h1.parts;have h2':=h2;obtain ⟨vs,_,hv,_⟩:=h2';obtain ⟨a2,c2,e2,_,_,_⟩:=hv.parts;subst e1 e2;exact ⟨_,_,_,_,_,_,_,rfl,fun i hi _=>(by obtain rfl:j=i:=(by omega);exact ⟨rfl,h1,h2⟩),fun q=>absurd q h,hx⟩
end Go.Proofs.YtipkdebkdnbieaaGreatDoor
