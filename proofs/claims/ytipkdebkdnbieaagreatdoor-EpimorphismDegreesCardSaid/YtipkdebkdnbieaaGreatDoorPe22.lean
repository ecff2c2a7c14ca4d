/- Walks: smith's big and unit: grids made of a matrix, of the units. Walk: smith's unit: the grid of the units. Walks: smith's lead; slices.Clone at strings; smith's reduced: a line less its multiples of a form's rows. Walk: smith's reduced. Walk: smith's small at a grid of one row. Walk: smith's kernel. -/
import Derived.Test.YtipkdebkdnbieaaGreatDoorPe21
import Derived.Test.YtipkdebkdnbieaaGreatDoorPe01
import Derived.Deep.RegionHeld3
import Derived.Deep.DeepCutAuto
import Derived.Shelf.SlicesE.IndexFunc
import Derived.Shelf.SlicesE.Clone
import Derived.Shelf.Abstract
import Derived.Test.YtipkdebkdnbieaaGreatDoorPe10
set_option maxRecDepth 100000
set_option maxHeartbeats 2000000
namespace Go.Proofs.YtipkdebkdnbieaaGreatDoor
open Go.RowKit Go.Lib Go.Shelf
theorem zlY : (Tryz.prog.info? 129).map (fun i=>(i.zero,i.size,i.bytes))=some (some (.slice none 0 0),1,24):=by kernel_rfl
theorem zlZ {w:World}{B E n:Nat}{v:Value}{xs:List Value}(h:w.ownsRow B E 1 v n xs)(hn:0<n):∃ g c,v=.slice (some ⟨g,0,none⟩) n c∧B≤g∧g<w.heap.size:=by
 rcases h.2 with ⟨_,h0⟩ | ⟨g,cap,cur,rfl,_⟩
 ·omega
 ·exact ⟨g,cap,rfl,World.ownsRow.lt h g rfl⟩
theorem GdM.lt {α:Type}{enc:α→List Value}{T TS s:Nat}{w:World}{B:Nat}{v:Value}{ls:List (GR α)}(h:GdM enc T TS s w B v ls){e:GR α}(he:e∈ls):B≤e.g∧e.g<w.heap.size:=World.ownsRow.lt (h.rows e he) e.g rfl
theorem zma {r:List Int}{j:Nat}(h:j<r.length):zf1 (r.take (j+1))=zf1 (r.take j)++[.string (I (zas r j))]:=by
 rw [List.take_succ_eq_append_getElem h];unfold zf1 zas;rw [List.map_append,List.getD_eq_getElem?_getD,List.getElem?_eq_getElem h];rfl
theorem zmb (vm:Value)(m:List (List Int))(n:Nat)(w:World)(he:Env w)(hm:Mat w vm m)(hrec:∀ r∈m,r.length=n)(hn0:0<n)(hn:n≤1000)(hml:m.length≤1000)(hb:∀ r∈m,∀ z∈r,-9223372036854775808≤z∧z≤9223372036854775807) :
  Calls Tryz.prog 78 #[vm] w fun e w'=>∃ v,e=.returned v∧∃ ls,GdM zlr 100 129 1 w' w.heap.size v ls∧ls.map GR.x=m∧Ext w w':=by
 obtain ⟨i0,hi,hz0,hz1,hz2⟩:=info_parts zf3;obtain ⟨j0,hj,hy0,hy1,hy2⟩:=info_parts zlY;obtain ⟨vs,hvl,hvs,hrows⟩:=hm;have hof:=fun (z:Int)(h0:-9223372036854775808≤z)(h1:z≤9223372036854775807) W (hE:Ext w W)=>zaQ z h0 h1 W (he.ext hE);obtain ⟨am,cm,rfl,_,_,hc⟩:=hvs.parts;rw [hvl];generalize hl:m.length=k0 at *;have Hc:=hid hc;have Hrows:=hid hrows;have Hrec:=hid hrec;have Hb:=hid hb;have Hof:=hid hof;have Hl:=hid hl;have Hvl:=hid hvl;clear hc hrows hrec hb hof hl hvl hvs he;go_enter Tryz.func78,Tryz.ntmps78
 go_wp2_with fail
 go_loopw [11,3] (fun v11 v3 wr=>∃ (k:Nat)(ls:List (GR Int)),v11=.int .i64 k∧k≤k0∧Hid (GdM zlr 100 129 1 wr w.heap.size v3 ls)∧Hid (ls.map GR.x=m.take k)∧Hid (Ext w wr)) (fun v11 _ _=>k0 - (zal v11).toNat)
 case atStart=>exact ⟨0,[],rfl,Nat.zero_le _,hid (GdM.nil _ _),hid rfl,hid (Ext.refl _)⟩
 case round =>
  obtain ⟨k,ls,rfl,hk,HG,HM,HE⟩:=hrel;by_cases hkk:k<k0
  ·obtain ⟨r,hr⟩:∃ r,m[k]?=some r:=⟨_,List.getElem?_eq_getElem (by have:=Hl.out;omega)⟩;obtain ⟨u,hu⟩:∃ u,vs[k]?=some u:=⟨_,List.getElem?_eq_getElem (by rw [Hvl.out];exact hkk)⟩;obtain ⟨b,off,rfl,hcu⟩:=Hc.out k u hu;have hru:=Hrows.out k u hu;rw [List.getD_eq_getElem?_getD,hr] at hru;simp only [Option.getD_some] at hru;have hrl:=Hrec.out r (List.mem_of_getElem? hr);obtain ⟨ar,cr,rfl,_,_,hcr⟩:=hru.parts;have hil:(zap r).length=n:=(by unfold zap;rw [List.length_map];exact hrl);rw [hil] at hcu;have hcw:=HE.out.cell hcu;have hk1:(0:Int)≤(k:Int):=(by omega);have hk2:(k:Int)<(k0:Int):=(by omega);have hll:ls.length=k:=by
    have:=congrArg List.length HM.out;rw [List.length_map,List.length_take,Hl.out] at this;omega
   have Hcr:=hid hcr;have Hr:=hid hr;have Hrl:=hid hrl;have Hll:=hid hll;clear hcr hr hrl hll hcu hru hil hu;go_wp2_with fail
   obtain ⟨wb,hwb⟩:∃ wb,wb=wr:=⟨_,rfl⟩;subst hwb;go_loopw [17,6] (fun v17 v6 wj=>∃ j:Nat,v17=.int .i64 j∧j≤n∧wj.ownsRow wb.heap.size 100 1 v6 j (zf1 (r.take j))∧Ext wb wj) (fun v17 _ _=>n - (zal v17).toNat)
   case atStart=>exact ⟨0,rfl,Nat.zero_le _,World.ownsRow_nil _ _ _ 1,Ext.refl _⟩
   case round =>
    clear hcw;obtain ⟨j,rfl,hjn,ho,hE⟩:=hrel;obtain ⟨a6,c6,rfl⟩:=zc3 ho;have hEw:=HE.out.trans hE;by_cases hjj:j<n
    ·have hjr:j<r.length:=(by rw [Hrl.out];exact hjj);obtain ⟨b2,o2,rfl,hcj⟩:=Hcr.out j (.int .i64 (zas r j)) (by unfold zap zas;rw [List.getElem?_map,List.getElem?_eq_getElem hjr,List.getD_eq_getElem?_getD,List.getElem?_eq_getElem hjr];rfl);have hcj2:=hEw.cell hcj;have hzb:=Hb.out r (List.mem_of_getElem? Hr.out) (zas r j) (zc8 hjr);have hofj:=Hof.out (zas r j) hzb.1 hzb.2 wr hEw;have hst:=zma hjr;generalize zas r j=z at *;have hj1:(0:Int)≤(j:Int):=(by omega);have hj2:(j:Int)<(n:Int):=(by omega);have Hofj:=hid hofj;have Hst:=hid hst;have Ho:=hid ho;have HE2:=hid hE;have hm3:j+1≤maxLen:=(by unfold maxLen;omega);have hm4:(j+1) * 16≤140737488355328:=(by omega);clear hofj hst ho hE hEw hzb hjr hcj;go_wp2_with fail
     refine Hofj.out.mono ?_;rintro e VB ⟨rfl,hxa⟩;have hqo:=hxa.own Ho.out;have hbase:=(HE2.out.trans hxa).size;have HEB:=hid (HE2.out.trans hxa);clear hxa;go_wp2_with (at_builtin;refine wpList_append_own _ rfl _ _ 129 rfl wb.heap.size 100 i0 (.string ByteArray.empty) 1 16 Tryz.underlying129 hi hz0 hz1 hz2 rfl (by decide) _ _ _ rfl (hqo.alloc _) ⟨VB.heap.size,0,none⟩ 1 1 [.string (I z)] rfl rfl (cell_one_new _ _ _) (by simp [Value.oneCell']) hm3 hm4 (by rw [World.size_alloc];omega) ?_;intro v7 V7 hown7 hgrow7 _)
     go_roundw
     case rel=>exact ⟨j+1,by go_num,hjj,by rw [Hst.out];exact hown7,(HEB.out.alloc _).grown hgrow7 fun q hq=>(World.ownsRow.lt hqo q hq).1⟩
     case measure=>simp [zal];omega
    ·have hjn2:j=n:=(by omega);have ho2:=ho;rw [hjn2,show r.take n=r by rw [← Hrl.out];exact List.take_length] at ho2;obtain ⟨g,cg,eg,hg1,hg2⟩:=zlZ ho2 hn0;injection eg with eg1 _ eg2;subst eg1 eg2;have hG:=HG.out.ext hE;have hne:∀ f∈ls,f.g ≠ g:=fun f hf=>by
      have:=(HG.out.lt hf).2;omega
     have hsz:=(HE.out).size;have hrow:wr.ownsRow w.heap.size 100 1 (GR.u ⟨g,c6,r⟩) r.length (r.flatMap zlr):=by
      unfold GR.u;rw [zlt,show (GR.mk g c6 r).x=r from rfl,Hrl.out];exact zam ho2 hsz
     obtain ⟨a3,c3,e3⟩:=zc3 hG.own;subst e3;have hm3:k+1≤maxLen:=(by unfold maxLen;omega);have hm4:(k+1) * 24≤140737488355328:=(by omega);have hqo:=hG.own;rw [Hll.out] at hqo ⊢;have hbase:w.heap.size≤wr.heap.size:=hEw.size;have HG2:=hid hG;have Hrow:=hid hrow;have Hne:=hid hne;have HEw:=hid hEw;have Hjn:=hid hjn2;clear hG hrow hne hEw ho ho2 hE hjn2;go_wp2_with (at_builtin;refine wpList_append_own _ rfl _ _ 126 rfl w.heap.size 129 j0 (.slice none 0 0) 1 24 Tryz.underlying126 hj hy0 hy1 hy2 rfl (by decide) _ _ _ rfl (hqo.alloc _) ⟨wr.heap.size,0,none⟩ 1 1 [.slice (some ⟨g,0,none⟩) j c6] rfl rfl (cell_one_new _ _ _) (by simp [Value.oneCell']) hm3 hm4 (by rw [World.size_alloc];omega) ?_;intro v7 V7 hown7 hgrow7 _)
     go_roundw
     case rel =>
      have hown7':V7.ownsRow w.heap.size 129 1 v7 (ls.length+1) (ls.map GR.u++[GR.u ⟨g,c6,r⟩]):=by
       rw [Hll.out];unfold GR.u;rw [show (GR.mk g c6 r).x=r from rfl,Hrl.out,← Hjn.out];exact hown7
      have hmo:=HG2.out.more (e:=⟨g,c6,r⟩) zl5 Hrow.out Hne.out hown7' (by rw [Hll.out] <;> exact hgrow7)
      refine ⟨k+1,ls++[⟨g,c6,r⟩],by go_num,hkk,hid hmo,hid ?_,hid ((HEw.out.alloc _).grown hgrow7 fun q hq=>(World.ownsRow.lt hqo q hq).1)⟩;obtain ⟨h1,h2⟩:=List.getElem?_eq_some_iff.1 Hr.out;rw [List.map_append,HM.out,List.take_succ_eq_append_getElem h1,h2];rfl
     case measure=>simp [zal];omega
  ·have hkl:k=k0:=(by omega);have hkk2:¬ (k:Int)<(k0:Int):=(by omega);have hM:=HM.out;rw [hkl,← Hl.out,List.take_length] at hM;have HM2:=hid hM;clear hM hkl;go_wp2
   go_ret
   exact ⟨_,rfl,ls,HG.out,HM2.out,HE.out⟩
theorem zmc {w:World}{B g n:Nat}{v z:Value}(hB:B≤g)(h:w.heap[g]?=some (.cells (zkD n n v z).toArray 100 (0,0)))(hn:n≤1000):w.ownsRow B 100 1 (.slice (some ⟨g,0,none⟩) n n) n (List.replicate n v):=by
 have e:zkD n n v z=List.replicate n v:=by unfold zkD;rw [Nat.sub_self];simp
 rw [e] at h;refine ⟨by simp,.inr ⟨g,n,_,rfl,hB,h,Nat.le_refl _,by unfold maxLen;omega,by simp,?_⟩⟩;simp
theorem zmd (n:Nat):zf1 (List.replicate n 0)=List.replicate n (.string (I 0)):=by unfold zf1;rw [List.map_replicate]
theorem zme : (Value.string ⟨#[49]⟩)=.string (I 1):=congrArg Value.string (by decide +kernel)
theorem zmf : (Value.string ⟨#[48]⟩)=.string (I 0):=congrArg Value.string (by decide +kernel)
theorem zmg (n:Nat)(w:World)(hn0:0<n)(hn:n≤1000) :
  Calls Tryz.prog 109 #[.int .i64 n] w fun e w'=>∃ v,e=.returned v∧∃ ls,GdM zlr 100 129 1 w' w.heap.size v ls∧ls.map GR.x=ziK n∧Ext w w':=by
 obtain ⟨j0,hj,hy0,hy1,hy2⟩:=info_parts zlY;have hrep:=fun (b:Nat) W (hc:W.cell? ⟨b,0,none⟩=some (.string ⟨#[48]⟩))=>zkK b (.string ⟨#[48]⟩) (.string ByteArray.empty) rfl rfl n W hn hn0 hc;have Hrep:=hid hrep;clear hrep;go_enter Tryz.func109,Tryz.ntmps109
 go_wp2_with fail
 go_loopw [7,3] (fun v7 v3 wr=>∃ (k:Nat)(ls:List (GR Int)),v7=.int .i64 k∧k≤n∧Hid (GdM zlr 100 129 1 wr w.heap.size v3 ls)∧Hid (ls.map GR.x=(ziK n).take k)∧Hid (Ext w wr)) (fun v7 _ _=>n - (zal v7).toNat)
 case atStart=>exact ⟨0,[],rfl,Nat.zero_le _,hid (GdM.nil _ _),hid rfl,hid (Ext.refl _)⟩
 case round =>
  obtain ⟨k,ls,rfl,hk,HG,HM,HE⟩:=hrel;by_cases hkk:k<n
  ·have hk1:(0:Int)≤(k:Int):=(by omega);have hk2:(k:Int)<(n:Int):=(by omega);have hul:(ziK n).length=n:=(by unfold ziK;simp);have hll:ls.length=k:=by
    have:=congrArg List.length HM.out;rw [List.length_map,List.length_take,hul] at this;omega
   have hc0:=cell_one_new wr (.string ⟨#[48]⟩) 129;have hb0:(wr.alloc (.cells #[.string ⟨#[48]⟩] 100)).cell? ⟨wr.heap.size,0,none⟩=some (.string ⟨#[48]⟩):=(by unfold World.cell?;dsimp only;rw [World.alloc_heap_new wr _];rfl);obtain ⟨a3,c3,e3⟩:=zc3 HG.out.own;subst e3;rw [hll];have Hll:=hid hll;have Hul:=hid hul;have hr0:=Hrep.out wr.heap.size _ hb0;have Hr0:=hid hr0;clear hll hul hc0 hb0 hr0;go_wp2_with fail
   refine Hr0.out.mono ?_;rintro e w2 ⟨rfl,hb2,hx2⟩;have hxa:Ext wr (wr.alloc (.cells #[.string ⟨#[48]⟩] 100)):=(Ext.refl wr).alloc _;have hgs:wr.heap.size≤(wr.alloc (.cells #[.string ⟨#[48]⟩] 100)).heap.size:=hxa.size;have ho2:=zmc hgs hb2 hn;obtain ⟨g,hg⟩:∃ g,g=(wr.alloc (.cells #[.string ⟨#[48]⟩] 100)).heap.size:=⟨_,rfl⟩;rw [← hg] at ho2 hgs ⊢;have hx02:=hxa.trans hx2;have hcell:=zkR ho2 (j:=k) (u:=.string ⟨#[48]⟩) (by rw [List.getElem?_replicate,if_pos hkk]);have hfz:=World.ownsRow.frozenAt ho2 k;have hst:=World.ownsRow.stored ho2 k (.string ⟨#[49]⟩);have hwE:Ext wr (w2.setCell ⟨g,k,none⟩ (.string ⟨#[49]⟩)):=hx02.grown hst.2 fun q hq=>by cases hq;exact hgs
   have Hst:=hid hst;have HwE:=hid hwE;have Hgs:=hid hgs;clear hb2 hx2 hxa ho2 hg hx02 hst hwE hgs;have hm3:k+1≤maxLen:=(by unfold maxLen;omega);have hm4:(k+1) * 24≤140737488355328:=(by omega);go_upto_region 7 with (fail)
   generalize w2.setCell ⟨g,k,none⟩ (.string ⟨#[49]⟩)=W3 at *;have ho3:=Hst.out.1;rw [zmf,zme,← zmd,zkQ] at ho3;have hlen:((List.replicate n (0:Int)).set k 1).length=n:=(by rw [List.length_set,List.length_replicate]);have hG:=HG.out.ext HwE.out;have hne:∀ f∈ls,f.g ≠ g:=fun f hf=>by
    have:=(HG.out.lt hf).2;have:=Hgs.out;omega
   have hrow:W3.ownsRow w.heap.size 100 1 (GR.u ⟨g,n,(List.replicate n (0:Int)).set k 1⟩) (GR.mk g n ((List.replicate n (0:Int)).set k 1)).x.length ((GR.mk g n ((List.replicate n (0:Int)).set k 1)).x.flatMap zlr):=by
    unfold GR.u;rw [zlt,show (GR.mk g n ((List.replicate n (0:Int)).set k 1)).x=(List.replicate n (0:Int)).set k 1 from rfl,hlen];exact zam ho3 HE.out.size
   have hqo:=hG.own;rw [Hll.out] at hqo;have hbase:w.heap.size≤W3.heap.size:=(HE.out.trans HwE.out).size;have HG2:=hid hG;have Hrow:=hid hrow;have Hne:=hid hne;have HEw:=hid (HE.out.trans HwE.out);have Hlen:=hid hlen;clear hG hrow hne ho3 hlen hcell hfz;go_wp2_with (at_builtin;refine wpList_append_own _ rfl _ _ 126 rfl w.heap.size 129 j0 (.slice none 0 0) 1 24 Tryz.underlying126 hj hy0 hy1 hy2 rfl (by decide) _ _ _ rfl (hqo.alloc _) ⟨W3.heap.size,0,none⟩ 1 1 [.slice (some ⟨g,0,none⟩) n n] rfl rfl (cell_one_new _ _ _) (by simp [Value.oneCell']) hm3 hm4 (by rw [World.size_alloc];omega) ?_;intro v7 V7 hown7 hgrow7 _)
   go_roundw
   case rel =>
    have hown7':V7.ownsRow w.heap.size 129 1 v7 (ls.length+1) (ls.map GR.u++[GR.u ⟨g,n,(List.replicate n (0:Int)).set k 1⟩]):=by
     rw [Hll.out];unfold GR.u;rw [show (GR.mk g n ((List.replicate n (0:Int)).set k 1)).x=(List.replicate n (0:Int)).set k 1 from rfl,Hlen.out];exact hown7
    have hmo:=HG2.out.more (e:=⟨g,n,(List.replicate n (0:Int)).set k 1⟩) zl5 Hrow.out Hne.out hown7' (by rw [Hll.out] <;> exact hgrow7)
    refine ⟨k+1,ls++[⟨g,n,(List.replicate n (0:Int)).set k 1⟩],by go_num,hkk,hid hmo,hid ?_,hid ((HEw.out.alloc _).grown hgrow7 fun q hq=>(World.ownsRow.lt hqo q hq).1)⟩;rw [List.map_append,HM.out,List.take_succ_eq_append_getElem (by rw [Hul.out];exact hkk)];congr 1;unfold ziK;rw [List.getElem_map,List.getElem_range];rfl
   case measure=>simp [zal];omega
  ·have hkl:k=n:=(by omega);have hkk2:¬ (k:Int)<(n:Int):=(by omega);have hM:=HM.out;rw [hkl,List.take_of_length_le (by unfold ziK;simp)] at hM;have HM2:=hid hM;clear hM hkl;go_wp2
   go_ret
   exact ⟨_,rfl,ls,HG.out,HM2.out,HE.out⟩
theorem zmh : ∀ (x:List Int)(i:Nat),(idxByFrom (fun _ y:Int=>y != 0) default x i=-1∧ziM x=x.length)∨idxByFrom (fun _ y:Int=>y != 0) default x i=((i+ziM x:Nat):Int)∧ziM x<x.length
 | [],i=>.inl ⟨rfl,rfl⟩
 | z::r,i=>by
  unfold idxByFrom ziM;by_cases h:z=0
  ·rw [if_neg (by simp [h]),if_pos h,List.length_cons];rcases zmh r (i+1) with ⟨h1,h2⟩ | ⟨h1,h2⟩
   ·exact .inl ⟨h1,by omega⟩
   ·exact .inr ⟨by rw [h1];congr 1;omega,by omega⟩
  ·rw [if_pos (by simpa using h),if_neg h,List.length_cons];exact .inr ⟨rfl,by omega⟩
theorem zmi : ∀ (x:List Int),ziM x<x.length→zas x (ziM x) ≠ 0
 | [],h=>by simp at h
 | z::r,h=>by
  by_cases h0:z=0
  ·have e:ziM (z::r)=ziM r+1:=(by show (if z=0 then _ else _)=_;rw [if_pos h0]);rw [e,List.length_cons] at h;rw [e];exact zmi r (by omega)
  ·have e:ziM (z::r)=0:=(by show (if z=0 then _ else _)=_;rw [if_neg h0]);rw [e];exact h0
theorem zmj (z:Int):((I z).toList != [48])=(z != 0):=by
 rw [bne,zb3];by_cases h:z=0
 ·rw [decide_eq_true h,h];rfl
 ·rw [decide_eq_false h];simp [h]
theorem zmk (z:Int)(w:World):Calls Tryz.prog 113 #[.string (I z)] w fun e w'=>e=.returned (.bool (z != 0))∧∃ q,w'=w.drewN q:=by
 have h:=zmj z;rw [← h]
 cases hb:((I z).toList != [48]) <;>
 ·have h1:((I z).toList == [48])=!((I z).toList != [48]):=by rw [bne,Bool.not_not]
  rw [hb] at h1;go_enter Tryz.func113,Tryz.ntmps113
  go_wp2
  go_ret
  exact ⟨rfl,0,rfl⟩
theorem zml (w:World):Go.Proofs.PredAt Tryz.prog 113 #[] (fun z:Int=>Value.string (I z)) (fun z=>z != 0) w:=fun W x _=>zmk x W
theorem zmm : ∀ args w,(callFunc 113 args).run Tryz.prog w=.ok (.enter 113 args) w:=enters_of Tryz.func113 (by kernel_rfl) rfl
theorem zmn (v:Value)(x:List Int)(w:World)(hx:Sl w v (zf1 x))(hl:x.length≤1000000) :
  Calls Tryz.prog 112 #[v,.func (.func 113) #[] #[]] w fun e w'=>e=.returned (.int .i64 (idxByFrom (fun _ y:Int=>y != 0) default x 0))∧Ext w w':=by
 obtain ⟨a,c,rfl,_,_,hc⟩:=hx.parts;rw [zf2]
 cases x with
 | nil=>exact (AnyE.slices_IndexFunc_empty Tryz.lIndexS a c _ w).mono fun e w' ⟨h,hw⟩=>⟨h,by rw [hw];exact Ext.refl _⟩
 | cons z r =>
  obtain ⟨b,off,rfl,_⟩:=hc 0 _ (zlu (l:=z::r) (by simp))
  have h:=AnyE.slices_IndexFunc Tryz.lIndexS (fun z:Int=>Value.string (I z)) (fun n=>n != 0) 113 #[] zmm b off (z::r).length c (z::r) w (zml w) (Nat.le_refl _) (by omega) (fun j hj=>by
   obtain ⟨b2,off2,e2,hcell⟩:=hc j _ (zlu hj);simp only [Option.some.injEq,Addr.mk.injEq,and_true] at e2;obtain ⟨rfl,rfl⟩:=e2;rw [hcell];unfold zas;rw [List.getD_eq_getElem?_getD,List.getElem?_eq_getElem hj,getElem!_pos _ j hj];rfl)
  rw [List.take_length] at h
  exact h.mono fun e w' ⟨he,q,hw⟩=>⟨he,by rw [hw];exact (Ext.refl w).drewN q⟩
theorem zmo (v:Value)(x:List Int)(w:World)(hx:Sl w v (zf1 x))(hl:x.length≤1000000) :
  Calls Tryz.prog 80 #[v] w fun e w'=>e=.returned (.int .i64 (ziM x))∧Ext w w':=by
 have hi:=zmn v x w hx hl;have hz:=zmh x 0;obtain ⟨a,c,rfl,_,_,_⟩:=hx.parts;rw [zf2] at *;generalize idxByFrom (fun _ y:Int=>y != 0) default x 0=i at *;generalize x.length=n at *;generalize ziM x=k at *;have Hi:=hid hi;clear hi hx;rcases hz with ⟨rfl,rfl⟩ | ⟨hz,hk⟩
 ·go_enter Tryz.func80,Tryz.ntmps80
  go_wp2_with fail
  refine Hi.out.mono ?_;rintro e w1 ⟨rfl,hx⟩;have Hx:=hid hx;clear hx;go_wp2
  go_ret
  exact ⟨rfl,Hx.out⟩
 ·rw [Nat.zero_add] at hz;subst hz;have hk0:¬ (k:Int)<0:=by omega
  go_enter Tryz.func80,Tryz.ntmps80
  go_wp2_with fail
  refine Hi.out.mono ?_;rintro e w1 ⟨rfl,hx⟩;have Hx:=hid hx;clear hx;go_wp2
  go_ret
  exact ⟨rfl,Hx.out⟩
theorem zmp (v:Value)(x:List Int)(w:World)(hx:Sl w v (zf1 x))(hx0:0<x.length)(hl:x.length≤1000) :
  Calls Tryz.prog 114 #[v] w fun e w'=>∃ u,e=.returned u∧w'.ownsRow w.heap.size 100 1 u x.length (zf1 x)∧Ext w w':=by
 obtain ⟨i0,hi,hz0,hz1,hz2⟩:=info_parts zf3;obtain ⟨a,c,rfl,h1,h2,hc⟩:=hx.parts;obtain ⟨b,off,rfl,_⟩:=hc 0 _ (zlu hx0);have hcell:∀ j u,(zf1 x)[j]?=some u→w.cell? ⟨b,off+j,none⟩=some u:=fun j u hu=>by
  obtain ⟨b2,off2,e2,h3⟩:=hc j u hu;simp only [Option.some.injEq,Addr.mk.injEq,and_true] at e2;obtain ⟨rfl,rfl⟩:=e2;exact h3
 rw [zf2];refine (AnyE.slices_Clone Tryz.lCloneS i0 (.string ByteArray.empty) 1 16 hi hz0 hz1 hz2 rfl (by decide) Tryz.sizeOf100 b off x.length c (zf1 x) w (by rw [zf2];omega) (by unfold maxLen;omega) (by omega) hcell (by simp [zf1,Value.oneCell'])).mono fun e w' ⟨v',he,ho,hn,hb⟩=>⟨v',he,ho,hb⟩
def zmq (w:World)(v:Value)(f:List (List Int)):Prop :=
 ∃ vs:List Value,vs.length=f.length∧Sl w v vs∧∀ i u,vs[i]?=some u→Sl w u (zf1 (f.getD i []))
theorem zmq.ext {w w':World}{v:Value}{f:List (List Int)}(h:zmq w v f)(hx:Ext w w'):zmq w' v f:=by
 obtain ⟨vs,h1,h2,h3⟩:=h;exact ⟨vs,h1,hx.sl h2,fun i u hu=>hx.sl (h3 i u hu)⟩
theorem zmr {f:List (List Int)}{r l lF:List Int}(h:ziP (r::f) l=some lF):(∀ z∈l,z.natAbs<zi2)∧(∀ z∈r,z.natAbs<zi2)∧ziP f (ziO l r)=some lF:=by
 unfold ziP at h;by_cases hc:l.all okZ=true∧r.all okZ=true
 ·rw [if_pos hc] at h;refine ⟨fun z hz=>?_,fun z hz=>?_,h⟩
  ·have:=List.all_eq_true.1 hc.1 z hz;unfold okZ at this;exact of_decide_eq_true this
  ·have:=List.all_eq_true.1 hc.2 z hz;unfold okZ at this;exact of_decide_eq_true this
 ·rw [if_neg hc] at h;cases h
theorem zms {l r:List Int}(h:l.length≤r.length):(ziO l r).length=l.length:=by
 unfold ziO;split
 ·exact zlH _ h
 ·rfl
theorem zmt (vf vl:Value)(f:List (List Int))(l lF:List Int)(n:Nat)(w:World)(he:Env w)(hf:zmq w vf f)(hl:Sl w vl (zf1 l))(hn:l.length=n)(hn0:0<n)(hn9:n≤1000)(hm9:f.length≤1000)(hrow:∀ r∈f,n≤r.length∧r.length≤1000)(hrun:ziP f l=some lF) :
  Calls Tryz.prog 81 #[vf,vl] w fun e w'=>∃ u,e=.returned u∧w'.ownsRow w.heap.size 100 1 u n (zf1 lF)∧lF.length=n∧Ext w w':=by
 have hcl:=fun W (hE:Ext w W)=>zmp vl l W (hE.sl hl) (by omega) (by omega);obtain ⟨vs,hvl,hvs,hrows⟩:=hf;obtain ⟨af,cf,rfl,_,_,hc⟩:=hvs.parts;obtain ⟨al,cl,rfl,_,_,_⟩:=hl.parts;have hsl:(zf1 l).length=n:=by rw [zf2,hn]
 rw [hvl,hsl];simp only [hsl,hn] at hcl;generalize hm:f.length=m at *;have Hcl:=hid hcl;have Hc:=hid hc;have Hrows:=hid hrows;have Hrow:=hid hrow;have Hrun:=hid hrun;have He:=hid he;have Hm:=hid hm;have Hn:=hid hn;have Hvl:=hid hvl;clear hcl hc hrows hrow hrun he hm hn hvl hvs hl hsl;go_enter Tryz.func81,Tryz.ntmps81
 go_wp2_with fail
 refine (Hcl.out w (Ext.refl w)).mono ?_;rintro e w1 ⟨u1,rfl,ho1,hx1⟩;obtain ⟨g,c1,rfl,hgB,_⟩:=zlZ ho1 hn0;have Ho1:=hid ho1;have Hx1:=hid hx1;have HgB:=hid hgB;clear ho1 hx1 hgB;go_wp2_with fail
 go_loopw [15] (fun v15 wr=>∃ (k:Nat)(lk:List Int),v15=.int .i64 k∧k≤m∧Hid (ziP (f.drop k) lk=some lF∧lk.length=n)∧Hid (wr.ownsRow w.heap.size 100 1 (.slice (some ⟨g,0,none⟩) n c1) n (zf1 lk))∧Hid (Ext w wr)) (fun v15 _=>m - (zal v15).toNat)
 case atStart=>exact ⟨0,l,rfl,Nat.zero_le _,hid ⟨Hrun.out,Hn.out⟩,Ho1,Hx1⟩
 case round =>
  clear Ho1 Hx1;obtain ⟨k,lk,rfl,hk,HR,HO,HE⟩:=hrel;by_cases hkm:k<m
  ·obtain ⟨r,hr⟩:∃ r,f[k]?=some r:=⟨_,List.getElem?_eq_getElem (by have:=Hm.out;omega)⟩;obtain ⟨u,hu⟩:∃ u,vs[k]?=some u:=⟨_,List.getElem?_eq_getElem (by rw [Hvl.out];exact hkm)⟩;obtain ⟨b,off,rfl,hcu⟩:=Hc.out k u hu;have hru:=Hrows.out k u hu;rw [List.getD_eq_getElem?_getD,hr] at hru;simp only [Option.getD_some] at hru;have hrw:=Hrow.out r (List.mem_of_getElem? hr);have hrd:ziP (r::f.drop (k+1)) lk=some lF:=by
    rw [← (List.getElem?_eq_some_iff.1 hr).2,← List.drop_eq_getElem_cons (List.getElem?_eq_some_iff.1 hr).1];exact HR.out.1
   obtain ⟨hz1,hz2,hnext⟩:=zmr hrd;have hlk:=HR.out.2;have hle:=zms (l:=lk) (r:=r) (by omega);have hld:=fun W (hE:Ext w W)=>zmo u r W (hE.sl hru) (by omega);have hrs:=fun W (hE:Ext w W)=>hE.sl hru;obtain ⟨ar,cr,hue,_,_,hcr⟩:=hru.parts;rw [zf2] at hue;have hcw:=HE.out.cell hcu;have hk1:(0:Int)≤(k:Int):=(by omega);have hk2:(k:Int)<(m:Int):=(by omega);have hldw:=hld wr HE.out;have HL:=hid hldw;have Hnx:=hid hnext;have Hle:=hid hle;have Hrs:=hid hrs;have Hcr:=hid hcr;have Hz1:=hid hz1;have Hz2:=hid hz2;have Hlk:=hid hlk;have Hrw:=hid hrw;clear hldw hnext hle hrs hcr hz1 hz2 hlk hrw hld hrd hr hu hru hcu;subst hue;go_wp2_with fail
   refine HL.out.mono ?_;rintro e w2 ⟨rfl,hx2⟩;have HE2:=hid (HE.out.trans hx2);have HO2:=hid (hx2.own HO.out);clear hx2 hcw;by_cases hlt:ziM r<n
   ·have hc0:(0:Int)≤(ziM r:Int):=(by omega);have hc1:(ziM r:Int)<(n:Int):=(by omega);have hc2:(ziM r:Int)<(r.length:Int):=(by have:=Hrw.out.1;omega);have hlr:ziM r<r.length:=(by have:=Hrw.out.1;omega);have hnz:=zmi r hlr;have hls:ziO lk r=ziC lk r (fdv (zas lk (ziM r)) (zas r (ziM r))):=(by unfold ziO;rw [if_pos (by rw [Hlk.out];exact hlt)];rfl);have a1:=zkR HO2.out (zlu (l:=lk) (j:=ziM r) (by rw [Hlk.out];exact hlt));obtain ⟨b2,o2,e2,hcj⟩:=Hcr.out (ziM r) _ (zlu hlr);subst e2;have a2:=HE2.out.cell hcj;have hq:(fdv (zas lk (ziM r)) (zas r (ziM r))).natAbs<zi2:=Nat.lt_of_le_of_lt (zlE hnz) (Hz1.out _ (zc8 (by rw [Hlk.out];exact hlt)));have hdm:=fun W (hW:Ext w W)=>zek (zas lk (ziM r)) (zas r (ziM r)) W (He.out.ext hW) hnz (zlC (Hz1.out _ (zc8 (by rw [Hlk.out];exact hlt)))) (zlC (Hz2.out _ (zc8 hlr)));have htk:=fun W (hW:Ext w W)(ho:W.ownsRow w.heap.size 100 1 (.slice (some ⟨g,0,none⟩) n c1) n (zf1 lk))=>zlv g n r.length c1 (.slice (some ⟨b2,o2,none⟩) r.length cr) (fdv (zas lk (ziM r)) (zas r (ziM r))) lk r w W w.heap.size He.out hW (Nat.le_refl _) Hlk.out rfl Hrw.out.1 Hrw.out.2 ho (fun W2 hg=>Hrs.out W2 (hW.grown hg fun q hq=>by cases hq;exact HgB.out)) (zlC hq) (fun z hz=>zlC (Hz1.out z hz)) (fun z hz=>zlC (Hz2.out z hz)) (fun z hz=>zlF hq (Hz2.out z hz));have Hdm:=hid hdm;have Htk:=hid htk;have Hls:=hid hls;clear hdm htk hls hq hnz hcj hlr;generalize hqs:I (fdv (zas lk (ziM r)) (zas r (ziM r)))=sq at *;generalize I (fmd (zas lk (ziM r)) (zas r (ziM r)))=sr at *;generalize I (zas lk (ziM r))=sa at *;generalize I (zas r (ziM r))=sb at *;clear hqs;generalize hcc:ziM r=c at *;have Hcc:=hid hcc;clear hcc;go_wp2_with fail
    go_region_held3 (fun w'=>Ext w2 w'∧w'.cell? ⟨g,c,none⟩=some (.string sa)∧w'.cell? ⟨b2,o2+c,none⟩=some (.string sb))
     (first | (with_reducible assumption) | exact ⟨(Ext.refl w2).drew,a1,a2⟩)
     (first
      | (go_at_call 115;refine (Hdm.out _ (HE2.out.trans (And.left (by assumption)))).mono ?_;rintro e9 VA ⟨rfl,hxa⟩;have hEA:=((Ext.refl w2).drew).trans hxa;have hS2:Ext w2 VA∧VA.cell? ⟨g,c,none⟩=some (.string sa)∧VA.cell? ⟨b2,o2+c,none⟩=some (.string sb):=⟨hEA,hEA.cell a1,hEA.cell a2⟩;have HEA:=hid hEA;clear hxa hEA))
    all_goals
     have htk2:=Htk.out _ (HE2.out.trans HEA.out) (HEA.out.own HO2.out);have Htk2:=hid htk2;clear htk2 hS2 a1 a2;go_wp2_with fail
     refine Htk2.out.mono ?_;rintro e w5 ⟨rfl,ho5,hg5⟩;rw [← Hls.out] at ho5;have Ho5:=hid ho5;have HE5:=hid ((HE2.out.trans HEA.out).grown hg5 fun q hq=>by cases hq;exact HgB.out);clear ho5 hg5;go_wp2_with fail
     go_roundw
     case rel=>exact ⟨k+1,_,by go_num,hkm,hid ⟨Hnx.out,Hle.out.trans Hlk.out⟩,Ho5,HE5⟩
     case measure=>simp [zal];omega
   ·have hc1:¬ (ziM r:Int)<(n:Int):=(by omega);have hls:ziO lk r=lk:=(by unfold ziO;rw [if_neg (by rw [Hlk.out];exact hlt)]);have hnx:=Hnx.out;rw [hls] at hnx;have Hnx2:=hid hnx;clear hnx hls;go_wp2_with fail
    go_roundw
    case rel=>exact ⟨k+1,lk,by go_num,hkm,hid ⟨Hnx2.out,Hlk.out⟩,HO2,HE2⟩
    case measure=>simp [zal];omega
  ·have hkk:¬ (k:Int)<(m:Int):=(by omega);have hR:=HR.out.1;rw [List.drop_of_length_le (by rw [Hm.out];omega)] at hR;have hfin:lk=lF:=Option.some.inj hR;have hO:=HO.out;rw [hfin] at hO;have hl2:=HR.out.2;rw [hfin] at hl2;have HO2:=hid hO;have HL2:=hid hl2;clear hR hfin hO hl2;go_wp2
   go_ret
   exact ⟨_,rfl,HO2.out,HL2.out,HE.out⟩
theorem zmu : (Tryz.prog.info? 33).map (fun i=>(i.zero,i.size,i.bytes))=some (some (.slice none 0 0),1,24):=by kernel_rfl
theorem zmv {w:World}{B:Nat}(T:TypeId)(xs:Array Value)(hB:B≤w.heap.size)(hm:xs.size≤maxLen):(w.alloc (.cells xs T)).ownsRow B T 1 (.slice (some ⟨w.heap.size,0,none⟩) xs.size xs.size) xs.size xs.toList :=
 ⟨by simp,.inr ⟨w.heap.size,xs.size,xs,rfl,hB,World.alloc_heap_new w _,Nat.le_refl _,hm,by simp,by rw [Nat.mul_one,← Array.length_toList,List.take_length]⟩⟩
theorem zmw {r:List Int}{j:Nat}(h:j<r.length):zap (r.take (j+1))=zap (r.take j)++[.int .i64 (zas r j)]:=by
 rw [List.take_succ_eq_append_getElem h];unfold zap zas;rw [List.map_append,List.getD_eq_getElem?_getD,List.getElem?_eq_getElem h];rfl
def SmR (w:World)(x:List Int)(v14 v4:Value)(wr:World):Prop :=
 (v14=.int .i64 0∧v4=.slice none 0 0∧Ext w wr)∨(v14=.int .i64 1∧∃ u,wr.ownsRow w.heap.size 33 1 v4 1 [u]∧zc2 wr w.heap.size u x∧Ext w wr)
theorem zmx (vf:Value)(x:List Int)(n:Nat)(w:World)(hf:zmq w vf [x])(hn:x.length=n)(hn9:n≤1000)(hx:∀ z∈x,z.natAbs≤1000000000) :
  Calls Tryz.prog 83 #[vf] w fun e w'=>∃ v,e=.returned (.tuple #[v,.int .i64 0])∧∃ u,w'.ownsRow w.heap.size 33 1 v 1 [u]∧zc2 w' w.heap.size u x∧Ext w w':=by
 obtain ⟨i0,hi,hz0,hz1,hz2⟩:=info_parts zc1;obtain ⟨j0,hj,hy0,hy1,hy2⟩:=info_parts zmu;have hsm:=fun (z:Int)(h0:-9223372036854775808≤z)(h1:z≤9223372036854775807) W=>zfN z W h0 h1;obtain ⟨vs,hvl,hvs,hrows⟩:=hf;obtain ⟨af,cf,rfl,_,_,hc⟩:=hvs.parts;rw [hvl];obtain ⟨u0,hu⟩:∃ u,vs[0]?=some u:=⟨_,List.getElem?_eq_getElem (by rw [hvl];simp)⟩;obtain ⟨b,off,rfl,hcu⟩:=hc 0 u0 hu;have hru:=hrows 0 u0 hu;simp only [List.getD_cons_zero] at hru;obtain ⟨ar,cr,rfl,_,_,hcr⟩:=hru.parts;rw [zf2,hn,Nat.add_zero] at hcu;rw [show [x].length=1 from rfl];have Hcr:=hid hcr;have Hn:=hid hn;have Hx:=hid hx;have Hsm:=hid hsm;have Hcu:=hid hcu;clear hcr hn hx hsm hc hvl hvs hrows hu hru hcu;go_enter Tryz.func83,Tryz.ntmps83
 go_wp2_with fail
 go_loopw [14,4] (fun v14 v4 wr=>SmR w x v14 v4 wr) (fun v14 _ _=>1 - (zal v14).toNat)
 case atStart=>exact .inl ⟨rfl,rfl,Ext.refl _⟩
 case round =>
  rcases hrel with ⟨rfl,rfl,hE⟩ | ⟨rfl,u,ho,hu,hE⟩
  ·have hcw:=hE.cell Hcu.out;have HE:=hid hE;have hE1:Ext w (wr.alloc (.cells #[] 3)):=hE.alloc _;have ho0:=zmv (w:=wr) (B:=w.heap.size) 3 #[] hE.size (by unfold maxLen;simp);have HE1:=hid hE1;have HO0:=hid ho0;clear hE hE1 ho0;go_wp2_with fail
   go_loopw [21,7] (fun v21 v7 wj=>∃ j:Nat,v21=.int .i64 j∧j≤n∧Hid (wj.ownsRow w.heap.size 3 1 v7 j (zap (x.take j)))∧Hid (Ext w wj)) (fun v21 _ _=>n - (zal v21).toNat)
   case atStart=>exact ⟨0,rfl,Nat.zero_le _,hid (by simpa [zap] using HO0.out),HE1⟩
   case round =>
    clear hcw HO0 HE1;obtain ⟨j,rfl,hjn,HO,HJ⟩:=hrel;obtain ⟨a7,c7,e7⟩:=zc3 HO.out;subst e7;by_cases hjj:j<n
    ·have hjr:j<x.length:=(by rw [Hn.out];exact hjj);obtain ⟨b2,o2,e2,hcj⟩:=Hcr.out j _ (zlu hjr);subst e2;have hcj2:=HJ.out.cell hcj;have hzb:=Hx.out (zas x j) (zc8 hjr);have hsj:=Hsm.out (zas x j) (by omega) (by omega) wr;have hst:=zmw hjr;generalize zas x j=z at *;have hj1:(0:Int)≤(j:Int):=(by omega);have hj2:(j:Int)<(n:Int):=(by omega);have z1:¬ 1000000000<z:=(by omega);have z2:¬ z < -1000000000:=(by omega);have Hsj:=hid hsj;have Hst:=hid hst;have hm3:j+1≤maxLen:=(by unfold maxLen;omega);have hm4:(j+1) * 8≤140737488355328:=(by omega);clear hsj hst hjr hcj hzb;go_wp2_with fail
     refine Hsj.out.mono ?_;rintro e VB ⟨rfl,hxa⟩;have hqo:=hxa.own HO.out;have hbase:w.heap.size≤VB.heap.size:=(HJ.out.trans hxa).size;have HEB:=hid (HJ.out.trans hxa);clear hxa;go_wp2_with (at_builtin;refine wpList_append_own _ rfl _ _ 33 rfl w.heap.size 3 i0 (.int .i64 0) 1 8 Tryz.underlying33 hi hz0 hz1 hz2 rfl (by decide) _ _ _ rfl (hqo.alloc _) ⟨VB.heap.size,0,none⟩ 1 1 [.int .i64 z] rfl rfl (cell_one_new _ _ _) (by simp [Value.oneCell']) hm3 hm4 (by rw [World.size_alloc];omega) ?_;intro v7 V7 hown7 hgrow7 _)
     go_roundw
     case rel=>exact ⟨j+1,by go_num,hjj,hid (by rw [Hst.out];exact hown7),hid ((HEB.out.alloc _).grown hgrow7 fun q hq=>(World.ownsRow.lt hqo q hq).1)⟩
     case measure=>simp [zal];omega
    ·have hjn2:j=n:=(by omega);have hkk:¬ (j:Int)<(n:Int):=(by omega);have hO2:=HO.out;rw [hjn2,show x.take n=x by rw [← Hn.out];exact List.take_length] at hO2;have HO2:=hid hO2;have Hjn:=hid hjn2;have hbase:w.heap.size≤wr.heap.size:=HJ.out.size;have hnil:=World.ownsRow_nil wr w.heap.size 33 1;clear hO2 hjn2;go_wp2_with (at_builtin;refine wpList_append_own _ rfl _ _ 78 rfl w.heap.size 33 j0 (.slice none 0 0) 1 24 Tryz.underlying78 hj hy0 hy1 hy2 rfl (by decide) _ _ _ rfl (hnil.alloc _) ⟨wr.heap.size,0,none⟩ 1 1 [.slice a7 j c7] rfl rfl (cell_one_new _ _ _) (by simp [Value.oneCell']) (by unfold maxLen;omega) (by omega) (by rw [World.size_alloc];omega) ?_;intro v4 V4 hown4 hgrow4 _)
     go_roundw
     case rel =>
      refine .inr ⟨by go_num,.slice a7 n c7,?_,?_,(HJ.out.alloc _).grown hgrow4 fun q hq=>by cases hq⟩
      ·rw [← Hjn.out];exact hown4
      ·unfold zc2;rw [Hn.out];exact World.ownsRow.kept (((Ext.refl wr).alloc _).own HO2.out) hgrow4 (zc5 HO2.out hnil (by decide))
     case measure=>simp [zal]
  ·have hkk:¬ (1:Int)<1:=(by decide);have Ho:=hid ho;have Hu:=hid hu;have HE:=hid hE;clear ho hu hE;go_wp2
   go_ret2
   exact ⟨_,rfl,u,Ho.out,Hu.out,HE.out⟩
theorem zmy (f:List (List Int))(r:List Int)(c:Nat):ziN (f++[r]) c=ziN f c++(if c≤ziM r then [r.drop c] else []):=by
 unfold ziN;rw [List.filter_append,List.map_append];congr 1;by_cases h:c≤ziM r
 ·rw [if_pos h,List.filter_cons_of_pos (by simpa using h)];rfl
 ·rw [if_neg h,List.filter_cons_of_neg (by simpa using h)];rfl
theorem zmz (vf:Value)(f:List (List Int))(cols n:Nat)(w:World)(hf:zmq w vf f)(hn9:n≤1000)(hm9:f.length≤1000)(hrow:∀ r∈f,r.length=n)(hcn:cols<n) :
  Calls Tryz.prog 84 #[vf,.int .i64 cols] w fun e w'=>∃ v,e=.returned v∧zmq w' v (ziN f cols)∧Ext w w':=by
 obtain ⟨j0,hj,hy0,hy1,hy2⟩:=info_parts zlY;obtain ⟨vs,hvl,hvs,hrows⟩:=hf;obtain ⟨af,cf,rfl,_,_,hc⟩:=hvs.parts;rw [hvl];generalize hm:f.length=m at *;have Hc:=hid hc;have Hrows:=hid hrows;have Hrow:=hid hrow;have Hm:=hid hm;have Hvl:=hid hvl;clear hc hrows hrow hm hvl hvs;go_enter Tryz.func84,Tryz.ntmps84
 go_wp2_with fail
 go_loopw [10,5] (fun v10 v5 wr=>∃ k:Nat,v10=.int .i64 k∧k≤m∧Hid (∃ us:List Value,us.length=(ziN (f.take k) cols).length∧wr.ownsRow w.heap.size 129 1 v5 us.length us∧∀ i u,us[i]?=some u→∀ W,Ext w W→Sl W u (zf1 ((ziN (f.take k) cols).getD i [])))∧Hid (Ext w wr)) (fun v10 _ _=>m - (zal v10).toNat)
 case atStart=>exact ⟨0,rfl,Nat.zero_le _,hid ⟨[],rfl,World.ownsRow_nil _ _ _ 1,fun i u h=>by simp at h⟩,hid (Ext.refl _)⟩
 case round =>
  obtain ⟨k,rfl,hk,HU,HE⟩:=hrel;obtain ⟨us,hul,huo,hur⟩:=HU.out;obtain ⟨a5,c5,e5⟩:=zc3 huo;subst e5;have Hul:=hid hul;have Huo:=hid huo;have Hur:=hid hur;clear HU hul huo hur;by_cases hkm:k<m
  ·obtain ⟨r,hr⟩:∃ r,f[k]?=some r:=⟨_,List.getElem?_eq_getElem (by have:=Hm.out;omega)⟩;obtain ⟨u,hu⟩:∃ u,vs[k]?=some u:=⟨_,List.getElem?_eq_getElem (by rw [Hvl.out];exact hkm)⟩;obtain ⟨b,off,rfl,hcu⟩:=Hc.out k u hu;have hru:=Hrows.out k u hu;rw [List.getD_eq_getElem?_getD,hr] at hru;simp only [Option.getD_some] at hru;have hrl:=Hrow.out r (List.mem_of_getElem? hr);have htk:ziN (f.take (k+1)) cols=ziN (f.take k) cols++(if cols≤ziM r then [r.drop cols] else []):=by
    obtain ⟨h1,h2⟩:=List.getElem?_eq_some_iff.1 hr;rw [List.take_succ_eq_append_getElem h1,h2,zmy]
   have hld:=fun W (hE:Ext w W)=>zmo u r W (hE.sl hru) (by omega);have hrs:=fun W (hE:Ext w W)=>hE.sl hru;obtain ⟨ar,cr,hue,hcr1,hcr2,hcr⟩:=hru.parts;rw [zf2,hrl] at hue hcr2;obtain ⟨b3,o3,e3,_⟩:=hcr 0 _ (zlu (by omega));subst e3;have hcw:=HE.out.cell hcu;have hk1:(0:Int)≤(k:Int):=(by omega);have hk2:(k:Int)<(m:Int):=(by omega);have HL:=hid (hld wr HE.out);have Htk:=hid htk;have Hrs:=hid hrs;have Hcr:=hid hcr;have Hrl:=hid hrl;clear htk hrs hcr hld hr hu hru hcu hrl;subst hue;go_wp2_with fail
   refine HL.out.mono ?_;rintro e w2 ⟨rfl,hx2⟩;have HE2:=hid (HE.out.trans hx2);have hx2':=hid hx2;clear hx2 hcw;by_cases hlt:cols≤ziM r
   ·have hc1:(cols:Int)≤(ziM r:Int):=(by omega);have hcc1:(cols:Int)≤(n:Int):=(by omega);have hcc2:(0:Int)≤(cols:Int):=(by omega);have hsn:∀ W,Ext w W→Sl W (.slice (some ⟨b3,o3+cols,none⟩) (n - cols) (cr - cols)) (zf1 (r.drop cols)):=fun W hW=>by
     have hlen:(zf1 (r.drop cols)).length=n - cols:=(by rw [zf2,List.length_drop,Hrl.out]);rw [← hlen];refine .inr ⟨b3,o3+cols,cr - cols,rfl,by rw [hlen];omega,by omega,fun i x hx=>?_⟩;have hx2:(zf1 r)[cols+i]?=some x:=by
      unfold zf1 at hx ⊢;rw [List.map_drop,List.getElem?_drop] at hx;exact hx
     obtain ⟨b4,o5,e4,h4⟩:=Hcr.out (cols+i) x hx2;simp only [Option.some.injEq,Addr.mk.injEq,and_true] at e4;obtain ⟨rfl,rfl⟩:=e4;rw [Nat.add_assoc];exact hW.cell h4
    have Hsn:=hid hsn;have hqo:=hx2'.out.own Huo.out;have hus:us.length≤1000:=by
     rw [Hul.out];unfold ziN;rw [List.length_map];have:=List.length_filter_le (fun l=>decide (cols≤ziM l)) (f.take k);rw [List.length_take,Hm.out] at this;omega
    have hm3:us.length+1≤maxLen:=(by unfold maxLen;omega);have hm4:(us.length+1) * 24≤140737488355328:=(by omega);have hbase:w.heap.size≤w2.heap.size:=HE2.out.size;clear hsn;go_wp2_with (at_builtin;refine wpList_append_own _ rfl _ _ 126 rfl w.heap.size 129 j0 (.slice none 0 0) 1 24 Tryz.underlying126 hj hy0 hy1 hy2 rfl (by decide) _ _ _ rfl (hqo.alloc _) ⟨w2.heap.size,0,none⟩ 1 1 [.slice (some ⟨b3,o3+cols,none⟩) (n - cols) (cr - cols)] rfl rfl (cell_one_new _ _ _) (by simp [Value.oneCell']) hm3 hm4 (by rw [World.size_alloc];omega) ?_;intro v7 V7 hown7 hgrow7 _)
    go_roundw
    case rel =>
     have htk:=Htk.out;rw [if_pos hlt] at htk;refine ⟨k+1,by go_num,hkm,hid ⟨us++[_],by rw [htk,List.length_append,List.length_append,Hul.out];rfl,by rw [List.length_append];exact hown7,fun i x hx W hW=>?_⟩,hid ((HE2.out.alloc _).grown hgrow7 fun q hq=>(World.ownsRow.lt hqo q hq).1)⟩;rw [htk];rcases Nat.lt_or_ge i us.length with g | g
     ·rw [List.getElem?_append_left g] at hx;have:=Hur.out i x hx W hW;rwa [show (ziN (f.take k) cols++[r.drop cols]).getD i []=(ziN (f.take k) cols).getD i [] by rw [List.getD_eq_getElem?_getD,List.getD_eq_getElem?_getD,List.getElem?_append_left (by rw [← Hul.out];exact g)]]
     ·rw [List.getElem?_append_right g] at hx;have hl:=(List.getElem?_eq_some_iff.1 hx).1;simp only [List.length_singleton] at hl;have hi:i=us.length:=(by omega);subst hi;rw [Nat.sub_self] at hx;obtain rfl:=Option.some.inj hx;rw [show (ziN (f.take k) cols++[r.drop cols]).getD us.length []=r.drop cols by rw [List.getD_eq_getElem?_getD,Hul.out,List.getElem?_append_right (Nat.le_refl _),Nat.sub_self];rfl];exact Hsn.out W hW
    case measure=>simp [zal];omega
   ·have hc1:¬ (cols:Int)≤(ziM r:Int):=(by omega);have htk:=Htk.out;rw [if_neg hlt,List.append_nil] at htk;have Htk2:=hid htk;clear htk;go_wp2_with fail
    go_roundw
    case rel=>exact ⟨k+1,by go_num,hkm,hid ⟨us,by rw [Htk2.out];exact Hul.out,hx2'.out.own Huo.out,by rw [Htk2.out];exact Hur.out⟩,HE2⟩
    case measure=>simp [zal];omega
  ·have hkk:¬ (k:Int)<(m:Int):=(by omega);have hft:f.take k=f:=List.take_of_length_le (by rw [Hm.out];omega);have hul:=Hul.out;have hur:=Hur.out;rw [hft] at hul hur;have Hul2:=hid hul;have Hur2:=hid hur;clear hft hul hur;go_wp2
   go_ret
   exact ⟨_,rfl,⟨us,Hul2.out,zan Huo.out,fun i u hu=>Hur2.out i u hu _ HE.out⟩,HE.out⟩
end Go.Proofs.YtipkdebkdnbieaaGreatDoor
