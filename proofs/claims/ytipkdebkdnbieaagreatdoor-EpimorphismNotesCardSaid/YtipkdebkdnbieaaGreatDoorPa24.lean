/- Walks: smith's lead; slices.Clone at strings; smith's reduced: a line less its multiples of a form's rows. Walk: smith's reduced. Walk: smith's small at a grid of one row. Walk: smith's kernel. Walk: smith's wide: the Hermite form of a matrix with the units at its right. -/
import Derived.Test.YtipkdebkdnbieaaGreatDoorPa22
import Derived.Shelf.SlicesE.IndexFunc
import Derived.Shelf.SlicesE.Clone
import Derived.Shelf.Abstract
import Derived.Test.YtipkdebkdnbieaaGreatDoorPa23
import Derived.Test.YtipkdebkdnbieaaGreatDoorPa10
import Derived.Deep.AppendLies
set_option maxRecDepth 100000
set_option maxHeartbeats 4000000
namespace Go.Proofs.YtipkdebkdnbieaaGreatDoor
open Go.RowKit Go.Lib Go.Shelf
theorem znf : ∀ (x:List Int)(i:Nat),(idxByFrom (fun _ y:Int=>y != 0) default x i=-1∧zje x=x.length)∨idxByFrom (fun _ y:Int=>y != 0) default x i=((i+zje x:Nat):Int)∧zje x<x.length
 | [],i=>.inl ⟨rfl,rfl⟩
 | z::r,i=>by
  unfold idxByFrom zje;by_cases h:z=0
  ·rw [if_neg (by simp [h]),if_pos h,List.length_cons];rcases znf r (i+1) with ⟨h1,h2⟩ | ⟨h1,h2⟩
   ·exact .inl ⟨h1,by omega⟩
   ·exact .inr ⟨by rw [h1];congr 1;omega,by omega⟩
  ·rw [if_pos (by simpa using h),if_neg h,List.length_cons];exact .inr ⟨rfl,by omega⟩
theorem zng : ∀ (x:List Int),zje x<x.length→zas x (zje x) ≠ 0
 | [],h=>by simp at h
 | z::r,h=>by
  by_cases h0:z=0
  ·have e:zje (z::r)=zje r+1:=(by show (if z=0 then _ else _)=_;rw [if_pos h0]);rw [e,List.length_cons] at h;rw [e];exact zng r (by omega)
  ·have e:zje (z::r)=0:=(by show (if z=0 then _ else _)=_;rw [if_neg h0]);rw [e];exact h0
theorem znh (z:Int):((I z).toList != [48])=(z != 0):=by
 rw [bne,zb3];by_cases h:z=0
 ·rw [decide_eq_true h,h];rfl
 ·rw [decide_eq_false h];simp [h]
theorem zni (z:Int)(w:World):Calls Tryz.prog 113 #[.string (I z)] w fun e w'=>e=.returned (.bool (z != 0))∧∃ q,w'=w.drewN q:=by
 have h:=znh z;rw [← h]
 cases hb:((I z).toList != [48]) <;>
 ·have h1:((I z).toList == [48])=!((I z).toList != [48]):=by rw [bne,Bool.not_not]
  rw [hb] at h1;go_enter Tryz.func113,Tryz.ntmps113
  go_wp2
  go_ret
  exact ⟨rfl,0,rfl⟩
theorem znj (w:World):Go.Proofs.PredAt Tryz.prog 113 #[] (fun z:Int=>Value.string (I z)) (fun z=>z != 0) w:=fun W x _=>zni x W
theorem znk : ∀ args w,(callFunc 113 args).run Tryz.prog w=.ok (.enter 113 args) w:=enters_of Tryz.func113 (by kernel_rfl) rfl
theorem znl (v:Value)(x:List Int)(w:World)(hx:Sl w v (zf3 x))(hl:x.length≤1000000) :
  Calls Tryz.prog 112 #[v,.func (.func 113) #[] #[]] w fun e w'=>e=.returned (.int .i64 (idxByFrom (fun _ y:Int=>y != 0) default x 0))∧Ext w w':=by
 obtain ⟨a,c,rfl,_,_,hc⟩:=hx.parts;rw [zf4]
 cases x with
 | nil=>exact (AnyE.slices_IndexFunc_empty Tryz.lIndexS a c _ w).mono fun e w' ⟨h,hw⟩=>⟨h,by rw [hw];exact Ext.refl _⟩
 | cons z r =>
  obtain ⟨b,off,rfl,_⟩:=hc 0 _ (zmq (l:=z::r) (by simp))
  have h:=AnyE.slices_IndexFunc Tryz.lIndexS (fun z:Int=>Value.string (I z)) (fun n=>n != 0) 113 #[] znk b off (z::r).length c (z::r) w (znj w) (Nat.le_refl _) (by omega) (fun j hj=>by
   obtain ⟨b2,off2,e2,hcell⟩:=hc j _ (zmq hj);simp only [Option.some.injEq,Addr.mk.injEq,and_true] at e2;obtain ⟨rfl,rfl⟩:=e2;rw [hcell];unfold zas;rw [List.getD_eq_getElem?_getD,List.getElem?_eq_getElem hj,getElem!_pos _ j hj];rfl)
  rw [List.take_length] at h
  exact h.mono fun e w' ⟨he,q,hw⟩=>⟨he,by rw [hw];exact (Ext.refl w).drewN q⟩
theorem znm (v:Value)(x:List Int)(w:World)(hx:Sl w v (zf3 x))(hl:x.length≤1000000) :
  Calls Tryz.prog 80 #[v] w fun e w'=>e=.returned (.int .i64 (zje x))∧Ext w w':=by
 have hi:=znl v x w hx hl;have hz:=znf x 0;obtain ⟨a,c,rfl,_,_,_⟩:=hx.parts;rw [zf4] at *;generalize idxByFrom (fun _ y:Int=>y != 0) default x 0=i at *;generalize x.length=n at *;generalize zje x=k at *;have Hi:=hid hi;clear hi hx;rcases hz with ⟨rfl,rfl⟩ | ⟨hz,hk⟩
 ·go_enter Tryz.func80,Tryz.ntmps80
  go_wp2_with fail
  refine Hi.out.mono ?_;rintro e w1 ⟨rfl,hx⟩;have Hx:=hid hx;clear hx;go_wp2
  go_ret
  exact ⟨rfl,Hx.out⟩
 ·rw [Nat.zero_add] at hz;subst hz;have hk0:¬ (k:Int)<0:=by omega
  go_enter Tryz.func80,Tryz.ntmps80
  go_wp2_with fail
  refine Hi.out.mono ?_;rintro e w1 ⟨rfl,hx⟩;have Hx:=hid hx;clear hx;go_wp2
  go_ret
  exact ⟨rfl,Hx.out⟩
theorem znn (v:Value)(x:List Int)(w:World)(hx:Sl w v (zf3 x))(hx0:0<x.length)(hl:x.length≤1000) :
  Calls Tryz.prog 114 #[v] w fun e w'=>∃ u,e=.returned u∧w'.ownsRow w.heap.size 100 1 u x.length (zf3 x)∧Ext w w':=by
 obtain ⟨i0,hi,hz0,hz1,hz2⟩:=info_parts zf5;obtain ⟨a,c,rfl,h1,h2,hc⟩:=hx.parts;obtain ⟨b,off,rfl,_⟩:=hc 0 _ (zmq hx0);have hcell:∀ j u,(zf3 x)[j]?=some u→w.cell? ⟨b,off+j,none⟩=some u:=fun j u hu=>by
  obtain ⟨b2,off2,e2,h3⟩:=hc j u hu;simp only [Option.some.injEq,Addr.mk.injEq,and_true] at e2;obtain ⟨rfl,rfl⟩:=e2;exact h3
 rw [zf4];refine (AnyE.slices_Clone Tryz.lCloneS i0 (.string ByteArray.empty) 1 16 hi hz0 hz1 hz2 rfl (by decide) Tryz.sizeOf100 b off x.length c (zf3 x) w (by rw [zf4];omega) (by unfold maxLen;omega) (by omega) hcell (by simp [zf3,Value.oneCell'])).mono fun e w' ⟨v',he,ho,hn,hb⟩=>⟨v',he,ho,hb⟩
def zno (w:World)(v:Value)(f:List (List Int)):Prop :=
 ∃ vs:List Value,vs.length=f.length∧Sl w v vs∧∀ i u,vs[i]?=some u→Sl w u (zf3 (f.getD i []))
theorem zno.ext {w w':World}{v:Value}{f:List (List Int)}(h:zno w v f)(hx:Ext w w'):zno w' v f:=by
 obtain ⟨vs,h1,h2,h3⟩:=h;exact ⟨vs,h1,hx.sl h2,fun i u hu=>hx.sl (h3 i u hu)⟩
theorem znp {f:List (List Int)}{r l lF:List Int}(h:zjh (r::f) l=some lF):(∀ z∈l,z.natAbs<ziK)∧(∀ z∈r,z.natAbs<ziK)∧zjh f (zjg l r)=some lF:=by
 unfold zjh at h;by_cases hc:l.all okZ=true∧r.all okZ=true
 ·rw [if_pos hc] at h;refine ⟨fun z hz=>?_,fun z hz=>?_,h⟩
  ·have:=List.all_eq_true.1 hc.1 z hz;unfold okZ at this;exact of_decide_eq_true this
  ·have:=List.all_eq_true.1 hc.2 z hz;unfold okZ at this;exact of_decide_eq_true this
 ·rw [if_neg hc] at h;cases h
theorem znq {l r:List Int}(h:l.length≤r.length):(zjg l r).length=l.length:=by
 unfold zjg;split
 ·exact zmF _ h
 ·rfl
theorem znr (vf vl:Value)(f:List (List Int))(l lF:List Int)(n:Nat)(w:World)(he:Env w)(hf:zno w vf f)(hl:Sl w vl (zf3 l))(hn:l.length=n)(hn0:0<n)(hn9:n≤1000)(hm9:f.length≤1000)(hrow:∀ r∈f,n≤r.length∧r.length≤1000)(hrun:zjh f l=some lF) :
  Calls Tryz.prog 81 #[vf,vl] w fun e w'=>∃ u,e=.returned u∧w'.ownsRow w.heap.size 100 1 u n (zf3 lF)∧lF.length=n∧Ext w w':=by
 have hcl:=fun W (hE:Ext w W)=>znn vl l W (hE.sl hl) (by omega) (by omega);obtain ⟨vs,hvl,hvs,hrows⟩:=hf;obtain ⟨af,cf,rfl,_,_,hc⟩:=hvs.parts;obtain ⟨al,cl,rfl,_,_,_⟩:=hl.parts;have hsl:(zf3 l).length=n:=by rw [zf4,hn]
 rw [hvl,hsl];simp only [hsl,hn] at hcl;generalize hm:f.length=m at *;have Hcl:=hid hcl;have Hc:=hid hc;have Hrows:=hid hrows;have Hrow:=hid hrow;have Hrun:=hid hrun;have He:=hid he;have Hm:=hid hm;have Hn:=hid hn;have Hvl:=hid hvl;clear hcl hc hrows hrow hrun he hm hn hvl hvs hl hsl;go_enter Tryz.func81,Tryz.ntmps81
 go_wp2_with fail
 refine (Hcl.out w (Ext.refl w)).mono ?_;rintro e w1 ⟨u1,rfl,ho1,hx1⟩;obtain ⟨g,c1,rfl,hgB,_⟩:=zmX ho1 hn0;have Ho1:=hid ho1;have Hx1:=hid hx1;have HgB:=hid hgB;clear ho1 hx1 hgB;go_wp2_with fail
 go_loopw [15] (fun v15 wr=>∃ (k:Nat)(lk:List Int),v15=.int .i64 k∧k≤m∧Hid (zjh (f.drop k) lk=some lF∧lk.length=n)∧Hid (wr.ownsRow w.heap.size 100 1 (.slice (some ⟨g,0,none⟩) n c1) n (zf3 lk))∧Hid (Ext w wr)) (fun v15 _=>m - (zal v15).toNat)
 case atStart=>exact ⟨0,l,rfl,Nat.zero_le _,hid ⟨Hrun.out,Hn.out⟩,Ho1,Hx1⟩
 case round =>
  clear Ho1 Hx1;obtain ⟨k,lk,rfl,hk,HR,HO,HE⟩:=hrel;by_cases hkm:k<m
  ·obtain ⟨r,hr⟩:∃ r,f[k]?=some r:=⟨_,List.getElem?_eq_getElem (by have:=Hm.out;omega)⟩;obtain ⟨u,hu⟩:∃ u,vs[k]?=some u:=⟨_,List.getElem?_eq_getElem (by rw [Hvl.out];exact hkm)⟩;obtain ⟨b,off,rfl,hcu⟩:=Hc.out k u hu;have hru:=Hrows.out k u hu;rw [List.getD_eq_getElem?_getD,hr] at hru;simp only [Option.getD_some] at hru;have hrw:=Hrow.out r (List.mem_of_getElem? hr);have hrd:zjh (r::f.drop (k+1)) lk=some lF:=by
    rw [← (List.getElem?_eq_some_iff.1 hr).2,← List.drop_eq_getElem_cons (List.getElem?_eq_some_iff.1 hr).1];exact HR.out.1
   obtain ⟨hz1,hz2,hnext⟩:=znp hrd;have hlk:=HR.out.2;have hle:=znq (l:=lk) (r:=r) (by omega);have hld:=fun W (hE:Ext w W)=>znm u r W (hE.sl hru) (by omega);have hrs:=fun W (hE:Ext w W)=>hE.sl hru;obtain ⟨ar,cr,hue,_,_,hcr⟩:=hru.parts;rw [zf4] at hue;have hcw:=HE.out.cell hcu;have hk1:(0:Int)≤(k:Int):=(by omega);have hk2:(k:Int)<(m:Int):=(by omega);have hldw:=hld wr HE.out;have HL:=hid hldw;have Hnx:=hid hnext;have Hle:=hid hle;have Hrs:=hid hrs;have Hcr:=hid hcr;have Hz1:=hid hz1;have Hz2:=hid hz2;have Hlk:=hid hlk;have Hrw:=hid hrw;clear hldw hnext hle hrs hcr hz1 hz2 hlk hrw hld hrd hr hu hru hcu;subst hue;go_wp2_with fail
   refine HL.out.mono ?_;rintro e w2 ⟨rfl,hx2⟩;have HE2:=hid (HE.out.trans hx2);have HO2:=hid (hx2.own HO.out);clear hx2 hcw;by_cases hlt:zje r<n
   ·have hc0:(0:Int)≤(zje r:Int):=(by omega);have hc1:(zje r:Int)<(n:Int):=(by omega);have hc2:(zje r:Int)<(r.length:Int):=(by have:=Hrw.out.1;omega);have hlr:zje r<r.length:=(by have:=Hrw.out.1;omega);have hnz:=zng r hlr;have hls:zjg lk r=ziU lk r (fdv (zas lk (zje r)) (zas r (zje r))):=(by unfold zjg;rw [if_pos (by rw [Hlk.out];exact hlt)];rfl);have a1:=zlq HO2.out (zmq (l:=lk) (j:=zje r) (by rw [Hlk.out];exact hlt));obtain ⟨b2,o2,e2,hcj⟩:=Hcr.out (zje r) _ (zmq hlr);subst e2;have a2:=HE2.out.cell hcj;have hq:(fdv (zas lk (zje r)) (zas r (zje r))).natAbs<ziK:=Nat.lt_of_le_of_lt (zmC hnz) (Hz1.out _ (zc8 (by rw [Hlk.out];exact hlt)));have hdm:=fun W (hW:Ext w W)=>zeh (zas lk (zje r)) (zas r (zje r)) W (He.out.ext hW) hnz (zmA (Hz1.out _ (zc8 (by rw [Hlk.out];exact hlt)))) (zmA (Hz2.out _ (zc8 hlr)));have htk:=fun W (hW:Ext w W)(ho:W.ownsRow w.heap.size 100 1 (.slice (some ⟨g,0,none⟩) n c1) n (zf3 lk))=>zmr g n r.length c1 (.slice (some ⟨b2,o2,none⟩) r.length cr) (fdv (zas lk (zje r)) (zas r (zje r))) lk r w W w.heap.size He.out hW (Nat.le_refl _) Hlk.out rfl Hrw.out.1 Hrw.out.2 ho (fun W2 hg=>Hrs.out W2 (hW.grown hg fun q hq=>by cases hq;exact HgB.out)) (zmA hq) (fun z hz=>zmA (Hz1.out z hz)) (fun z hz=>zmA (Hz2.out z hz)) (fun z hz=>zmD hq (Hz2.out z hz));have Hdm:=hid hdm;have Htk:=hid htk;have Hls:=hid hls;clear hdm htk hls hq hnz hcj hlr;generalize hqs:I (fdv (zas lk (zje r)) (zas r (zje r)))=sq at *;generalize I (fmd (zas lk (zje r)) (zas r (zje r)))=sr at *;generalize I (zas lk (zje r))=sa at *;generalize I (zas r (zje r))=sb at *;clear hqs;generalize hcc:zje r=c at *;have Hcc:=hid hcc;clear hcc;go_wp2_with fail
    go_region_held3 (fun w'=>Ext w2 w'∧w'.cell? ⟨g,c,none⟩=some (.string sa)∧w'.cell? ⟨b2,o2+c,none⟩=some (.string sb))
     (first | (with_reducible assumption) | exact ⟨(Ext.refl w2).drew,a1,a2⟩)
     (first
      | (go_at_call 115;refine (Hdm.out _ (HE2.out.trans (And.left (by assumption)))).mono ?_;rintro e9 VA ⟨rfl,hxa⟩;have hEA:=((Ext.refl w2).drew).trans hxa;have hS2:Ext w2 VA∧VA.cell? ⟨g,c,none⟩=some (.string sa)∧VA.cell? ⟨b2,o2+c,none⟩=some (.string sb):=⟨hEA,hEA.cell a1,hEA.cell a2⟩;have HEA:=hid hEA;clear hxa hEA))
    all_goals
     have htk2:=Htk.out _ (HE2.out.trans HEA.out) (HEA.out.own HO2.out);have Htk2:=hid htk2;clear htk2 hS2 a1 a2;go_wp2_with fail
     refine Htk2.out.mono ?_;rintro e w5 ⟨rfl,ho5,hg5⟩;rw [← Hls.out] at ho5;have Ho5:=hid ho5;have HE5:=hid ((HE2.out.trans HEA.out).grown hg5 fun q hq=>by cases hq;exact HgB.out);clear ho5 hg5;go_wp2_with fail
     go_roundw
     case rel=>exact ⟨k+1,_,by go_num,hkm,hid ⟨Hnx.out,Hle.out.trans Hlk.out⟩,Ho5,HE5⟩
     case measure=>simp [zal];omega
   ·have hc1:¬ (zje r:Int)<(n:Int):=(by omega);have hls:zjg lk r=lk:=(by unfold zjg;rw [if_neg (by rw [Hlk.out];exact hlt)]);have hnx:=Hnx.out;rw [hls] at hnx;have Hnx2:=hid hnx;clear hnx hls;go_wp2_with fail
    go_roundw
    case rel=>exact ⟨k+1,lk,by go_num,hkm,hid ⟨Hnx2.out,Hlk.out⟩,HO2,HE2⟩
    case measure=>simp [zal];omega
  ·have hkk:¬ (k:Int)<(m:Int):=(by omega);have hR:=HR.out.1;rw [List.drop_of_length_le (by rw [Hm.out];omega)] at hR;have hfin:lk=lF:=Option.some.inj hR;have hO:=HO.out;rw [hfin] at hO;have hl2:=HR.out.2;rw [hfin] at hl2;have HO2:=hid hO;have HL2:=hid hl2;clear hR hfin hO hl2;go_wp2
   go_ret
   exact ⟨_,rfl,HO2.out,HL2.out,HE.out⟩
theorem zns : (Tryz.prog.info? 33).map (fun i=>(i.zero,i.size,i.bytes))=some (some (.slice none 0 0),1,24):=by kernel_rfl
theorem znt {w:World}{B:Nat}(T:TypeId)(xs:Array Value)(hB:B≤w.heap.size)(hm:xs.size≤maxLen):(w.alloc (.cells xs T)).ownsRow B T 1 (.slice (some ⟨w.heap.size,0,none⟩) xs.size xs.size) xs.size xs.toList :=
 ⟨by simp,.inr ⟨w.heap.size,xs.size,xs,rfl,hB,World.alloc_heap_new w _,Nat.le_refl _,hm,by simp,by rw [Nat.mul_one,← Array.length_toList,List.take_length]⟩⟩
theorem znu {r:List Int}{j:Nat}(h:j<r.length):zap (r.take (j+1))=zap (r.take j)++[.int .i64 (zas r j)]:=by
 rw [List.take_succ_eq_append_getElem h];unfold zap zas;rw [List.map_append,List.getD_eq_getElem?_getD,List.getElem?_eq_getElem h];rfl
def SmR (w:World)(x:List Int)(v14 v4:Value)(wr:World):Prop :=
 (v14=.int .i64 0∧v4=.slice none 0 0∧Ext w wr)∨(v14=.int .i64 1∧∃ u,wr.ownsRow w.heap.size 33 1 v4 1 [u]∧zc2 wr w.heap.size u x∧Ext w wr)
theorem znv (vf:Value)(x:List Int)(n:Nat)(w:World)(hf:zno w vf [x])(hn:x.length=n)(hn9:n≤1000)(hx:∀ z∈x,z.natAbs≤1000000000) :
  Calls Tryz.prog 83 #[vf] w fun e w'=>∃ v,e=.returned (.tuple #[v,.int .i64 0])∧∃ u,w'.ownsRow w.heap.size 33 1 v 1 [u]∧zc2 w' w.heap.size u x∧Ext w w':=by
 obtain ⟨i0,hi,hz0,hz1,hz2⟩:=info_parts zc1;obtain ⟨j0,hj,hy0,hy1,hy2⟩:=info_parts zns;have hsm:=fun (z:Int)(h0:-9223372036854775808≤z)(h1:z≤9223372036854775807) W=>zfP z W h0 h1;obtain ⟨vs,hvl,hvs,hrows⟩:=hf;obtain ⟨af,cf,rfl,_,_,hc⟩:=hvs.parts;rw [hvl];obtain ⟨u0,hu⟩:∃ u,vs[0]?=some u:=⟨_,List.getElem?_eq_getElem (by rw [hvl];simp)⟩;obtain ⟨b,off,rfl,hcu⟩:=hc 0 u0 hu;have hru:=hrows 0 u0 hu;simp only [List.getD_cons_zero] at hru;obtain ⟨ar,cr,rfl,_,_,hcr⟩:=hru.parts;rw [zf4,hn,Nat.add_zero] at hcu;rw [show [x].length=1 from rfl];have Hcr:=hid hcr;have Hn:=hid hn;have Hx:=hid hx;have Hsm:=hid hsm;have Hcu:=hid hcu;clear hcr hn hx hsm hc hvl hvs hrows hu hru hcu;go_enter Tryz.func83,Tryz.ntmps83
 go_wp2_with fail
 go_loopw [14,4] (fun v14 v4 wr=>SmR w x v14 v4 wr) (fun v14 _ _=>1 - (zal v14).toNat)
 case atStart=>exact .inl ⟨rfl,rfl,Ext.refl _⟩
 case round =>
  rcases hrel with ⟨rfl,rfl,hE⟩ | ⟨rfl,u,ho,hu,hE⟩
  ·have hcw:=hE.cell Hcu.out;have HE:=hid hE;have hE1:Ext w (wr.alloc (.cells #[] 3)):=hE.alloc _;have ho0:=znt (w:=wr) (B:=w.heap.size) 3 #[] hE.size (by unfold maxLen;simp);have HE1:=hid hE1;have HO0:=hid ho0;clear hE hE1 ho0;go_wp2_with fail
   go_loopw [21,7] (fun v21 v7 wj=>∃ j:Nat,v21=.int .i64 j∧j≤n∧Hid (wj.ownsRow w.heap.size 3 1 v7 j (zap (x.take j)))∧Hid (Ext w wj)) (fun v21 _ _=>n - (zal v21).toNat)
   case atStart=>exact ⟨0,rfl,Nat.zero_le _,hid (by simpa [zap] using HO0.out),HE1⟩
   case round =>
    clear hcw HO0 HE1;obtain ⟨j,rfl,hjn,HO,HJ⟩:=hrel;obtain ⟨a7,c7,e7⟩:=zc3 HO.out;subst e7;by_cases hjj:j<n
    ·have hjr:j<x.length:=(by rw [Hn.out];exact hjj);obtain ⟨b2,o2,e2,hcj⟩:=Hcr.out j _ (zmq hjr);subst e2;have hcj2:=HJ.out.cell hcj;have hzb:=Hx.out (zas x j) (zc8 hjr);have hsj:=Hsm.out (zas x j) (by omega) (by omega) wr;have hst:=znu hjr;generalize zas x j=z at *;have hj1:(0:Int)≤(j:Int):=(by omega);have hj2:(j:Int)<(n:Int):=(by omega);have z1:¬ 1000000000<z:=(by omega);have z2:¬ z < -1000000000:=(by omega);have Hsj:=hid hsj;have Hst:=hid hst;have hm3:j+1≤maxLen:=(by unfold maxLen;omega);have hm4:(j+1) * 8≤140737488355328:=(by omega);clear hsj hst hjr hcj hzb;go_wp2_with fail
     refine Hsj.out.mono ?_;rintro e VB ⟨rfl,hxa⟩;have hqo:=hxa.own HO.out;have hbase:w.heap.size≤VB.heap.size:=(HJ.out.trans hxa).size;have HEB:=hid (HJ.out.trans hxa);clear hxa;go_wp2_with (at_builtin;refine wpList_append_own _ rfl _ _ 33 rfl w.heap.size 3 i0 (.int .i64 0) 1 8 Tryz.underlying33 hi hz0 hz1 hz2 rfl (by decide) _ _ _ rfl (hqo.alloc _) ⟨VB.heap.size,0,none⟩ 1 1 [.int .i64 z] rfl rfl (cell_one_new _ _ _) (by simp [Value.oneCell']) hm3 hm4 (by rw [World.size_alloc];omega) ?_;intro v7 V7 hown7 hgrow7 _)
     go_roundw
     case rel=>exact ⟨j+1,by go_num,hjj,hid (by rw [Hst.out];exact hown7),hid ((HEB.out.alloc _).grown hgrow7 fun q hq=>(World.ownsRow.lt hqo q hq).1)⟩
     case measure=>simp [zal];omega
    ·have hjn2:j=n:=(by omega);have hkk:¬ (j:Int)<(n:Int):=(by omega);have hO2:=HO.out;rw [hjn2,show x.take n=x by rw [← Hn.out];exact List.take_length] at hO2;have HO2:=hid hO2;have Hjn:=hid hjn2;have hbase:w.heap.size≤wr.heap.size:=HJ.out.size;have hnil:=World.ownsRow_nil wr w.heap.size 33 1;clear hO2 hjn2;go_wp2_with (at_builtin;refine wpList_append_own _ rfl _ _ 78 rfl w.heap.size 33 j0 (.slice none 0 0) 1 24 Tryz.underlying78 hj hy0 hy1 hy2 rfl (by decide) _ _ _ rfl (hnil.alloc _) ⟨wr.heap.size,0,none⟩ 1 1 [.slice a7 j c7] rfl rfl (cell_one_new _ _ _) (by simp [Value.oneCell']) (by unfold maxLen;omega) (by omega) (by rw [World.size_alloc];omega) ?_;intro v4 V4 hown4 hgrow4 _)
     go_roundw
     case rel =>
      refine .inr ⟨by go_num,.slice a7 n c7,?_,?_,(HJ.out.alloc _).grown hgrow4 fun q hq=>by cases hq⟩
      ·rw [← Hjn.out];exact hown4
      ·unfold zc2;rw [Hn.out];exact World.ownsRow.kept (((Ext.refl wr).alloc _).own HO2.out) hgrow4 (zc5 HO2.out hnil (by decide))
     case measure=>simp [zal]
  ·have hkk:¬ (1:Int)<1:=(by decide);have Ho:=hid ho;have Hu:=hid hu;have HE:=hid hE;clear ho hu hE;go_wp2
   go_ret2
   exact ⟨_,rfl,u,Ho.out,Hu.out,HE.out⟩
theorem znw (f:List (List Int))(r:List Int)(c:Nat):zjf (f++[r]) c=zjf f c++(if c≤zje r then [r.drop c] else []):=by
 unfold zjf;rw [List.filter_append,List.map_append];congr 1;by_cases h:c≤zje r
 ·rw [if_pos h,List.filter_cons_of_pos (by simpa using h)];rfl
 ·rw [if_neg h,List.filter_cons_of_neg (by simpa using h)];rfl
theorem znx (vf:Value)(f:List (List Int))(cols n:Nat)(w:World)(hf:zno w vf f)(hn9:n≤1000)(hm9:f.length≤1000)(hrow:∀ r∈f,r.length=n)(hcn:cols<n) :
  Calls Tryz.prog 84 #[vf,.int .i64 cols] w fun e w'=>∃ v,e=.returned v∧zno w' v (zjf f cols)∧Ext w w':=by
 obtain ⟨j0,hj,hy0,hy1,hy2⟩:=info_parts zmW;obtain ⟨vs,hvl,hvs,hrows⟩:=hf;obtain ⟨af,cf,rfl,_,_,hc⟩:=hvs.parts;rw [hvl];generalize hm:f.length=m at *;have Hc:=hid hc;have Hrows:=hid hrows;have Hrow:=hid hrow;have Hm:=hid hm;have Hvl:=hid hvl;clear hc hrows hrow hm hvl hvs;go_enter Tryz.func84,Tryz.ntmps84
 go_wp2_with fail
 go_loopw [10,5] (fun v10 v5 wr=>∃ k:Nat,v10=.int .i64 k∧k≤m∧Hid (∃ us:List Value,us.length=(zjf (f.take k) cols).length∧wr.ownsRow w.heap.size 129 1 v5 us.length us∧∀ i u,us[i]?=some u→∀ W,Ext w W→Sl W u (zf3 ((zjf (f.take k) cols).getD i [])))∧Hid (Ext w wr)) (fun v10 _ _=>m - (zal v10).toNat)
 case atStart=>exact ⟨0,rfl,Nat.zero_le _,hid ⟨[],rfl,World.ownsRow_nil _ _ _ 1,fun i u h=>by simp at h⟩,hid (Ext.refl _)⟩
 case round =>
  obtain ⟨k,rfl,hk,HU,HE⟩:=hrel;obtain ⟨us,hul,huo,hur⟩:=HU.out;obtain ⟨a5,c5,e5⟩:=zc3 huo;subst e5;have Hul:=hid hul;have Huo:=hid huo;have Hur:=hid hur;clear HU hul huo hur;by_cases hkm:k<m
  ·obtain ⟨r,hr⟩:∃ r,f[k]?=some r:=⟨_,List.getElem?_eq_getElem (by have:=Hm.out;omega)⟩;obtain ⟨u,hu⟩:∃ u,vs[k]?=some u:=⟨_,List.getElem?_eq_getElem (by rw [Hvl.out];exact hkm)⟩;obtain ⟨b,off,rfl,hcu⟩:=Hc.out k u hu;have hru:=Hrows.out k u hu;rw [List.getD_eq_getElem?_getD,hr] at hru;simp only [Option.getD_some] at hru;have hrl:=Hrow.out r (List.mem_of_getElem? hr);have htk:zjf (f.take (k+1)) cols=zjf (f.take k) cols++(if cols≤zje r then [r.drop cols] else []):=by
    obtain ⟨h1,h2⟩:=List.getElem?_eq_some_iff.1 hr;rw [List.take_succ_eq_append_getElem h1,h2,znw]
   have hld:=fun W (hE:Ext w W)=>znm u r W (hE.sl hru) (by omega);have hrs:=fun W (hE:Ext w W)=>hE.sl hru;obtain ⟨ar,cr,hue,hcr1,hcr2,hcr⟩:=hru.parts;rw [zf4,hrl] at hue hcr2;obtain ⟨b3,o3,e3,_⟩:=hcr 0 _ (zmq (by omega));subst e3;have hcw:=HE.out.cell hcu;have hk1:(0:Int)≤(k:Int):=(by omega);have hk2:(k:Int)<(m:Int):=(by omega);have HL:=hid (hld wr HE.out);have Htk:=hid htk;have Hrs:=hid hrs;have Hcr:=hid hcr;have Hrl:=hid hrl;clear htk hrs hcr hld hr hu hru hcu hrl;subst hue;go_wp2_with fail
   refine HL.out.mono ?_;rintro e w2 ⟨rfl,hx2⟩;have HE2:=hid (HE.out.trans hx2);have hx2':=hid hx2;clear hx2 hcw;by_cases hlt:cols≤zje r
   ·have hc1:(cols:Int)≤(zje r:Int):=(by omega);have hcc1:(cols:Int)≤(n:Int):=(by omega);have hcc2:(0:Int)≤(cols:Int):=(by omega);have hsn:∀ W,Ext w W→Sl W (.slice (some ⟨b3,o3+cols,none⟩) (n - cols) (cr - cols)) (zf3 (r.drop cols)):=fun W hW=>by
     have hlen:(zf3 (r.drop cols)).length=n - cols:=(by rw [zf4,List.length_drop,Hrl.out]);rw [← hlen];refine .inr ⟨b3,o3+cols,cr - cols,rfl,by rw [hlen];omega,by omega,fun i x hx=>?_⟩;have hx2:(zf3 r)[cols+i]?=some x:=by
      unfold zf3 at hx ⊢;rw [List.map_drop,List.getElem?_drop] at hx;exact hx
     obtain ⟨b4,o5,e4,h4⟩:=Hcr.out (cols+i) x hx2;simp only [Option.some.injEq,Addr.mk.injEq,and_true] at e4;obtain ⟨rfl,rfl⟩:=e4;rw [Nat.add_assoc];exact hW.cell h4
    have Hsn:=hid hsn;have hqo:=hx2'.out.own Huo.out;have hus:us.length≤1000:=by
     rw [Hul.out];unfold zjf;rw [List.length_map];have:=List.length_filter_le (fun l=>decide (cols≤zje l)) (f.take k);rw [List.length_take,Hm.out] at this;omega
    have hm3:us.length+1≤maxLen:=(by unfold maxLen;omega);have hm4:(us.length+1) * 24≤140737488355328:=(by omega);have hbase:w.heap.size≤w2.heap.size:=HE2.out.size;clear hsn;go_wp2_with (at_builtin;refine wpList_append_own _ rfl _ _ 126 rfl w.heap.size 129 j0 (.slice none 0 0) 1 24 Tryz.underlying126 hj hy0 hy1 hy2 rfl (by decide) _ _ _ rfl (hqo.alloc _) ⟨w2.heap.size,0,none⟩ 1 1 [.slice (some ⟨b3,o3+cols,none⟩) (n - cols) (cr - cols)] rfl rfl (cell_one_new _ _ _) (by simp [Value.oneCell']) hm3 hm4 (by rw [World.size_alloc];omega) ?_;intro v7 V7 hown7 hgrow7 _)
    go_roundw
    case rel =>
     have htk:=Htk.out;rw [if_pos hlt] at htk;refine ⟨k+1,by go_num,hkm,hid ⟨us++[_],by rw [htk,List.length_append,List.length_append,Hul.out];rfl,by rw [List.length_append];exact hown7,fun i x hx W hW=>?_⟩,hid ((HE2.out.alloc _).grown hgrow7 fun q hq=>(World.ownsRow.lt hqo q hq).1)⟩;rw [htk];rcases Nat.lt_or_ge i us.length with g | g
     ·rw [List.getElem?_append_left g] at hx;have:=Hur.out i x hx W hW;rwa [show (zjf (f.take k) cols++[r.drop cols]).getD i []=(zjf (f.take k) cols).getD i [] by rw [List.getD_eq_getElem?_getD,List.getD_eq_getElem?_getD,List.getElem?_append_left (by rw [← Hul.out];exact g)]]
     ·rw [List.getElem?_append_right g] at hx;have hl:=(List.getElem?_eq_some_iff.1 hx).1;simp only [List.length_singleton] at hl;have hi:i=us.length:=(by omega);subst hi;rw [Nat.sub_self] at hx;obtain rfl:=Option.some.inj hx;rw [show (zjf (f.take k) cols++[r.drop cols]).getD us.length []=r.drop cols by rw [List.getD_eq_getElem?_getD,Hul.out,List.getElem?_append_right (Nat.le_refl _),Nat.sub_self];rfl];exact Hsn.out W hW
    case measure=>simp [zal];omega
   ·have hc1:¬ (cols:Int)≤(zje r:Int):=(by omega);have htk:=Htk.out;rw [if_neg hlt,List.append_nil] at htk;have Htk2:=hid htk;clear htk;go_wp2_with fail
    go_roundw
    case rel=>exact ⟨k+1,by go_num,hkm,hid ⟨us,by rw [Htk2.out];exact Hul.out,hx2'.out.own Huo.out,by rw [Htk2.out];exact Hur.out⟩,HE2⟩
    case measure=>simp [zal];omega
  ·have hkk:¬ (k:Int)<(m:Int):=(by omega);have hft:f.take k=f:=List.take_of_length_le (by rw [Hm.out];omega);have hul:=Hul.out;have hur:=Hur.out;rw [hft] at hul hur;have Hul2:=hid hul;have Hur2:=hid hur;clear hft hul hur;go_wp2
   go_ret
   exact ⟨_,rfl,⟨us,Hul2.out,zan Huo.out,fun i u hu=>Hur2.out i u hu _ HE.out⟩,HE.out⟩
theorem zny (a b:List Int):zf3 (a++b)=zf3 a++zf3 b:=by unfold zf3;rw [List.map_append]
theorem Ext.mat {w w':World}(h:Ext w w'){v:Value}{l:List (List Int)}(hm:Mat w v l):Mat w' v l:=by
 obtain ⟨vs,h1,h2,h3⟩:=hm;exact ⟨vs,h1,h.sl h2,fun i u hu=>h.sl (h3 i u hu)⟩
theorem Gd.place {α:Type}{enc:α→List Value}{T TS s:Nat}{w V:World}{B gs cap:Nat}{ls:List (GR α)}(h:Gd enc T TS s w B gs cap ls)(hT:T ≠ TS){i:Nat}{e e':GR α}(he:ls[i]?=some e)(hd:w.grownBy V (some e.g))(hr:V.ownsRow B T s e'.u e'.x.length (e'.x.flatMap enc))(hg:e'.g=e.g∨w.heap.size≤e'.g) :
  Gd enc T TS s (V.setCell ⟨gs,i,none⟩ e'.u) B gs cap (ls.set i e')∧w.grownBy V (some e.g)∧V.grownBy (V.setCell ⟨gs,i,none⟩ e'.u) (some gs):=by
 have n1:=h.gs_ne hT (List.mem_of_getElem? he);have ho:=World.ownsRow.kept h.own hd (.inr fun q=>n1 (Option.some.inj q));have hst:=World.ownsRow.stored ho i e'.u;have hgs:gs ≠ e'.g:=by
  rcases zc5 hr ho hT with g | g
  ·cases g
  ·exact fun q=>g (by rw [q];rfl)
 have hat:∀ j f,(ls.set i e')[j]?=some f→(j=i∧f=e')∨(j ≠ i∧ls[j]?=some f):=fun j f hf=>by
  rw [List.getElem?_set] at hf;by_cases g:i=j
  ·rw [if_pos g] at hf;split at hf
   ·exact .inl ⟨g.symm,(Option.some.inj hf).symm⟩
   ·cases hf
  ·rw [if_neg g] at hf;exact .inr ⟨fun q=>g q.symm,hf⟩
 refine ⟨⟨?_,fun f hf=>?_,fun p q f k hf hk hne=>?_⟩,hd,hst.2⟩
 ·rw [List.length_set,List.map_set];exact hst.1
 ·obtain ⟨j,hj⟩:=List.mem_iff_getElem?.1 hf;rcases hat j f hj with ⟨_,rfl⟩ | ⟨hne,h1⟩
  ·exact World.ownsRow.kept hr hst.2 (.inr fun q=>hgs (Option.some.inj q).symm)
  ·have h2:=World.ownsRow.kept (h.rows f (List.mem_of_getElem? h1)) hd (.inr fun q=>h.apart j i f e h1 he hne (Option.some.inj q));exact World.ownsRow.kept h2 hst.2 (.inr fun q=>h.gs_ne hT (List.mem_of_getElem? h1) (Option.some.inj q).symm)
 ·have key:∀ j f,ls[j]?=some f→j ≠ i→f.g ≠ e'.g:=fun j f hj hji=>by
   rcases hg with g | g
   ·rw [g];exact h.apart j i f e hj he hji
   ·have:=(h.rowB (List.mem_of_getElem? hj)).2;omega
  rcases hat p f hf with ⟨h1,rfl⟩ | ⟨h1,h2⟩ <;> rcases hat q k hk with ⟨h3,rfl⟩ | ⟨h3,h4⟩
  ·omega
  ·exact (key q k h4 h3).symm
  ·exact key p f h2 h1
  ·exact h.apart p q f k h2 h4 hne
theorem Gd.far {α:Type}{enc:α→List Value}{T TS s:Nat}{w V:World}{B gs cap:Nat}{ls:List (GR α)}(h:Gd enc T TS s w B gs cap ls)(hT:T ≠ TS){i:Nat}{e:GR α}(he:ls[i]?=some e){b:Nat}(hb:e.g=b)(hd:w.grownBy V (some b)) :
  V.cell? ⟨gs,i,none⟩=some e.u∧V.frozen? ⟨gs,i,none⟩=false:=by
 subst hb;have ho:=World.ownsRow.kept h.own hd (.inr fun q=>h.gs_ne hT (List.mem_of_getElem? he) (Option.some.inj q));have:=World.ownsRow.cellAt ho i (by rw [Nat.mul_one];exact (List.getElem?_eq_some_iff.1 he).1);rw [List.getElem?_map,he] at this;exact ⟨this,World.ownsRow.frozenAt ho i⟩
theorem GdM.kept {α:Type}{enc:α→List Value}{T TS s:Nat}{w V:World}{B b:Nat}{v:Value}{ls:List (GR α)}(h:GdM enc T TS s w B v ls)(hd:w.grownBy V (some b))(hb:b<B):GdM enc T TS s V B v ls:=by
 have key:∀ {E n' s':Nat}{u:Value}{xs:List Value},w.ownsRow B E s' u n' xs→V.ownsRow B E s' u n' xs:=fun {E n' s' u xs} ho=>by
  refine World.ownsRow.kept ho hd ?_;rcases ho.2 with ⟨rfl,_⟩ | ⟨g,cap,cur,rfl,_⟩
  ·exact .inl rfl
  ·have:=(World.ownsRow.lt ho g rfl).1;exact .inr fun q=>by
    have:g=b:=Option.some.inj q;omega
 exact ⟨key h.own,fun e he=>key (h.rows e he),h.apart⟩
def znz (m u:List (List Int))(i:Nat):List (List Int):=m.mapIdx fun j r=>if j<i then r++u.getD j [] else r
theorem zn0 (m u:List (List Int)):znz m u 0=m:=by
 unfold znz;apply List.ext_getElem?;intro i;rw [List.getElem?_mapIdx]
 cases m[i]? <;> rfl
theorem zn1 {m u:List (List Int)}{i:Nat}{r:List Int}(hr:m[i]?=some r):(znz m u i).set i (r++u.getD i [])=znz m u (i+1):=by
 have hi:=(List.getElem?_eq_some_iff.1 hr).1;apply List.ext_getElem?;intro j;unfold znz;rw [List.getElem?_set,List.length_mapIdx,List.getElem?_mapIdx,List.getElem?_mapIdx];by_cases e:i=j
 ·subst e;rw [if_pos rfl,if_pos hi,hr];simp
 ·rw [if_neg e]
  cases m[j]? with
  | none=>rfl
  | some q=>simp only [Option.map_some];congr 1;by_cases g:j<i <;> simp [g] <;> omega
theorem zn2 {m u:List (List Int)}(h:m.length=u.length):znz m u m.length=List.zipWith (fun r s=>r++s) m u:=by
 apply List.ext_getElem?;intro j;unfold znz;rw [List.getElem?_mapIdx,List.getElem?_zipWith];by_cases hj:j<m.length
 ·rw [List.getElem?_eq_getElem hj,List.getElem?_eq_getElem (by omega)];simp only [Option.map_some];rw [if_pos hj,List.getD_eq_getElem?_getD,List.getElem?_eq_getElem (by omega)];rfl
 ·rw [List.getElem?_eq_none (by omega)];simp
theorem Gd.capB {α:Type}{enc:α→List Value}{T TS s:Nat}{w:World}{B gs cap:Nat}{ls:List (GR α)}(h:Gd enc T TS s w B gs cap ls):ls.length≤cap∧cap≤maxLen:=by
 rcases h.own.2 with ⟨h0,_⟩ | ⟨g,c,cur,h0,_,_,h1,h2,_,_⟩
 ·cases h0
 ·simp only [Value.slice.injEq,Option.some.injEq,Addr.mk.injEq,and_true,true_and] at h0;rw [h0.2];exact ⟨h1,h2⟩
theorem GZ.mats {W0 w:World}{B gs cap:Nat}{g:List (List Int)}(h:GZ W0 B gs cap g w){t:Nat}(ht:t≤g.length):zno w (.slice (some ⟨gs,0,none⟩) t cap) (g.take t):=by
 obtain ⟨ls,hd,rfl,hB,hx⟩:=h;rw [List.length_map] at ht;have hc:=hd.capB;have hl:((ls.take t).map GR.u).length=t:=by rw [List.length_map,List.length_take];omega
 refine ⟨(ls.take t).map GR.u,by rw [hl,List.length_take,List.length_map];omega,.inr ⟨gs,0,cap,by rw [hl],by rw [hl];omega,hc.2,fun i u hu=>?_⟩,fun i u hu=>?_⟩
 ·rw [List.getElem?_map] at hu
  cases he:(ls.take t)[i]? with
  | none=>rw [he] at hu;cases hu
  | some e =>
   rw [he] at hu
   obtain rfl:=Option.some.inj hu
   have hi:i<t:=by
    have:=(List.getElem?_eq_some_iff.1 he).1;rw [List.length_take] at this;omega
   rw [List.getElem?_take_of_lt hi] at he
   rw [Nat.zero_add]
   exact hd.at he
 ·rw [List.getElem?_map] at hu
  cases he:(ls.take t)[i]? with
  | none=>rw [he] at hu;cases hu
  | some e =>
   rw [he] at hu
   obtain rfl:=Option.some.inj hu
   rw [← List.map_take,List.getD_eq_getElem?_getD,List.getElem?_map,he]
   have:=zan (hd.rows e (List.mem_of_mem_take (List.mem_of_getElem? he)))
   rw [zmp] at this
   exact this
theorem zn3 (vm:Value)(m gF:List (List Int))(n k tF:Nat)(w:World)(he:Env w)(hm:Mat w vm m)(hk:m.length=k)(hrec:∀ r∈m,r.length=n)(hn0:0<n)(hn:n+k≤1000)(hk0:0<k)(hb:∀ r∈m,∀ z∈r,-9223372036854775808≤z∧z≤9223372036854775807)(hrun:zja 100 (List.zipWith (fun r u=>r++u) m (zjc k)) 0 0 (n+k)=some (gF,tF)) :
  Calls Tryz.prog 77 #[vm] w fun e w'=>∃ v,e=.returned (.tuple #[v,.int .i64 n])∧zno w' v (gF.take tF)∧(∀ r∈gF.take tF,r.length=n+k)∧tF≤k∧Ext w w':=by
 obtain ⟨i0,hi,hz0,hz1,hz2⟩:=info_parts zf5;have hbig:=fun W (hE:Ext w W)=>zmZ vm m n W (he.ext hE) (hE.mat hm) hrec hn0 (by omega) (by omega) hb;have hun:=fun W=>zne k W hk0 (by omega);obtain ⟨vs,hvl,hvs,hrows⟩:=hm;obtain ⟨am,cm,rfl,_,_,hc⟩:=hvs.parts;obtain ⟨r0,hr0⟩:∃ r,m[0]?=some r:=⟨_,List.getElem?_eq_getElem (by omega)⟩;obtain ⟨u0,hu0⟩:∃ u,vs[0]?=some u:=⟨_,List.getElem?_eq_getElem (by omega)⟩;obtain ⟨b,off,rfl,hcu⟩:=hc 0 u0 hu0;have hru:=hrows 0 u0 hu0;rw [List.getD_eq_getElem?_getD,hr0] at hru;simp only [Option.getD_some] at hru;obtain ⟨ar,cr,rfl,_,_,_⟩:=hru.parts;have hr0l:=hrec r0 (List.mem_of_getElem? hr0);rw [show (zap r0).length=n by unfold zap;rw [List.length_map];exact hr0l,Nat.add_zero] at hcu;rw [hvl,hk];rw [hvl,hk] at hbig;have Hbig:=hid hbig;have Hun:=hid hun;have He:=hid he;have Hk:=hid hk;have Hrec:=hid hrec;have Hrun:=hid hrun;clear hbig hun he hk hrec hrun hvl hvs hrows hc hr0 hu0 hru hr0l hb;have hkz:((k:Int) == 0)=false:=beq_eq_false_iff_ne.2 (by omega);have hk1:(0:Int)<(k:Int):=by omega
 go_enter Tryz.func77,Tryz.ntmps77
 go_wp2_with fail
 refine (Hbig.out w (Ext.refl w)).mono ?_;rintro e w1 ⟨v1,rfl,lg,hg1,hmx,hx1⟩;have Hg1:=hid hg1;have Hmx:=hid hmx;have Hx1:=hid hx1;clear hg1 hmx hx1 hcu;go_wp2_with fail
 refine (Hun.out w1).mono ?_;rintro e w2 ⟨v2,rfl,lu,hg2,hux,hx2⟩;have hlg:lg.length=k:=by have:=congrArg List.length Hmx.out;rw [List.length_map,Hk.out] at this;exact this
 have hlu:lu.length=k:=by have:=congrArg List.length hux;rw [List.length_map] at this;rw [this];unfold zjc;simp
 obtain ⟨gs,cg,e1,hG⟩:=(Hg1.out.ext hx2).gd (by omega);obtain ⟨us,cu,e2,_⟩:=hg2.gd (by omega);subst e1 e2;rw [hlg,hlu];have hgB:=hG.gsB;have hg1b:∀ e∈lg,e.g<w1.heap.size:=fun e he=>(World.ownsRow.lt (Hg1.out.rows e he) e.g rfl).2;have hgsb:gs<w1.heap.size:=(World.ownsRow.lt Hg1.out.own gs rfl).2;have Hlg:=hid hlg;have Hlu:=hid hlu;have HG:=hid hG;have Hg2:=hid hg2;have Hux:=hid hux;have Hx2:=hid (Hx1.out.trans hx2);have HgB:=hid hgB;have Hg1b:=hid hg1b;have Hgsb:=hid hgsb;clear hx2 hlg hlu hG hg2 hux hgB hg1b hgsb;go_wp2_with fail
 go_loopw [21] (fun v21 wr=>∃ i:Nat,v21=.int .i64 i∧i≤k∧Hid (∃ ls:List (GR Int),Gd zmn 100 129 1 wr w.heap.size gs cg ls∧ls.map GR.x=znz m (zjc k) i∧∀ j,i≤j→ls[j]?=lg[j]?)∧Hid (GdM zmn 100 129 1 wr w1.heap.size (.slice (some ⟨us,0,none⟩) k cu) lu)∧Hid (Ext w wr)) (fun v21 _=>k - (zal v21).toNat)
 case atStart=>exact ⟨0,rfl,Nat.zero_le _,hid ⟨lg,HG.out,by rw [zn0];exact Hmx.out,fun _ _=>rfl⟩,by rw [← Hlu.out];exact Hg2,Hx2⟩
 case round =>
  obtain ⟨i,rfl,hik,HL,HU,HE⟩:=hrel;obtain ⟨ls,hgd,hlx,hlt⟩:=HL.out;have hll:ls.length=k:=by
   have:=congrArg List.length hlx;unfold znz at this;rw [List.length_map,List.length_mapIdx,Hk.out] at this;exact this
  by_cases hil:i<k
  ·obtain ⟨e,hei⟩:∃ e,ls[i]?=some e:=⟨_,List.getElem?_eq_getElem (by omega)⟩;obtain ⟨f,hfi⟩:∃ f,lu[i]?=some f:=⟨_,List.getElem?_eq_getElem (by rw [Hlu.out];exact hil)⟩;have heg:lg[i]?=some e:=(by rw [← hlt i (Nat.le_refl _)];exact hei);have hem:m[i]?=some e.x:=(by rw [← Hmx.out,List.getElem?_map,heg];rfl);have hel:e.x.length=n:=Hrec.out e.x (List.mem_of_getElem? hem);have hfu:(zjc k)[i]?=some f.x:=(by rw [← Hux.out,List.getElem?_map,hfi];rfl);have hfl:f.x.length=k:=by
    unfold zjc at hfu;rw [List.getElem?_map,List.getElem?_range hil] at hfu;have:=Option.some.inj hfu;rw [← this,List.length_set,List.length_replicate]
   have heb:=Hg1b.out e (List.mem_of_getElem? heg);have hgd':=hgd.ext ((Ext.refl wr).drew);have hu':=HU.out.ext ((Ext.refl wr).drew);have ho1:=hgd'.rows e (List.mem_of_getElem? hei);have ho2:=hu'.rows f (List.mem_of_getElem? hfi);have ha1:=hgd'.at hei;obtain ⟨us',cu',eu',hGu⟩:=hu'.gd (by rw [Hlu.out];omega);have ha2:=hGu.at hfi;have eus:us=us':=by simpa using (congrArg (fun z=>match z with | Value.slice (some a) _ _=>a.block | _=>0) eu')
   subst eus;unfold GR.u at ha1 ha2 ho1 ho2;rw [zmp] at ho1 ho2;rw [hel] at ha1 ho1;rw [hfl] at ha2 ho2;have hnw:=fun j u (hj:(zf3 f.x)[j]?=some u)=>show wr.drew.cell? ((⟨f.g,0,none⟩:Addr).add j)=some u from by
    rw [show (⟨f.g,0,none⟩:Addr).add j=⟨f.g,j,none⟩ by unfold Addr.add;split <;> simp_all]
    exact zlq ho2 hj
   have hone:∀ u∈zf3 f.x,u.oneCell'=true:=fun u hu=>by
    unfold zf3 at hu;obtain ⟨z,_,rfl⟩:=List.mem_map.1 hu;rfl
   have hnl:(zf3 f.x).length=k * 1:=(by rw [zf4,hfl,Nat.mul_one]);have hb3:n+k≤maxLen:=(by unfold maxLen;omega);have hb4:(n+k) * 16≤140737488355328:=(by omega);have hbs:w.heap.size≤wr.drew.heap.size:=HE.out.drew.size;have hi1:(0:Int)≤(i:Int):=(by omega);have hi2:(i:Int)<(k:Int):=(by omega);have Hgd:=hid hgd';have Hlx:=hid hlx;have Hlt:=hid hlt;have Hei:=hid hei;have Hem:=hid hem;have Hel:=hid hel;have Hfu:=hid hfu;have Hfl:=hid hfl;have Heb:=hid heb;have HU':=hid hu';have Ho1:=hid ho1;have Hnw:=hid hnw;have Hone:=hid hone;have Hnl:=hid hnl;have HEd:=hid HE.out.drew;clear hgd hgd' hlx hlt hei hem hel hfu hfl heb hu' ho1 ho2 hnw hone hnl HL HU hll hfi heg eu' hGu;generalize hge:e.g=eg at *;generalize hce:e.c=ec at *;generalize hgf:f.g=fg at *;generalize hcf:f.c=fc at *;have Hge:=hid hge;have Hce:=hid hce;clear hge hce hgf hcf;go_wp2_with fail
   go_region_law (first
    | (refine step_append_lies _ rfl (.tmp 29) (.tmp 33) 129 rfl w.heap.size 100 i0 (.string ByteArray.empty) 1 16 Tryz.underlying129 hi hz0 hz1 hz2 rfl (by decide) (.slice (some ⟨eg,0,none⟩) n ec) n (zf3 e.x) (by simp [Act.eval]) Ho1.out ⟨fg,0,none⟩ k fc (zf3 f.x) (by simp [Act.eval]) Hnl.out Hnw.out Hone.out (by omega) hb3 hb4 hbs _ rfl ?_;intro g1 c1 V1 hown1 hgrow1 hat1 hlt1;obtain ⟨hcz,hfz⟩:=Hgd.out.far zm3 Hei.out Hge.out hgrow1;have Hown1:=hid hown1;have Hgrow1:=hid hgrow1;have Hat1:=hid hat1;clear hown1 hgrow1 hat1 hlt1))
   all_goals
    obtain ⟨h1,h2,h3⟩:=Hgd.out.place zm3 Hei.out (e':=⟨g1,c1,e.x++f.x⟩) (by rw [Hge.out];exact Hgrow1.out) (by
     show V1.ownsRow w.heap.size 100 1 (.slice (some ⟨g1,0,none⟩) (e.x++f.x).length c1) (e.x++f.x).length ((e.x++f.x).flatMap zmn);rw [zmp,zny,List.length_append,Hel.out,Hfl.out];exact Hown1.out) (by
     rcases Hat1.out with g | g
     ·exact .inl (by rw [Hge.out];exact (Option.some.inj g).symm)
     ·exact .inr (by show wr.drew.heap.size≤g1;rw [g];exact Nat.le_refl _))
    rw [Hge.out] at h2;have hu2:=(HU'.out.kept h2 Heb.out).kept h3 Hgsb.out;have hex:=zmm h3 (zmm h2 HEd.out (by rw [← Hge.out];exact (Hgd.out.rowB (List.mem_of_getElem? Hei.out)).1)) Hgd.out.gsB.1;have hmap:(ls.set i ⟨g1,c1,e.x++f.x⟩).map GR.x=znz m (zjc k) (i+1):=by
     rw [List.map_set,Hlx.out,← zn1 Hem.out,List.getD_eq_getElem?_getD,Hfu.out];rfl
    have hltt:∀ j,i+1≤j→(ls.set i (⟨g1,c1,e.x++f.x⟩:GR Int))[j]?=lg[j]?:=fun j hj=>by
     rw [List.getElem?_set_ne (by omega)];exact Hlt.out j (by omega)
    have hue:(GR.mk g1 c1 (e.x++f.x)).u=.slice (some ⟨g1,0,none⟩) (n+k) c1:=by
     unfold GR.u;simp only [List.length_append,Hel.out,Hfl.out]
    rw [hue] at h1 hu2 hex;have H1:=hid h1;have Hu2:=hid hu2;have Hex:=hid hex;have Hmap:=hid hmap;have Hltt:=hid hltt;clear h1 h2 h3 hu2 hex hmap hltt hcz hfz hue;generalize V1.setCell ⟨gs,i,none⟩ (.slice (some ⟨g1,0,none⟩) (n+k) c1)=V3 at *;go_wp2_with fail
    go_roundw
    case rel=>exact ⟨i+1,by go_num,hil,hid ⟨_,H1.out,Hmap.out,Hltt.out⟩,Hu2,Hex⟩
    case measure=>simp [zal];omega
  ·have hie:i=k:=(by omega);subst hie;have hcap:=hgd.capB.1;rw [hll] at hcap;rw [← Hk.out,zn2 (by rw [Hk.out];unfold zjc;simp)] at hlx;have hgz:GZ w w.heap.size gs cg (List.zipWith (fun r u=>r++u) m (zjc i)) wr:=⟨ls,hgd,by rw [← Hk.out];exact hlx,Nat.le_refl _,HE.out⟩;have hzl:(List.zipWith (fun r u=>r++u) m (zjc i)).length=i:=(by rw [List.length_zipWith,Hk.out];unfold zjc;simp);have hzr:zmE (List.zipWith (fun r u=>r++u) m (zjc i)) (n+i):=fun r hr=>by
    obtain ⟨j,hj⟩:=List.mem_iff_getElem?.1 hr;rw [List.getElem?_zipWith] at hj
    cases h1:m[j]? with
    | none=>rw [h1] at hj;cases hj
    | some a =>
     cases h2:(zjc i)[j]? with
     | none=>rw [h1,h2] at hj;cases hj
     | some b =>
      rw [h1,h2] at hj
      obtain rfl:=Option.some.inj hj
      have hb:=List.mem_of_getElem? h2
      unfold zjc at hb
      obtain ⟨c,_,rfl⟩:=List.mem_map.1 hb
      rw [List.length_append,Hrec.out a (List.mem_of_getElem? h1),List.length_set,List.length_replicate]
   have hh:=zmV w wr w.heap.size gs cg i (n+i) (n+i) _ gF tF He.out hgz hzl hzr hn (by omega) (Nat.le_refl _) hcap Hrun.out;have Hh:=hid hh;have hsum:IntKind.i64.wrap ((n:Int)+(i:Int))=((n+i:Nat):Int):=(by rw [IntKind.wrap_i64];omega);clear hh hgd hlx hlt hll hgz hzl hzr hcap HL HU Hrun;go_wp2_with fail
   refine Hh.out.mono ?_;rintro e w5 ⟨rfl,hgz,ht,hgl,hrz⟩;have Hgz:=hid hgz;have Hgl:=hid hgl;have Hrz:=hid hrz;clear hgz hgl hrz;go_wp2
   go_ret2
   exact ⟨_,rfl,Hgz.out.mats (by rw [Hgl.out];exact ht),fun r hr=>Hrz.out r (List.mem_of_mem_take hr),ht,Hgz.out.x⟩
end Go.Proofs.YtipkdebkdnbieaaGreatDoor
