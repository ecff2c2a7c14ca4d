/- Walks: smith's take and turn: a row less a multiple of another one, a row's negative, in place. A grid of smith's in memory: its rows' cells; take, turn and the exchange of rows in it. Walk: smith's finish: a pivot made positive, the rows above it reduced. -/
import Derived.Test.YtipkdebkdnbieaaGreatDoorPa21
import Derived.Test.YtipkdebkdnbieaaGreatDoorPa19
import Derived.Test.YtipkdebkdnbieaaGreatDoorPa06
import Derived.Deep.RegionLaw
import Derived.Deep.RegionHeld3
import Derived.Deep.DeepCutAuto
set_option maxRecDepth 100000
set_option maxHeartbeats 4000000
namespace Go.Proofs.YtipkdebkdnbieaaGreatDoor
open Go.RowKit Go.Lib Go.Shelf
theorem zmq {l:List Int}{j:Nat}(h:j<l.length):(zf3 l)[j]?=some (.string (I (zas l j))):=by
 unfold zf3 zas;rw [List.getElem?_map,List.getD_eq_getElem?_getD,List.getElem?_eq_getElem h];rfl
theorem zmr (g n N ca:Nat)(vb:Value)(k:Int)(a b:List Int)(w0 w:World)(B:Nat)(he:Env w0)(h0:Ext w0 w)(hB:w0.heap.size≤B)(ha:a.length=n)(hb:b.length=N)(hnN:n≤N)(hN:N≤1000)
  (hown:w.ownsRow B 100 1 (.slice (some ⟨g,0,none⟩) n ca) n (zf3 a)) (hvb:∀ W,w.grownBy W (some g)→Sl W vb (zf3 b))
  (fk:Fit k) (fa:∀ z∈a,Fit z) (fb:∀ z∈b,Fit z) (fm:∀ z∈b,Fit (k * z)) :
  Calls Tryz.prog 116 #[.slice (some ⟨g,0,none⟩) n ca,vb,.string (I k)] w fun e w'=>e=.returned (.tuple #[])∧w'.ownsRow B 100 1 (.slice (some ⟨g,0,none⟩) n ca) n (zf3 (ziU a b k))∧w.grownBy w' (some g):=by
 have hg0:w.grownBy w (some g):=⟨rfl,rfl,rfl,Nat.le_refl _,fun _ _ _=>rfl⟩;obtain ⟨ab,cb,rfl,_,_,_⟩:=(hvb w hg0).parts;have hbl:(zf3 b).length=N:=by rw [zf4,hb]
 rw [hbl] at hvb ⊢;clear hbl;have hb2:(b.take n).length=n:=by rw [List.length_take];omega
 have htk:ziU a b k=List.zipWith (fun x y=>x - k * y) a (b.take n):=by
  unfold ziU;apply List.ext_getElem?;intro i;rw [List.getElem?_zipWith,List.getElem?_zipWith,List.getElem?_take];by_cases h:i<n
  ·rw [if_pos h]
  ·rw [if_neg h,List.getElem?_eq_none (by omega)]
 have hgB:w0.heap.size≤g:=Nat.le_trans hB (World.ownsRow.lt hown g rfl).1;have hEx:∀ W,w.grownBy W (some g)→Ext w0 W:=fun W h=>h0.grown h (fun q hq=>by cases hq;exact hgB);have hrd:∀ W,w.grownBy W (some g)→∀ j,j<n→∃ b2 o2,ab=some ⟨b2,o2,none⟩∧W.cell? ⟨b2,o2+j,none⟩=some (.string (I (zas (b.take n) j))):=fun W hW j hj=>by
  obtain ⟨ab',cb',e,_,_,hc⟩:=(hvb W hW).parts;injection e with e1 e3 e4;subst e1;obtain ⟨b2,o2,e5,h5⟩:=hc j _ (zmq (by rw [hb];omega));refine ⟨b2,o2,e5,?_⟩;rw [h5];unfold zas;rw [List.getD_eq_getElem?_getD,List.getD_eq_getElem?_getD,List.getElem?_take,if_pos hj]
 have hfb:∀ z∈b.take n,Fit z:=fun z hz=>fb z (List.mem_of_mem_take hz);have hfm:∀ z∈b.take n,Fit (k * z):=fun z hz=>fm z (List.mem_of_mem_take hz);rw [htk];have hzk:=zb3 k;have hn:n≤1000:=by omega
 have hle:(n:Int)≤(N:Int):=by omega
 generalize b.take n=c at *;have He:=hid he;have Hrd:=hid hrd;have HEx:=hid hEx;have Fk:=hid fk;have Fa:=hid fa;have Fb:=hid hfb;have Fm:=hid hfm;have Ha:=hid ha;have Hb:=hid hb2;have Hg0:=hid hg0;have Hown0:Hid (w.ownsRow B 100 1 (.slice (some ⟨g,0,none⟩) n ca) n (zf3 (zlk k a c 0))):=hid (by rw [zll];exact hown);clear he h0 hB hown hvb fk fa fb fm hgB hEx ha hb hg0 hrd hfb hfm hb2 htk;by_cases hk0:k=0
 ·have hq1:((I k).toList == [48])=true:=by rw [hzk,decide_eq_true hk0]
  have hz:List.zipWith (fun x y=>x - k * y) a c=a:=by
   subst hk0;apply List.ext_getElem
   ·rw [List.length_zipWith,Ha.out,Hb.out];omega
   ·intro i h1 h2;simp
  have Hz:=hid hz;clear hzk hk0 hz;go_enter Tryz.func116,Tryz.ntmps116
  go_wp2
  (try simp only [Exit.inBlock,Exit.then]);refine bodyPost_ret (results_none rfl _ _ _) rfl ?_;refine ⟨rfl,?_,Hg0.out⟩;rw [Hz.out];have:=Hown0.out;rwa [zll] at this
 ·have hq1:((I k).toList == [48])=false:=by rw [hzk,decide_eq_false hk0]
  clear hzk hk0;go_enter Tryz.func116,Tryz.ntmps116
  go_wp2_with fail
  go_loopw [11] (fun v9 wr=>∃ j:Nat,v9=.int .i64 j∧j≤n∧wr.ownsRow B 100 1 (.slice (some ⟨g,0,none⟩) n ca) n (zf3 (zlk k a c j))∧w.grownBy wr (some g)) (fun v9 _=>n - (zal v9).toNat)
  case atStart=>exact ⟨0,rfl,Nat.zero_le _,Hown0.out,Hg0.out⟩
  case round =>
   obtain ⟨j,rfl,hj,hown,hg⟩:=hrel;have Hown:=hid hown;have Hg:=hid hg;clear hown hg;by_cases hjn:j<n
   ·obtain ⟨b2,o2,rfl,hcb⟩:=Hrd.out wr Hg.out j hjn;have hca:=zlq Hown.out (j:=j) (u:=.string (I (zas a j))) (by unfold zf3;rw [List.getElem?_map,zlo Ha.out Hb.out hjn];rfl);have hya:=Fa.out (zas a j) (zc8 (by rw [Ha.out];exact hjn));have hyb:=Fb.out (zas c j) (zc8 (by rw [Hb.out];exact hjn));have hym:=Fm.out (zas c j) (zc8 (by rw [Hb.out];exact hjn));have hset:=zln (k:=k) Ha.out Hb.out hjn;have Hset:=hid hset;clear hset;generalize zas c j=y at *;generalize zas a j=x at *;have hj0:(0:Int)≤(j:Int):=(by omega);have hj1:(j:Int)<(n:Int):=(by omega);have hj2:(j:Int)<(N:Int):=(by omega);have hEd:Ext w0 wr.drew:=(HEx.out wr Hg.out).drew;have hca2:wr.drew.cell? ⟨g,j,none⟩=some (.string (I x)):=hca;have hod:wr.drew.ownsRow B 100 1 (.slice (some ⟨g,0,none⟩) n ca) n (zf3 (zlk k a c j)):=Hown.out;have hgd:w.grownBy wr.drew (some g):=⟨Hg.out.os,Hg.out.tape,Hg.out.output,Hg.out.size,Hg.out.block⟩;have hmu:=zca k y wr.drew (He.out.ext hEd) Fk.out hyb;have hsu:=fun W (h:Ext w0 W)=>zdC x (k * y) W (He.out.ext h) hya hym;have Hmu:=hid hmu;have Hsu:=hid hsu;have HEd:=hid hEd;have Hod:=hid hod;have Hgd:=hid hgd;have Hca2:=hid hca2;clear hmu hsu hEd hod hgd hya hyb hym;go_wp2_with fail
    go_region_law (first
     | (go_simp;go_at_call 165;refine Hmu.out.mono ?_;rintro e V1 ⟨rfl,hx1⟩;have hcV:=hx1.cell Hca2.out;have HcV:=hid hcV;have HE1:=hid (HEd.out.trans hx1);have Ho1:=hid (hx1.own Hod.out);have Hg1:=hid (zcC Hgd.out hx1);clear hx1)
     | (go_simp;go_at_call 164;refine (Hsu.out V1 HE1.out).mono ?_;rintro e V2 ⟨rfl,hx2⟩;have hcV2:=hx2.cell HcV.out;have Ho2:=hid (hx2.own Ho1.out);have Hg2:=hid (zcC Hg1.out hx2);have hf2:=World.ownsRow.frozenAt Ho2.out j;clear hx2))
    all_goals
     have hst:=(World.ownsRow.stored Ho2.out j (.string (I (x - k * y)))).1;have hgs:=zcB Hg2.out (p:=⟨g,j,none⟩) rfl (.string (I (x - k * y)));rw [zlp,Hset.out] at hst;have Hst:=hid hst;have Hgs:=hid hgs;clear hst hgs;generalize V2.setCell ⟨g,j,none⟩ (.string (I (x - k * y)))=V3 at *;go_wp2_with fail
     go_roundw
     case rel=>exact ⟨j+1,by go_num,by omega,Hst.out,Hgs.out⟩
     case measure=>simp [zal];omega
   ·have hkk:¬ (j:Int)<(n:Int):=(by omega);have hjn2:j=n:=(by omega);have hfin:=Hown.out;rw [hjn2,zlm Ha.out Hb.out] at hfin;have Hfin:=hid hfin;clear hfin hjn2;go_wp2
    go_end0
    exact ⟨rfl,Hfin.out,Hg.out⟩
def zms (a:List Int)(off j:Nat):List Int:=a.mapIdx fun i z=>if off≤i∧i<off+j then -z else z
theorem zmt (a:List Int)(off:Nat):zms a off 0=a:=by
 unfold zms;apply List.ext_getElem?;intro i;rw [List.getElem?_mapIdx]
 cases a[i]? with
 | none=>rfl
 | some z=>simp only [Option.map_some];rw [if_neg (by omega)]
theorem zmu (a:List Int)(off j:Nat):(zms a off j).length=a.length:=by unfold zms;simp
theorem zmv {a:List Int}{off j:Nat}(h:off+j<a.length):(zms a off j)[off+j]?=some (zas a (off+j)):=by
 unfold zms zas;rw [List.getElem?_mapIdx,List.getD_eq_getElem?_getD,List.getElem?_eq_getElem h];simp only [Option.map_some,Option.getD_some];rw [if_neg (by omega)]
theorem zmw {a:List Int}{off j:Nat}(h:off+j<a.length):(zms a off j).set (off+j) (-zas a (off+j))=zms a off (j+1):=by
 apply List.ext_getElem?;intro i;rw [List.getElem?_set,zmu];unfold zms;rw [List.getElem?_mapIdx,List.getElem?_mapIdx];by_cases e:off+j=i
 ·subst e;rw [if_pos rfl,if_pos h];unfold zas;rw [List.getD_eq_getElem?_getD,List.getElem?_eq_getElem h];simp only [Option.map_some,Option.getD_some];rw [if_pos (by omega)]
 ·rw [if_neg e]
  cases a[i]? with
  | none=>rfl
  | some z =>
   simp only [Option.map_some]
   by_cases q:off≤i∧i<off+j
   ·rw [if_pos q,if_pos (by omega)]
   ·rw [if_neg q,if_neg (by omega)]
theorem zmx (a:List Int):zms a 0 a.length=ziV a:=by
 unfold zms ziV;apply List.ext_getElem?;intro i;rw [List.getElem?_mapIdx,List.getElem?_map];by_cases h:i<a.length
 ·rw [List.getElem?_eq_getElem h];simp only [Option.map_some];rw [if_pos (by omega)]
 ·rw [List.getElem?_eq_none (by omega)];rfl
theorem zmy {a:List Int}{off n:Nat}(h:off+n=a.length):(zms a off n).drop off=ziV (a.drop off):=by
 unfold zms ziV;apply List.ext_getElem?;intro i;rw [List.getElem?_drop,List.getElem?_mapIdx,List.getElem?_map,List.getElem?_drop];by_cases g:off+i<a.length
 ·rw [List.getElem?_eq_getElem g];simp only [Option.map_some];rw [if_pos (by omega)]
 ·rw [List.getElem?_eq_none (by omega)];rfl
theorem zmz (g off n N ca c2:Nat)(a:List Int)(w:World)(B:Nat)(ha:a.length=N)(hoN:off+n=N)(hN:N≤1000)
  (hown:w.ownsRow B 100 1 (.slice (some ⟨g,0,none⟩) N ca) N (zf3 a)) (fa:∀ z∈a,Fit z) :
  Calls Tryz.prog 82 #[.slice (some ⟨g,off,none⟩) n c2] w fun e w'=>e=.returned (.tuple #[])∧w'.ownsRow B 100 1 (.slice (some ⟨g,0,none⟩) N ca) N (zf3 (zms a off n))∧w.grownBy w' (some g):=by
 have hg0:w.grownBy w (some g):=⟨rfl,rfl,rfl,Nat.le_refl _,fun _ _ _=>rfl⟩;have hn:n≤1000:=by omega
 have Fa:=hid fa;have Ha:=hid ha;have Hg0:=hid hg0;have HoN:=hid hoN;have Hown0:Hid (w.ownsRow B 100 1 (.slice (some ⟨g,0,none⟩) N ca) N (zf3 (zms a off 0))):=hid (by rw [zmt];exact hown);clear hown fa ha hg0 hoN;go_enter Tryz.func82,Tryz.ntmps82
 go_wp2_with fail
 go_loopw [5] (fun v9 wr=>∃ j:Nat,v9=.int .i64 j∧j≤n∧wr.ownsRow B 100 1 (.slice (some ⟨g,0,none⟩) N ca) N (zf3 (zms a off j))∧w.grownBy wr (some g)) (fun v9 _=>n - (zal v9).toNat)
 case atStart=>exact ⟨0,rfl,Nat.zero_le _,Hown0.out,Hg0.out⟩
 case round =>
  obtain ⟨j,rfl,hj,hown,hg⟩:=hrel;have Hown:=hid hown;have Hg:=hid hg;clear hown hg;by_cases hjn:j<n
  ·have hlt:off+j<a.length:=(by have:=HoN.out;have:=Ha.out;omega);have hca:=zlq Hown.out (j:=off+j) (u:=.string (I (zas a (off+j)))) (by unfold zf3;rw [List.getElem?_map,zmv hlt];rfl);have hya:=Fa.out (zas a (off+j)) (zc8 hlt);have Hset:=hid (zmw hlt);have hfz:=World.ownsRow.frozenAt Hown.out (off+j);generalize zas a (off+j)=x at *;have hj0:(0:Int)≤(j:Int):=(by omega);have hj1:(j:Int)<(n:Int):=(by omega);have hng:=fun W=>zd5 x W hya;have Hng:=hid hng;clear hng hya hlt;go_wp2_with fail
   all_goals
    first
     | (refine (Hng.out _).mono ?_
        rintro e V1 ⟨rfl,hx1⟩
        have hcV:=hx1.cell hca
        have Ho1:=hid (hx1.own Hown.out);have Hg1:=hid (zcC Hg.out hx1)
        have hf2:=World.ownsRow.frozenAt Ho1.out (off+j)
        clear hx1 hfz hca
        go_wp2_with fail)
     | skip
   all_goals
    have hst:=(World.ownsRow.stored Ho1.out (off+j) (.string (I (-x)))).1;have hgs:=zcB Hg1.out (p:=⟨g,off+j,none⟩) rfl (.string (I (-x)));rw [zlp,Hset.out] at hst;have Hst:=hid hst;have Hgs:=hid hgs;clear hst hgs;generalize V1.setCell ⟨g,off+j,none⟩ (.string (I (-x)))=V3 at *;go_roundw
    case rel=>exact ⟨j+1,by go_num,by omega,Hst.out,Hgs.out⟩
    case measure=>simp [zal];omega
  ·have hkk:¬ (j:Int)<(n:Int):=(by omega);have hjn2:j=n:=(by omega);have hfin:=Hown.out;rw [hjn2] at hfin;have Hfin:=hid hfin;clear hfin hjn2;go_wp2
   go_end0
   exact ⟨rfl,Hfin.out,Hg.out⟩
def GZ (W0:World)(B gs cap:Nat)(g:List (List Int))(w:World):Prop :=
 ∃ ls:List (GR Int),Gd zmn 100 129 1 w B gs cap ls∧ls.map GR.x=g∧W0.heap.size≤B∧Ext W0 w
theorem zm2 {V w w':World}{a1 a2 a3 a4:Addr}{u1 u2 u3 u4:Value}(h:Ext V w∧w.cell? a1=some u1∧w.cell? a2=some u2∧w.cell? a3=some u3∧w.cell? a4=some u4)(hx:Ext w w') :
  Ext V w'∧w'.cell? a1=some u1∧w'.cell? a2=some u2∧w'.cell? a3=some u3∧w'.cell? a4=some u4:=⟨h.1.trans hx,hx.cell h.2.1,hx.cell h.2.2.1,hx.cell h.2.2.2.1,hx.cell h.2.2.2.2⟩
theorem zm3 : 100 ≠ 129:=by decide
section
variable {W0 w : World} {B gs cap : Nat} {g : List (List Int)}
theorem GZ.ext {w':World}(h:GZ W0 B gs cap g w)(hx:Ext w w'):GZ W0 B gs cap g w':=by
 obtain ⟨ls,h1,h2,h3,h4⟩:=h;exact ⟨ls,h1.ext hx,h2,h3,h4.trans hx⟩
theorem GZ.x (h:GZ W0 B gs cap g w):Ext W0 w:=by
 obtain ⟨_,_,_,_,h4⟩:=h;exact h4
theorem zm4 {ls:List (GR Int)}{i:Nat}{r:List Int}(h:(ls.map GR.x)[i]?=some r):∃ e,ls[i]?=some e∧e.x=r:=by
 rw [List.getElem?_map] at h
 cases hl:ls[i]? with
 | none=>rw [hl] at h;cases h
 | some e=>rw [hl] at h;exact ⟨e,rfl,Option.some.inj h⟩
theorem GZ.row (h:GZ W0 B gs cap g w){i:Nat}{r:List Int}(hr:g[i]?=some r) :
  ∃ gi ci,w.cell? ⟨gs,i,none⟩=some (.slice (some ⟨gi,0,none⟩) r.length ci)∧(∀ c,c<r.length→w.cell? ⟨gi,c,none⟩=some (.string (I (zas r c))))∧w.ownsRow B 100 1 (.slice (some ⟨gi,0,none⟩) r.length ci) r.length (zf3 r)∧gs ≠ gi:=by
 obtain ⟨ls,hd,rfl,hB,hx⟩:=h;obtain ⟨e,he,rfl⟩:=zm4 hr;have ho:=hd.rows e (List.mem_of_getElem? he);rw [zmp] at ho;exact ⟨e.g,e.c,hd.at he,fun c hc=>zlq ho (zmq hc),ho,hd.gs_ne zm3 (List.mem_of_getElem? he)⟩
theorem GZ.frozen (h:GZ W0 B gs cap g w)(i:Nat):w.frozen? ⟨gs,i,none⟩=false:=by
 obtain ⟨ls,hd,_⟩:=h;exact World.ownsRow.frozenAt hd.own i
theorem GZ.take (he0:Env W0)(h:GZ W0 B gs cap g w){i t:Nat}{r s:List Int}(hr:g[i]?=some r)(hs:g[t]?=some s)(hne:i ≠ t)(hl:r.length≤s.length)(hl2:s.length≤1000) :
  ∃ gi ci gt ct,w.cell? ⟨gs,i,none⟩=some (.slice (some ⟨gi,0,none⟩) r.length ci)∧w.cell? ⟨gs,t,none⟩=some (.slice (some ⟨gt,0,none⟩) s.length ct) ∧
   ∀ (q:Int) W,Ext w W→Fit q→(∀ z∈r,Fit z)→(∀ z∈s,Fit z)→(∀ z∈s,Fit (q * z))→Calls Tryz.prog 116 #[.slice (some ⟨gi,0,none⟩) r.length ci,.slice (some ⟨gt,0,none⟩) s.length ct,.string (I q)] W fun e w'=>e=.returned (.tuple #[])∧GZ W0 B gs cap (g.set i (ziU r s q)) w':=by
 obtain ⟨ls,hd,rfl,hB,hx⟩:=h;obtain ⟨e,hE,rfl⟩:=zm4 hr;obtain ⟨f,hF,rfl⟩:=zm4 hs;refine ⟨e.g,e.c,f.g,f.c,hd.at hE,hd.at hF,fun q W hW fq fr fs fm=>?_⟩;have hdW:=hd.ext hW;have ho:=hdW.rows e (List.mem_of_getElem? hE);have ho2:=hdW.rows f (List.mem_of_getElem? hF);have hap:=hdW.apart i t e f hE hF hne;have hgB:=(hdW.rowB (List.mem_of_getElem? hE)).1;rw [zmp] at ho ho2;refine (zmr e.g e.x.length f.x.length e.c (.slice (some ⟨f.g,0,none⟩) f.x.length f.c) q e.x f.x W0 W B he0 (hx.trans hW) hB rfl rfl hl hl2 ho (fun W2 hg=>zan (World.ownsRow.kept ho2 hg (.inr fun z=>hap (Option.some.inj z).symm))) fq fr fs fm).mono ?_;rintro e' w' ⟨rfl,ho',hg'⟩;have hlen:(ziU e.x f.x q).length=e.x.length:=by unfold ziU;rw [List.length_zipWith];omega
 refine ⟨rfl,ls.set i { e with x:=ziU e.x f.x q },hdW.upd zm3 hE hg' hlen (by rw [zmp];exact ho'),by rw [List.map_set],hB,zmm hg' (hx.trans hW) (Nat.le_trans hB hgB)⟩
theorem GZ.turn (h:GZ W0 B gs cap g w){i:Nat}{r:List Int}(hr:g[i]?=some r)(hl2:r.length≤1000)(fr:∀ z∈r,Fit z) :
  ∃ gi ci,w.cell? ⟨gs,i,none⟩=some (.slice (some ⟨gi,0,none⟩) r.length ci) ∧
   ∀ W,Ext w W→Calls Tryz.prog 82 #[.slice (some ⟨gi,0,none⟩) r.length ci] W fun e w'=>e=.returned (.tuple #[])∧GZ W0 B gs cap (g.set i (ziV r)) w':=by
 obtain ⟨ls,hd,rfl,hB,hx⟩:=h;obtain ⟨e,hE,rfl⟩:=zm4 hr;refine ⟨e.g,e.c,hd.at hE,fun W hW=>?_⟩;have hdW:=hd.ext hW;have ho:=hdW.rows e (List.mem_of_getElem? hE);have hgB:=(hdW.rowB (List.mem_of_getElem? hE)).1;rw [zmp] at ho;refine (zmz e.g 0 e.x.length e.x.length e.c e.c e.x W B rfl (by omega) hl2 ho fr).mono ?_;rintro e' w' ⟨rfl,ho',hg'⟩;rw [zmx] at ho';have hlen:(ziV e.x).length=e.x.length:=by unfold ziV;rw [List.length_map]
 exact ⟨rfl,ls.set i { e with x:=ziV e.x },hdW.upd zm3 hE hg' hlen (by rw [zmp];exact ho'),by rw [List.map_set],hB,zmm hg' (hx.trans hW) (Nat.le_trans hB hgB)⟩
theorem GZ.swap (h:GZ W0 B gs cap g w){i j:Nat}{r s:List Int}(hr:g[i]?=some r)(hs:g[j]?=some s) :
  ∃ gi ci gj cj,w.cell? ⟨gs,i,none⟩=some (.slice (some ⟨gi,0,none⟩) r.length ci)∧w.cell? ⟨gs,j,none⟩=some (.slice (some ⟨gj,0,none⟩) s.length cj) ∧
   GZ W0 B gs cap (swp g i j) ((w.setCell ⟨gs,i,none⟩ (.slice (some ⟨gj,0,none⟩) s.length cj)).setCell ⟨gs,j,none⟩ (.slice (some ⟨gi,0,none⟩) r.length ci)):=by
 obtain ⟨ls,hd,rfl,hB,hx⟩:=h;obtain ⟨e,hE,rfl⟩:=zm4 hr;obtain ⟨f,hF,rfl⟩:=zm4 hs;obtain ⟨h1,h2⟩:=hd.swap zm3 hE hF;refine ⟨e.g,e.c,f.g,f.c,hd.at hE,hd.at hF,(ls.set i f).set j e,h1,?_,hB,zmm h2 hx (Nat.le_trans hB hd.gsB.1)⟩;rw [List.map_set,List.map_set];exact (ziF hr hs).symm
end
theorem zm5 (g:List (List Int))(t c lo n i:Nat):(ziX g t c lo n)[i]?=(g[i]?).map fun r=>if lo≤i∧i<n then ziU r (g.getD t []) (fdv (r.getD c 0) (at2 g t c)) else r:=by unfold ziX;rw [List.getElem?_mapIdx]
theorem zm6 (g:List (List Int))(t c lo n:Nat):(ziX g t c lo n).length=g.length:=by unfold ziX;simp
theorem zm7 (g:List (List Int))(t c lo:Nat):ziX g t c lo lo=g:=by
 apply List.ext_getElem?;intro i;rw [zm5]
 cases g[i]? with
 | none=>rfl
 | some r=>simp only [Option.map_some];rw [if_neg (by omega)]
theorem zm8 {g:List (List Int)}{t c lo n:Nat}{r:List Int}(hlo:lo≤n)(hr:g[n]?=some r):(ziX g t c lo n).set n (ziU r (g.getD t []) (fdv (r.getD c 0) (at2 g t c)))=ziX g t c lo (n+1):=by
 have hn:=(List.getElem?_eq_some_iff.1 hr).1;apply List.ext_getElem?;intro i;rw [List.getElem?_set,zm6,zm5,zm5];by_cases e:n=i
 ·subst e;rw [if_pos rfl,if_pos hn,hr];simp only [Option.map_some];rw [if_pos (by omega)]
 ·rw [if_neg e]
  cases g[i]? with
  | none=>rfl
  | some r=>simp only [Option.map_some];congr 1;by_cases q:lo≤i∧i<n <;> simp [q] <;> omega
theorem zm9 {g:List (List Int)}{t c lo n i:Nat}{r:List Int}(hr:g[i]?=some r)(h:¬ (lo≤i∧i<n)):(ziX g t c lo n)[i]?=some r:=by
 rw [zm5,hr];simp only [Option.map_some];rw [if_neg h]
theorem zmA {z:Int}(h:z.natAbs<ziK):Fit z:=Nat.le_trans (Dec.nDigits_le (k:=ziJ) (by unfold ziJ;omega) (by unfold ziK at h;exact h)) (by unfold ziJ;omega)
theorem zmB {g:List (List Int)}(h:okG g=true){i:Nat}{r:List Int}(hr:g[i]?=some r):∀ z∈r,z.natAbs<ziK:=fun z hz=>by
 unfold okG at h;rw [List.all_eq_true] at h;have h2:=h r (List.mem_of_getElem? hr);rw [List.all_eq_true] at h2;have h3:=h2 z hz;unfold okZ at h3;exact of_decide_eq_true h3
theorem zmC {a b:Int}(_hb:b ≠ 0):(fdv a b).natAbs≤a.natAbs:=by
 unfold fdv;split
 ·exact Int.natAbs_ediv_le_natAbs a b
 ·have:=Int.natAbs_ediv_le_natAbs (-a) (-b);rwa [Int.natAbs_neg a] at this
theorem zmD {b q:Int}(hq:q.natAbs<ziK)(hb:b.natAbs<ziK):Fit (q * b):=by
 refine Nat.le_trans (Dec.nDigits_le (k:=ziJ+ziJ) (by unfold ziJ;omega) ?_) (by unfold ziJ;omega);unfold ziK at hq hb;rw [Int.natAbs_mul,Nat.pow_add];exact Nat.mul_lt_mul'' hq hb
def zmE (g:List (List Int))(n:Nat):Prop:=∀ r∈g,r.length=n
theorem zmF {a b:List Int}(q:Int)(h:a.length≤b.length):(ziU a b q).length=a.length:=by unfold ziU;rw [List.length_zipWith];omega
theorem zmG (a:List Int):(ziV a).length=a.length:=by unfold ziV;rw [List.length_map]
theorem zmE.set {g:List (List Int)}{n i:Nat}{r:List Int}(h:zmE g n)(hr:r.length=n):zmE (g.set i r) n:=fun x hx=>by
 rcases List.mem_or_eq_of_mem_set hx with e | e
 ·exact h x e
 ·rw [e];exact hr
theorem zmE.sgn {g:List (List Int)}{n t c:Nat}(h:zmE g n)(ht:t<g.length):zmE (ziY g t c) n:=by
 unfold ziY;split
 ·refine h.set ?_;rw [zmG,List.getD_eq_getElem?_getD,List.getElem?_eq_getElem ht];exact h _ (List.getElem_mem ht)
 ·exact h
theorem zmE.pas {g:List (List Int)}{n t c lo k:Nat}(h:zmE g n)(ht:t<g.length):zmE (ziX g t c lo k) n:=fun x hx=>by
 obtain ⟨i,hi⟩:=List.mem_iff_getElem?.1 hx;rw [zm5] at hi
 cases hg:g[i]? with
 | none=>rw [hg] at hi;cases hi
 | some r =>
  rw [hg] at hi
  have hr:=h r (List.mem_of_getElem? hg)
  have hs:(g.getD t []).length=n:=by rw [List.getD_eq_getElem?_getD,List.getElem?_eq_getElem ht];exact h _ (List.getElem_mem ht)
  obtain rfl:=Option.some.inj hi
  split
  ·rw [zmF _ (by omega)];exact hr
  ·exact hr
theorem zmE.swp {g:List (List Int)}{n i j:Nat}(h:zmE g n):zmE (swp g i j) n:=by
 unfold Go.Proofs.YtipkdebkdnbieaaGreatDoor.swp;split
 ·rename_i x y hx hy;exact (h.set (h y (List.mem_of_getElem? hy))).set (h x (List.mem_of_getElem? hx))
 ·exact h
theorem zmH (g:List (List Int))(t c:Nat):(ziY g t c).length=g.length:=by unfold ziY;split <;> simp
theorem zmI {g:List (List Int)}{i c:Nat}{r:List Int}(h:g[i]?=some r):at2 g i c=zas r c:=by unfold at2 zas;rw [List.getD_eq_getElem?_getD (l:=g),h];rfl
theorem zmJ {g:List (List Int)}{i:Nat}{r:List Int}(h:g[i]?=some r):g.getD i []=r:=by rw [List.getD_eq_getElem?_getD,h];rfl
theorem GZ.pass {W0 w:World}{B gs cap n t c lo i:Nat}{g:List (List Int)}{r s:List Int}(he:Env W0)(h:GZ W0 B gs cap (ziX g t c lo i) w)(hrec:zmE g n)(hn:n≤1000)(hok:okG g=true)(hr:g[i]?=some r)(hs:g[t]?=some s)(hne:i ≠ t)(hlo:lo≤i)(htn:¬ (lo≤t∧t<i))(hc:c<n)(hnz:zas s c ≠ 0) :
  ∃ gi ci gt ct,w.cell? ⟨gs,i,none⟩=some (.slice (some ⟨gi,0,none⟩) n ci)∧w.cell? ⟨gi,c,none⟩=some (.string (I (zas r c)))∧w.cell? ⟨gs,t,none⟩=some (.slice (some ⟨gt,0,none⟩) n ct)∧w.cell? ⟨gt,c,none⟩=some (.string (I (zas s c))) ∧
   (∀ W,Ext w W→Calls Tryz.prog 115 #[.string (I (zas r c)),.string (I (zas s c))] W fun e w'=>e=.returned (.tuple #[.string (I (fdv (zas r c) (zas s c))),.string (I (fmd (zas r c) (zas s c))),.int .i64 0])∧Ext W w') ∧
   ∀ W,Ext w W→Calls Tryz.prog 116 #[.slice (some ⟨gi,0,none⟩) n ci,.slice (some ⟨gt,0,none⟩) n ct,.string (I (fdv (zas r c) (zas s c)))] W fun e w'=>e=.returned (.tuple #[])∧GZ W0 B gs cap (ziX g t c lo (i+1)) w':=by
 have hri:(ziX g t c lo i)[i]?=some r:=zm9 hr (by omega);have hsi:(ziX g t c lo i)[t]?=some s:=zm9 hs htn;have hrl:=hrec r (List.mem_of_getElem? hr);have hsl:=hrec s (List.mem_of_getElem? hs);obtain ⟨g1,c1,a1,a2,_,_⟩:=h.row hri;obtain ⟨g2,c2,b1,b2,_,_⟩:=h.row hsi;obtain ⟨gi,ci,gt,ct,d1,d2,htk⟩:=h.take he hri hsi hne (by omega) (by omega);rw [a1] at d1;rw [b1] at d2;injection d1 with d1;injection d2 with d2;injection d1 with e1 _ e3;injection d2 with f1 _ f3;injection e1 with e1;injection e1 with e1;injection f1 with f1;injection f1 with f1;subst e1 e3 f1 f3;have hrz:=zmB hok hr;have hsz:=zmB hok hs;have hq:(fdv (zas r c) (zas s c)).natAbs<ziK:=Nat.lt_of_le_of_lt (zmC hnz) (hrz _ (zc8 (by omega)));rw [hrl] at a1 htk;rw [hsl] at b1 htk;refine ⟨g1,c1,g2,c2,a1,a2 c (by omega),b1,b2 c (by omega),fun W hW=>zeh _ _ W (he.ext (h.x.trans hW)) hnz (zmA (hrz _ (zc8 (by omega)))) (zmA (hsz _ (zc8 (by omega)))),fun W hW=>?_⟩;refine (htk (fdv (zas r c) (zas s c)) W hW (zmA hq) (fun z hz=>zmA (hrz z hz)) (fun z hz=>zmA (hsz z hz)) (fun z hz=>zmD hq (hsz z hz))).mono ?_;rintro e w' ⟨rfl,hg⟩;refine ⟨rfl,?_⟩;rw [← zm8 hlo hr,zmJ hs,zmI hs];exact hg
theorem zmK (W0 w:World)(B gs cap m n t c:Nat)(g:List (List Int))(he:Env W0)(h:GZ W0 B gs cap g w)(hm:g.length=m)(hrec:zmE g n)(hn:n≤1000)(hm9:m≤1000)(ht:t<m)(hc:c<n)(hok:okG g=true)(hok2:okG (ziY g t c)=true)(hnz:at2 g t c ≠ 0) :
  Calls Tryz.prog 155 #[.slice (some ⟨gs,0,none⟩) m cap,.int .i64 t,.int .i64 c] w fun e w'=>e=.returned (.tuple #[])∧GZ W0 B gs cap (ziZ g t c) w':=by
 obtain ⟨s,hs⟩:∃ s,g[t]?=some s:=⟨_,List.getElem?_eq_getElem (by omega)⟩;have hsl:=hrec s (List.mem_of_getElem? hs);have hsz:=zmB hok hs;have ea:=zmI (c:=c) hs;obtain ⟨g1,c1,a1,a2,_,_⟩:=h.row hs;have a2:=a2 c (by omega);rw [hsl] at a1;obtain ⟨g2,c2,b1,htn⟩:=h.turn hs (by omega) (fun z hz=>zmA (hsz z hz));rw [hsl,a1] at b1;injection b1 with b1;injection b1 with b1 _ b3;injection b1 with b1;injection b1 with b1;subst b1 b3;rw [hsl] at htn;have hsg:=fun W=>zbR (zas s c) W (zmA (hsz _ (zc8 (by omega))));rw [ea] at hnz;have hsn:ziY g t c=if zas s c<0 then g.set t (ziV s) else g:=by unfold ziY;rw [ea,zmJ hs]
 -- behind the sign
 obtain ⟨g0,hg0⟩:∃ g0,g0=ziY g t c:=⟨_,rfl⟩
 have hfin:ziZ g t c=ziX g0 t c 0 t:=by rw [hg0];rfl
 obtain ⟨s0,hs0,hnz0⟩:∃ s0,g0[t]?=some s0∧zas s0 c ≠ 0:=by
  rw [hg0,hsn];split
  ·refine ⟨ziV s,by rw [List.getElem?_set,if_pos rfl,if_pos (by omega)],?_⟩;unfold ziV zas;rw [List.getD_eq_getElem?_getD,List.getElem?_map,List.getElem?_eq_getElem (by omega)];unfold zas at hnz;rw [List.getD_eq_getElem?_getD,List.getElem?_eq_getElem (by omega)] at hnz;simp only [Option.map_some,Option.getD_some] at hnz ⊢;omega
  ·exact ⟨s,hs,hnz⟩
 have hrec0:zmE g0 n:=by rw [hg0];exact hrec.sgn (by omega)
 have hok0:okG g0=true:=by rw [hg0];exact hok2
 have hl0:g0.length=m:=by rw [hg0,zmH,hm]
 rw [hfin]
 have ht0:(0:Int)≤(t:Int):=by omega
 have ht1:(t:Int)<(m:Int):=by omega
 have hc0:(0:Int)≤(c:Int):=by omega
 have hc1:(c:Int)<(n:Int):=by omega
 have H:=hid h;have He:=hid he;have Htn:=hid htn;have Hsg:=hid hsg;have Hrec0:=hid hrec0;have Hok0:=hid hok0;have Hs0:=hid hs0;have Hl0:=hid hl0;have Hnz0:=hid hnz0
 have hstart:(zas s c<0∧g.set t (ziV s)=g0)∨(¬ zas s c<0∧g=g0):=by
  rw [hg0,hsn];by_cases q:zas s c<0
  ·exact .inl ⟨q,by rw [if_pos q]⟩
  ·exact .inr ⟨q,by rw [if_neg q]⟩
 have Hstart:=hid hstart
 clear h he htn hsg hrec hrec0 hok hok0 hok2 hs hs0 hsl hsz hg0 hfin hsn hl0 hnz hnz0 hm ea hstart
 have hcs:(zas s c<0∧zbj (zas s c) 0<0)∨(¬ zas s c<0∧¬ zbj (zas s c) 0<0):=by
  unfold zbj;by_cases q:zas s c<0
  ·left;rw [if_pos q];omega
  ·right;rw [if_neg q];refine ⟨q,?_⟩;split <;> omega
 generalize hz:zas s c=z at *
 generalize zbj z 0=sg at *
 clear hz
 go_enter Tryz.func155,Tryz.ntmps155
 go_wp2_with fail
 refine (Hsg.out _).mono ?_
 rintro e w1 ⟨rfl,rfl⟩
 go_upto_if 18 with fail
 go_cut [] (fun wx=>Hid (GZ W0 B gs cap g0 wx))
 case first =>
  rcases hcs with ⟨hz1,hz2⟩ | ⟨hz1,hz2⟩
  ·have hzd:decide (sg<0)=true:=decide_eq_true hz2
   have hg1:g.set t (ziV s)=g0:=by
    rcases Hstart.out with q | q
    ·exact q.2
    ·have:=q.1;omega
   have Hg1:=hid hg1
   clear hg1 hz1
   go_wp2_with fail
   refine (Htn.out _ (Ext.refl _)).mono ?_
   rintro e w2 ⟨rfl,hg⟩
   rw [Hg1.out] at hg
   have HG:=hid hg
   clear hg
   go_wp2_with fail
   go_meet
   exact HG
  ·have hzd:decide (sg<0)=false:=decide_eq_false (by omega)
   have hg1:g=g0:=by
    rcases Hstart.out with q | q
    ·have:=q.1;omega
    ·exact q.2
   have Hg1:=hid hg1
   clear hg1 hz1
   go_wp2_with fail
   go_meet
   rw [← Hg1.out]
   exact H
 case rest =>
  have HG:=hcut
  clear H Htn Hsg Hstart hcs a1 a2
  go_wp2_with fail
  go_loopw [25] (fun v25 wr=>∃ i:Nat,v25=.int .i64 i∧i≤t∧Hid (GZ W0 B gs cap (ziX g0 t c 0 i) wr)) (fun v25 _=>t - (zal v25).toNat)
  case atStart=>exact ⟨0,rfl,Nat.zero_le _,hid (by rw [zm7];exact HG.out)⟩
  case round =>
   clear HG
   obtain ⟨i,rfl,hi,HG⟩:=hrel
   by_cases hit:i<t
   ·obtain ⟨r,hr⟩:∃ r,g0[i]?=some r:=⟨_,List.getElem?_eq_getElem (by have:=Hl0.out;omega)⟩
    obtain ⟨gi,ci,gt,ct,a1,a2,b1,b2,hdm,htk⟩:=HG.out.pass He.out Hrec0.out hn Hok0.out hr Hs0.out (by omega) (Nat.zero_le _) (by omega) hc Hnz0.out
    have hi0:(0:Int)≤(i:Int):=by omega
    have hi1:(i:Int)<(m:Int):=by omega
    have hi2:(i:Int)<(t:Int):=by omega
    have Hdm:=hid hdm;have Htk:=hid htk
    clear hdm htk hr
    generalize I (fdv (zas r c) (zas s0 c))=sq at *
    generalize I (fmd (zas r c) (zas s0 c))=sr at *
    generalize I (zas r c)=sa at *
    generalize I (zas s0 c)=sb at *
    go_wp2_with fail
    go_region_held3 (fun w'=>Ext wr w'∧w'.cell? ⟨gs,i,none⟩=some (.slice (some ⟨gi,0,none⟩) n ci)∧w'.cell? ⟨gi,c,none⟩=some (.string sa)∧w'.cell? ⟨gs,t,none⟩=some (.slice (some ⟨gt,0,none⟩) n ct)∧w'.cell? ⟨gt,c,none⟩=some (.string sb))
     (first | (with_reducible assumption) | exact ⟨(Ext.refl wr).drew,a1,a2,b1,b2⟩)
     (first
      | (go_at_call 115;refine (Hdm.out _ (And.left (by assumption))).mono ?_;rintro e9 VA ⟨rfl,hxa⟩;have hEA:=((Ext.refl wr).drew).trans hxa;have hS2:Ext wr VA∧VA.cell? ⟨gs,i,none⟩=some (.slice (some ⟨gi,0,none⟩) n ci)∧VA.cell? ⟨gi,c,none⟩=some (.string sa)∧VA.cell? ⟨gs,t,none⟩=some (.slice (some ⟨gt,0,none⟩) n ct)∧VA.cell? ⟨gt,c,none⟩=some (.string sb):=⟨hEA,hEA.cell a1,hEA.cell a2,hEA.cell b1,hEA.cell b2⟩;have HEA:=hid hEA;clear hxa hEA))
    all_goals
     have hxd:=HEA.out.drew
     have e1:=hxd.cell a1
     have e2:=hxd.cell b1
     have htk:=Htk.out _ hxd
     have Htk2:=hid htk
     clear hS2 a1 a2 b1 b2 htk hxd
     go_wp2_with fail
     go_region_law (go_simp;go_at_call 116;refine Htk2.out.mono ?_;rintro e V5 ⟨rfl,hg5⟩;have Hg5:=hid hg5;clear hg5)
     all_goals
      go_wp2_with fail
      go_roundw
      case rel=>exact ⟨i+1,by go_num,by omega,Hg5⟩
      case measure=>simp [zal];omega
   ·obtain rfl:i=t:=by omega
    go_wp2
    go_end0
    exact ⟨rfl,HG.out⟩
end Go.Proofs.YtipkdebkdnbieaaGreatDoor
