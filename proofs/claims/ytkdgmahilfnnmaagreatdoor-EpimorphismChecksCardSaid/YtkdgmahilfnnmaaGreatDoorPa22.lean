/- Walk: smith's Solve where the plain one answers. Walk: epimorphism.steps: the sum of products. (KEEPALL) Walks: Set.wrong over a function that compares the steps; the closures of Val and Wrong. (KEEPALL) Blocks of two cells of any type: results and boxes. -/
import Derived.Test.YtkdgmahilfnnmaaGreatDoorPa21
import Derived.Test.YtkdgmahilfnnmaaGreatDoorPa17
import Derived.Test.YtkdgmahilfnnmaaGreatDoorPa11
import Derived.Test.YtkdgmahilfnnmaaGreatDoorPa09
import Derived.Test.YtkdgmahilfnnmaaGreatDoorPa07
set_option maxRecDepth 100000
set_option maxHeartbeats 4000000
namespace Go.Proofs.YtkdgmahilfnnmaaGreatDoor
section
open Go.RowKit Go.Lib Go.Shelf
theorem zmD {w:World}{B E s:Nat}{g n c:Nat}{xs:List Value}(h:w.ownsRow B E s (.slice (some ⟨g,0,none⟩) n c) n xs):n≤c∧c≤maxLen:=by
 rcases h.2 with ⟨h0,_⟩ | ⟨g',c',cur,h0,_,_,h1,h2,_,_⟩
 ·cases h0
 ·simp only [Value.slice.injEq,Option.some.injEq,Addr.mk.injEq,and_true,true_and] at h0;rw [h0.2];exact ⟨h1,h2⟩
theorem zmE {gs:Nat}{u:Value}{V:World}(h:V.cell? ⟨gs,0,none⟩=some u)(o:Obj):(V.alloc o).cell? ⟨gs,0,none⟩=some u:=((Ext.refl V).alloc o).cell h
theorem zmF (w:World)(v:Value)(t:TypeId):(w.alloc (.cells #[v] t)).cell? ⟨w.heap.size,0,none⟩=some v:=by
 have h:=World.alloc_heap_new w (.cells #[v] t);unfold World.cell?;rw [h];rfl
theorem zmG (w:World)(v:Value)(t:TypeId):(w.alloc (.cells #[v] t)).drew.cell? ⟨w.heap.size,0,none⟩=some v:=zmF w v t
theorem zmH (w:World)(v:Value)(t:TypeId)(o:Obj):((w.alloc (.cells #[v] t)).alloc o).drew.cell? ⟨w.heap.size,0,none⟩=some v:=((Ext.refl _).alloc o).cell (zmF w v t)
theorem zmI (w:World)(v:Value)(t:TypeId)(o:Obj):((w.alloc o).alloc (.cells #[v] t)).drew.cell? ⟨w.heap.size+1,0,none⟩=some v:=by
 have:=zmF (w.alloc o) v t;rw [World.size_alloc] at this;exact this
theorem zmJ (w:World)(o:Obj):Ext w (w.alloc o).drew:=((Ext.refl w).alloc o).drew
theorem zmK (w:World)(o p:Obj):Ext w ((w.alloc o).alloc p).drew:=(((Ext.refl w).alloc o).alloc p).drew
def upZ (f:List (List Int))(n:Nat):List (List Int):=f.filter fun l=>zfY l<n
theorem zmL (f:List (List Int))(n:Nat)(r:List Int):upZ (f++[r]) n=upZ f n++(if zfY r<n then [r] else []):=by
 unfold upZ;rw [List.filter_append];by_cases h:zfY r<n
 ·rw [if_pos h];simp [h]
 ·rw [if_neg h];simp [h]
theorem zmM (vm vb:Value)(m gF:List (List Int))(b lF xF:List Int)(n k tF:Nat)(w:World)(he:Env w)(hm:Mat w vm m)(hb:Sl w vb (zaA b))(hk:m.length=k)(hrec:∀ r∈m,r.length=n)(hbn:b.length=n)(hn0:0<n)(hn:n+k≤1000)(hk0:0<k)
  (hmi:∀ r∈m,∀ z∈r,-9223372036854775808≤z∧z≤9223372036854775807) (hbi:∀ z∈b,-9223372036854775808≤z∧z≤9223372036854775807) (ht:zjh m=0) (hbc:zh2 b=0)
  (hrun:zfU 100 (List.zipWith (fun r u=>r++u) m (zfW k)) 0 0 (n+k)=some (gF,tF)) (hred:zgb ((gF.take tF).filter fun l=>zfY l<n) (b++List.replicate k 0)=some lF) (hfit:∀ z∈lF,Fit z)
  (hsol:¬ zfY lF<n→zgb (zfZ (gF.take tF) n) (zfP (lF.drop n))=some xF∧∀ z∈xF,z.natAbs≤1000000000) :
  Calls Tryz.prog 45 #[vm,vb] w fun e w'=>∃ v,e=.returned (.tuple #[v,.bool (decide (¬ zfY lF<n)),.int .i64 0])∧(zfY lF<n→v=.slice none 0 0)∧(¬ zfY lF<n→Sl w' v (zaA xF)∧xF.length=k)∧Ext w w':=by
 obtain ⟨i0,hi,hz0,hz1,hz2⟩:=info_parts zg0;obtain ⟨j0,hj,hy0,hy1,hy2⟩:=info_parts zk6;have hsz:=zmC vm vb m b n k w hm hb hk hk0 (by omega) (by omega) hrec hbn ht hbc;have hwd:=fun W (hE:Ext w W)=>zld vm m gF n k tF W (he.ext hE) (hE.mat hm) hk hrec hn0 hn hk0 hmi hrun;have hbig:∀ (w6:World)(q:Nat)(W:World),Ext w w6→Ext w6 W→W.cell? ⟨q,0,none⟩=some vb→Calls Tryz.prog 72 #[.slice (some ⟨q,0,none⟩) 1 1] W fun e w'=>∃ gs cg g c,e=.returned (.slice (some ⟨gs,0,none⟩) 1 cg)∧w'.cell? ⟨gs,0,none⟩=some (.slice (some ⟨g,0,none⟩) n c)∧w'.ownsRow w6.heap.size 103 1 (.slice (some ⟨g,0,none⟩) n c) n (zgy b)∧Ext W w':=fun w6 q W h6 hW hc=>by
  have hmat:Mat W (.slice (some ⟨q,0,none⟩) 1 1) [b]:=⟨[vb],rfl,.inr ⟨q,0,1,rfl,by simp,by decide,fun i u hu=>by
   have hl:=(List.getElem?_eq_some_iff.1 hu).1;simp only [List.length_singleton] at hl;obtain rfl:i=0:=by omega
   obtain rfl:vb=u:=by simpa using hu
   simpa using hc⟩,fun i u hu=>by
   have hl:=(List.getElem?_eq_some_iff.1 hu).1;simp only [List.length_singleton] at hl;obtain rfl:i=0:=by omega
   obtain rfl:vb=u:=by simpa using hu
   exact (h6.trans hW).sl hb⟩
  refine (zk9 _ [b] n W (he.ext (h6.trans hW)) hmat (by simpa using hbn) hn0 (by omega) (by simp) (by simpa using hbi)).mono ?_;rintro e w' ⟨v,rfl,ls,hG,hx,hE⟩;obtain ⟨r,rfl⟩:∃ r,ls=[r]:=by
   have:=congrArg List.length hx;rw [List.length_map] at this;exact List.length_eq_one_iff.1 this
  obtain ⟨gs,cg,rfl,hgd⟩:=hG.gd (by simp);have hrx:r.x=b:=by simpa using hx
  have h1:=hgd.at (i:=0) rfl;have h2:=hgd.rows r (by simp);unfold GR.u at h1 h2;rw [zjR] at h2;rw [hrx,hbn] at h1 h2;exact ⟨gs,cg,r.g,r.c,rfl,h1,za7 h2 hW.size,hE⟩
 have hrep:∀ (q:Nat)(W:World),W.cell? ⟨q,0,none⟩=some (.string ⟨#[48]⟩)→Calls Tryz.prog 73 #[.slice (some ⟨q,0,none⟩) 1 1,.int .i64 k] W fun e w'=>∃ g,e=.returned (.slice (some ⟨g,0,none⟩) k k)∧(∀ j u,(zgy (List.replicate k 0))[j]?=some u→w'.cell? ((⟨g,0,none⟩:Addr).add j)=some u)∧Ext W w':=fun q W hc=>by
  refine (zjs q (.string ⟨#[48]⟩) (.string ByteArray.empty) rfl rfl k W (by omega) hk0 hc).mono ?_;rintro e w' ⟨rfl,hh,hx⟩;have ho:=zkA (B:=0) (Nat.zero_le _) hh (by omega);rw [zkD,← zkB] at ho;refine ⟨_,rfl,fun j u hj=>?_,hx⟩;rw [show (⟨W.heap.size,0,none⟩:Addr).add j=⟨W.heap.size,j,none⟩ by unfold Addr.add;split <;> simp_all]
  exact zjz ho hj
 obtain ⟨vs,hvl,hvs,hrows⟩:=hm;obtain ⟨am,cm,rfl,_,_,_⟩:=hvs.parts;obtain ⟨ab,cb,rfl,_,_,_⟩:=hb.parts;rw [hvl,hk] at hsz hwd ⊢;rw [show (zaA b).length=n by rw [zaC];exact hbn] at hsz hbig ⊢;have Hsz:=hid hsz;have Hwd:=hid hwd;have Hbig:=hid hbig;have Hrep:=hid hrep;have Hred:=hid hred;have Hfit:=hid hfit;have Hsol:=hid hsol;have Hbn:=hid hbn;have He:=hid he;clear hsz hwd hbig hrep hvl hvs hrows hk hrec hbn hmi hbi ht hbc hrun hred hfit hsol he hb;have hkz:((k:Int) == 0)=false:=beq_eq_false_iff_ne.2 (by omega);go_enter Tryz.func45,Tryz.ntmps45
 go_wp2_with fail
 refine Hsz.out.mono ?_;rintro e w1 ⟨rfl,hx1⟩;have Hx1:=hid hx1;clear hx1;go_wp2_with fail
 refine (Hwd.out w1 Hx1.out).mono ?_;rintro e w6 ⟨v8,rfl,hf8,hfr,htk,hx6⟩;have Hf8:=hid hf8;have Hfr:=hid hfr;have Hx6:=hid (Hx1.out.trans hx6);clear hf8 hfr hx6;go_upto_region 7 with (fail)
 go_cut [10] (fun v10 wx=>∃ g c,v10=.slice (some ⟨g,0,none⟩) (n+k) c∧Hid (wx.ownsRow w6.heap.size 103 1 (.slice (some ⟨g,0,none⟩) (n+k) c) (n+k) (zgy (b++List.replicate k 0)))∧Hid (Ext w6 wx))
 case first =>
  have hnl:(zgy (List.replicate k 0)).length=k * 1:=by rw [zgz,List.length_replicate,Nat.mul_one]
  have hone:∀ u∈zgy (List.replicate k 0),u.oneCell'=true:=fun u hu=>by
   unfold zgy at hu;obtain ⟨z,_,rfl⟩:=List.mem_map.1 hu;rfl
  have hb3:n+k≤maxLen:=by unfold maxLen;omega
  have hb4:(n+k) * 16≤140737488355328:=by omega
  have Hnl:=hid hnl;have Hone:=hid hone;clear hnl hone;go_region_law (first
   | (go_simp
      go_at_call 72
      refine (Hbig.out w6 _ _ Hx6.out ?_ ?_).mono ?_
      · first | exact zmK w6 _ _ | exact zmJ w6 _
      · first | exact zmG w6 _ _ | exact zmH w6 _ _ _ | exact zmI w6 _ _ _
      rintro e V1 ⟨gs,cg,gr,cr,rfl,hc1,ho1,hxb⟩
      have hc2:=zmE hc1 (.cells #[.string ⟨#[48]⟩] 103)
      first
        | (have hxx:Ext ((w6.alloc (.cells #[.slice ab n cb] 26)).alloc (.cells #[.string ⟨#[48]⟩] 103)).drew V1:=(by with_reducible exact hxb);have HcB:=hid (hxx.cell (zmI _ _ _ _));have HE1:=hid ((zmK _ _ _).trans hxx))
        | (have hxx:Ext ((w6.alloc (.cells #[.string ⟨#[48]⟩] 103)).alloc (.cells #[.slice ab n cb] 26)).drew V1:=(by with_reducible exact hxb);have HcB:=hid (hxx.cell (zmH _ _ _ _));have HE1:=hid ((zmK _ _ _).trans hxx))
        | (have HE1:=hid ((zmJ _ _).trans hxb))
      have Ho1:=hid ho1;have Hc1:=hid hc1
      try clear hxx
      clear hxb ho1)
   | (go_simp
      go_at_call 73
      first
        | refine (Hrep.out _ _ HcB.out).mono ?_
        | refine (Hrep.out _ _ (zmF V1 _ _)).mono ?_
      rintro e V2 ⟨g2,rfl,hn2,hx2⟩
      first
        | (have HX2:Hid (Ext V1 V2):=(by with_reducible exact hid hx2))
        | have HX2:=hid (((Ext.refl V1).alloc (.cells #[.string ⟨#[48]⟩] 103)).trans hx2)
      have hc3:=HX2.out.cell Hc1.out
      have Ho2:=hid (HX2.out.own Ho1.out);have HE2:=hid (HE1.out.trans HX2.out);have Hn2:=hid hn2
      have hbs:=HE2.out.size
      clear hx2 hn2)
   | (refine step_append_lies _ rfl (.tmp 36) (.tmp 40) 119 rfl w6.heap.size 103 i0 (.string ByteArray.empty) 1 16 Tryz.underlying119 hi hz0 hz1 hz2 rfl (by decide) (.slice (some ⟨gr,0,none⟩) n cr) n (zgy b) (by simp [Act.eval]) Ho2.out ⟨g2,0,none⟩ k k (zgy (List.replicate k 0)) (by simp [Act.eval]) Hnl.out Hn2.out Hone.out (by omega) hb3 hb4 hbs _ rfl ?_;intro g3 c3 V3 hown3 hgrow3 hat3 hlt3;have Hown3:=hid hown3;have HE3:=hid (HE2.out.grown hgrow3 fun q hq=>(World.ownsRow.lt Ho2.out q hq).1);clear hown3 hgrow3 hat3 hlt3))
  all_goals
   have ho3:=Hown3.out;rw [← zkY] at ho3;have Ho3:=hid ho3;clear ho3;go_wp2_with fail
   go_meet
   exact ⟨g3,c3,rfl,Ho3,HE3⟩
 case rest =>
  obtain ⟨g3,c3,rfl,Ho3,HE3⟩:=hcut;have hms8:=Hf8.out.ext HE3.out;obtain ⟨vf,hvl,hvf,hrf⟩:=hms8;obtain ⟨af,cf,rfl,_,_,hcf⟩:=hvf.parts;have hms8:=Hf8.out.ext HE3.out;rw [hvl] at hms8;have Hms8:=hid hms8;clear hms8;have hfl:(gF.take tF).length≤1000:=by rw [List.length_take];omega
  rw [hvl];generalize hfm:gF.take tF=f at *;generalize hM:f.length=M at *;have Hcf:=hid hcf;have Hrf:=hid hrf;have HM:=hid hM;have Hvl:=hid hvl;clear hcf hrf hM hvl hvf hfm;go_wp2_with fail
  go_loopw [44,11] (fun v44 v11 wr=>∃ i:Nat,v44=.int .i64 i∧i≤M∧Hid (∃ us:List Value,us.length=(upZ (f.take i) n).length∧wr.ownsRow wc.heap.size 119 1 v11 us.length us∧∀ j u,us[j]?=some u→∀ W,Ext wc W→Sl W u (zgy ((upZ (f.take i) n).getD j [])))∧Hid (Ext wc wr)) (fun v44 _ _=>M - (za6 v44).toNat)
  case atStart=>exact ⟨0,rfl,Nat.zero_le _,hid ⟨[],rfl,World.ownsRow_nil _ _ _ 1,fun i u h=>by simp at h⟩,hid (Ext.refl _)⟩
  case round =>
   obtain ⟨i,rfl,hiM,HU,HE⟩:=hrel;obtain ⟨us,hul,huo,hur⟩:=HU.out;obtain ⟨a5,c5,e5⟩:=zcN huo;subst e5;have Hul:=hid hul;have Huo:=hid huo;have Hur:=hid hur;clear HU hul huo hur;by_cases hil:i<M
   ·obtain ⟨r,hr⟩:∃ r,f[i]?=some r:=⟨_,List.getElem?_eq_getElem (by have:=HM.out;omega)⟩;obtain ⟨u,hu⟩:∃ u,vf[i]?=some u:=⟨_,List.getElem?_eq_getElem (by rw [Hvl.out];exact hil)⟩;obtain ⟨b8,off,rfl,hcu⟩:=Hcf.out i u hu;have hru:=Hrf.out i u hu;rw [List.getD_eq_getElem?_getD,hr] at hru;simp only [Option.getD_some] at hru;have hrl:=Hfr.out r (List.mem_of_getElem? hr);have htk2:upZ (f.take (i+1)) n=upZ (f.take i) n++(if zfY r<n then [r] else []):=by
     obtain ⟨h1,h2⟩:=List.getElem?_eq_some_iff.1 hr;rw [List.take_succ_eq_append_getElem h1,h2,zmL]
    have hld:=fun W (hE:Ext wc W)=>zkM u r W (hE.sl hru) (by omega);have hrs:=fun W (hE:Ext wc W)=>hE.sl hru;obtain ⟨ar,cr,hue,_,_,_⟩:=hru.parts;rw [zgz,hrl] at hue;have hcw:=HE.out.cell hcu;have hk1:(0:Int)≤(i:Int):=(by omega);have hk2:(i:Int)<(M:Int):=(by omega);have HL:=hid (hld wr HE.out);have Htk:=hid htk2;have Hrs:=hid hrs;clear htk2 hrs hld hr hu hru hcu hrl;subst hue;go_wp2_with fail
    refine HL.out.mono ?_;rintro e w2 ⟨rfl,hx2⟩;have HE2:=hid (HE.out.trans hx2);have Hx2':=hid hx2;clear hx2 hcw;by_cases hlt:zfY r<n
    ·have hc1:(zfY r:Int)<(n:Int):=(by omega);have hqo:=Hx2'.out.own Huo.out;have hus:us.length≤1000:=by
      rw [Hul.out];have:=List.length_filter_le (fun l=>decide (zfY l<n)) (f.take i);rw [List.length_take,HM.out] at this;unfold upZ;omega
     have hm3:us.length+1≤maxLen:=(by unfold maxLen;omega);have hm4:(us.length+1) * 24≤140737488355328:=(by omega);have hbase:wc.heap.size≤w2.heap.size:=HE2.out.size;go_wp2_with (at_builtin;refine wpList_append_own _ rfl _ _ 116 rfl wc.heap.size 119 j0 (.slice none 0 0) 1 24 Tryz.underlying116 hj hy0 hy1 hy2 rfl (by decide) _ _ _ rfl (hqo.alloc _) ⟨w2.heap.size,0,none⟩ 1 1 [.slice ar (n+k) cr] rfl rfl (cell_one_new _ _ _) (by simp [Value.oneCell']) hm3 hm4 (by rw [World.size_alloc];omega) ?_;intro v7 V7 hown7 hgrow7 _)
     go_roundw
     case rel =>
      have htk:=Htk.out;rw [if_pos hlt] at htk;refine ⟨i+1,by go_num,hil,hid ⟨us++[_],by rw [htk,List.length_append,List.length_append,Hul.out];rfl,by rw [List.length_append];exact hown7,fun j x hx W hW=>?_⟩,hid ((HE2.out.alloc _).grown hgrow7 fun q hq=>(World.ownsRow.lt hqo q hq).1)⟩;rw [htk];rcases Nat.lt_or_ge j us.length with g | g
      ·rw [List.getElem?_append_left g] at hx;have:=Hur.out j x hx W hW;rwa [show (upZ (f.take i) n++[r]).getD j []=(upZ (f.take i) n).getD j [] by rw [List.getD_eq_getElem?_getD,List.getD_eq_getElem?_getD,List.getElem?_append_left (by rw [← Hul.out];exact g)]]
      ·rw [List.getElem?_append_right g] at hx;have hl:=(List.getElem?_eq_some_iff.1 hx).1;simp only [List.length_singleton] at hl;have hi:j=us.length:=(by omega);subst hi;rw [Nat.sub_self] at hx;obtain rfl:=Option.some.inj hx;rw [show (upZ (f.take i) n++[r]).getD us.length []=r by rw [List.getD_eq_getElem?_getD,Hul.out,List.getElem?_append_right (Nat.le_refl _),Nat.sub_self];rfl];exact Hrs.out W hW
     case measure=>simp [za6];omega
    ·have hc1:¬ (zfY r:Int)<(n:Int):=(by omega);have htk:=Htk.out;rw [if_neg hlt,List.append_nil] at htk;have Htk2:=hid htk;clear htk;go_wp2_with fail
     go_roundw
     case rel=>exact ⟨i+1,by go_num,hil,hid ⟨us,by rw [Htk2.out];exact Hul.out,Hx2'.out.own Huo.out,by rw [Htk2.out];exact Hur.out⟩,HE2⟩
     case measure=>simp [za6];omega
   ·have hkk:¬ (i:Int)<(M:Int):=(by omega);have hft:f.take i=f:=List.take_of_length_le (by rw [HM.out];omega);have hul:=Hul.out;have hur:=Hur.out;rw [hft] at hul hur;have hms:zkO wr (.slice a5 us.length c5) (upZ f n):=⟨us,hul,za8 Huo.out,fun j u hu=>hur j u hu _ HE.out⟩;have hul9:(upZ f n).length≤1000:=by
     have:=List.length_filter_le (fun l=>decide (zfY l<n)) f;unfold upZ;rw [HM.out] at this;omega
    have hrow:∀ r∈upZ f n,n+k≤r.length∧r.length≤1000:=fun r hr=>by
     have:=Hfr.out r ((List.mem_filter.1 hr).1);omega
    have hbk:(b++List.replicate k 0).length=n+k:=(by rw [List.length_append,Hbn.out,List.length_replicate]);have hrd:=zkR _ (.slice (some ⟨g3,0,none⟩) (n+k) c3) (upZ f n) (b++List.replicate k 0) lF (n+k) wr (He.out.ext (Hx6.out.trans (HE3.out.trans HE.out))) hms (HE.out.sl (za8 Ho3.out)) hbk (by omega) hn hul9 hrow Hred.out;have Hrd:=hid hrd;clear hrd hms hul9 hrow hbk hft hul hur;go_wp2_with fail
    refine Hrd.out.mono ?_;rintro e w8 ⟨u,rfl,hou,hll,hx8⟩;obtain ⟨g8,cu,eu,hg8,_⟩:=World.ownsRow.form hou (by omega);subst eu;have hg9:wc.heap.size≤g8:=Nat.le_trans HE.out.size hg8;have hcap8:=zmD hou;have hld:=zkM _ lF w8 (za8 hou) (by omega);have Hou:=hid hou;have Hll:=hid hll;have HE8:=hid (HE.out.trans hx8);have Hld:=hid hld;clear hou hll hx8 hld;go_wp2_with fail
    refine Hld.out.mono ?_;rintro e w9 ⟨rfl,hx9⟩;have Hou9:=hid (hx9.own Hou.out);have HE9:=hid (HE8.out.trans hx9);clear hx9;by_cases hlF:zfY lF<n
    ·have hc1:(zfY lF:Int)<(n:Int):=(by omega);go_wp2
     go_ret3
     exact ⟨_,by rw [decide_eq_false (not_not_intro hlF)] <;> rfl,fun _=>rfl,fun h=>absurd hlF h,Hx6.out.trans (HE3.out.trans HE9.out)⟩
    ·have hc1:¬ (zfY lF:Int)<(n:Int):=(by omega);have hcc1:(n:Int)≤((n+k:Nat):Int):=(by omega);have hcc2:(0:Int)≤(n:Int):=(by omega);have htu:=zkb g8 n k (n+k) cu (cu - n) lF w9 wr.heap.size Hll.out rfl hn Hou9.out Hfit.out;have Htu:=hid htu;clear htu;go_wp2_with fail
     refine Htu.out.mono ?_;rintro e wt ⟨rfl,hot,hgt⟩;have hEt:Ext wc wt:=zjO hgt HE9.out hg9;have hst:∀ W,Ext wt W→Sl W (.slice (some ⟨g8,n,none⟩) k (cu - n)) (zgy (zfP (lF.drop n))):=fun W hW=>by
      have hlen:(zgy (zfP (lF.drop n))).length=k:=(by rw [zgz];unfold zfP;rw [List.length_map,List.length_drop,Hll.out];omega);have hcw:=hcap8;rw [show (Value.slice (some ⟨g8,n,none⟩) k (cu - n))=.slice (some ⟨g8,n,none⟩) (zgy (zfP (lF.drop n))).length (cu - n) by rw [hlen]];refine .inr ⟨g8,n,cu - n,rfl,by rw [hlen];omega,by omega,fun j x hx=>?_⟩;rw [← zka (off:=n) (n:=k) (by rw [Hll.out])] at hx;have hx2:(zgy (zjU lF n k))[n+j]?=some x:=by
       unfold zgy at hx ⊢;rw [List.map_drop,List.getElem?_drop] at hx;exact hx
      exact hW.cell (zjz hot hx2)
     obtain ⟨hr3,hsm⟩:=Hsol.out hlF;have hke:=zkX (.slice af M cf) f n (n+k) wt (Hms8.out.ext hEt) hn (by rw [HM.out];omega) Hfr.out (by omega);have Hke:=hid hke;have HEt:=hid hEt;have Hst:=hid hst;have Hr3:=hid hr3;have Hsm:=hid hsm;clear hke hEt hst hr3 hsm hot hgt;go_wp2_with fail
     refine Hke.out.mono ?_;rintro e wk ⟨vk,rfl,hmk,hxk⟩;have hkl:(zfZ f n).length≤1000:=by
      unfold zfZ;rw [List.length_map];have:=List.length_filter_le (fun l=>decide (n≤zfY l)) f;rw [HM.out] at this;omega
     have hkr:∀ r∈zfZ f n,k≤r.length∧r.length≤1000:=fun r hr=>by
      unfold zfZ at hr;obtain ⟨q,hq,rfl⟩:=List.mem_map.1 hr;have:=Hfr.out q (List.mem_filter.1 hq).1;rw [List.length_drop];omega
     have hnl:(zfP (lF.drop n)).length=k:=(by unfold zfP;rw [List.length_map,List.length_drop,Hll.out];omega);have hEw:=Hx6.out.trans (HE3.out.trans (HEt.out.trans hxk));have hr2:=zkR vk (.slice (some ⟨g8,n,none⟩) k (cu - n)) (zfZ f n) (zfP (lF.drop n)) xF k wk (He.out.ext hEw) hmk (Hst.out wk hxk) hnl hk0 (by omega) hkl hkr Hr3.out;have Hr2:=hid hr2;have HEw:=hid hEw;clear hr2 hEw hmk hxk hkl hkr hnl;go_wp2_with fail
     refine Hr2.out.mono ?_;rintro e wn ⟨u,rfl,hou,hxl,hxn⟩;obtain ⟨au,cuu,eu⟩:=zcN hou;subst eu;have hsl1:Sl (wn.alloc (.cells #[.slice au k cuu] 119)) (.slice au k cuu) (zgy xF):=((Ext.refl wn).alloc _).sl (za8 hou);have hmx:zkO (wn.alloc (.cells #[.slice au k cuu] 119)) (.slice (some ⟨wn.heap.size,0,none⟩) 1 1) [xF]:=⟨[.slice au k cuu],rfl,.inr ⟨wn.heap.size,0,1,rfl,by simp,by decide,fun j x hx=>by
      have hl:=(List.getElem?_eq_some_iff.1 hx).1;simp only [List.length_singleton] at hl;obtain rfl:j=0:=by omega
      obtain rfl:Value.slice au k cuu=x:=by simpa using hx
      exact zmF wn _ _⟩,fun j x hx=>by
      have hl:=(List.getElem?_eq_some_iff.1 hx).1;simp only [List.length_singleton] at hl;obtain rfl:j=0:=by omega
      obtain rfl:Value.slice au k cuu=x:=by simpa using hx
      exact hsl1⟩
     have hs1:=zkV _ xF k _ hmx hxl (by omega) Hsm.out;have Hs1:=hid hs1;have Hxl:=hid hxl;have HEn:=hid ((HEw.out.trans hxn).alloc (.cells #[.slice au k cuu] 119));clear hs1 hmx hsl1 hou hxl hxn;go_wp2_with fail
     refine Hs1.out.mono ?_;rintro e wz ⟨vz,rfl,uz,hoz,hiz,hxz⟩;obtain ⟨gz,cz,ez,_,_⟩:=World.ownsRow.form hoz (by omega);subst ez;have hcz:wz.cell? ⟨gz,0,none⟩=some uz:=zjz hoz rfl;obtain ⟨az,czz,ezz⟩:=zcN hiz;subst ezz;have Hiz:=hid hiz;have HEz:=hid (HEn.out.trans hxz);clear hiz hxz hoz;go_wp2
     go_ret3
     exact ⟨_,by rw [decide_eq_true hlF] <;> rfl,fun h=>absurd h hlF,fun _=>⟨Hiz.out.sl,Hxl.out⟩,HEz.out⟩
end
section
open Go.RowKit Go.Lib
def zmN (v x:List Int):Nat→Int
 | 0=>0
 | j+1=>zmN v x j+zaD v j * zaD x j
theorem zmO {v x:List Int}:∀ {n:Nat},n≤v.length→n≤x.length→zmN v x n=((List.zipWith (fun a b=>a * b) v x).take n).sum
 | 0,_,_=>rfl
 | n+1,h1,h2=>by
  have hl:n<(List.zipWith (fun a b=>a * b) v x).length:=by rw [List.length_zipWith];omega
  rw [zmN,zmO (n:=n) (by omega) (by omega),List.take_succ_eq_append_getElem hl,List.sum_append,List.getElem_zipWith];unfold zaD;rw [List.getD_eq_getElem?_getD,List.getElem?_eq_getElem (by omega),List.getD_eq_getElem?_getD,List.getElem?_eq_getElem (by omega)];simp
theorem zmP {v x:List Int}(h:x.length=v.length):zmN v x x.length=zgf v x:=by
 rw [zmO (by omega) (Nat.le_refl _),List.take_of_length_le (by rw [List.length_zipWith];omega)];rfl
theorem zmQ {v x:List Int}(hb:∀ i,i<x.length→-1000000000000≤zaD v i * zaD x i∧zaD v i * zaD x i≤1000000000000):∀ {n:Nat},n≤x.length→-((n:Int) * 1000000000000)≤zmN v x n∧zmN v x n≤(n:Int) * 1000000000000
 | 0,_=>by simp [zmN]
 | n+1,h=>by
  have:=zmQ hb (n:=n) (by omega);have:=hb n (by omega);rw [zmN];omega
theorem zmR (vv vx:Value)(v x:List Int)(w:World)(hv:Sl w vv (zaA v))(hx:Sl w vx (zaA x))(hl:x.length=v.length)(hn:x.length≤1000)(hb:∀ i,i<x.length→-1000000000000≤zaD v i * zaD x i∧zaD v i * zaD x i≤1000000000000) :
  Calls Tryz.prog 30 #[vv,vx] w fun e w'=>e=.returned (.int .i64 (zgf v x))∧w=w':=by
 obtain ⟨av,cv,rfl,_,_,hcv⟩:=hv.parts;obtain ⟨ax,cx,rfl,_,_,hcx⟩:=hx.parts;rw [zaC,zaC,← zmP hl];have hbd:=fun j (hj:j≤x.length)=>zmQ hb hj;have hsu:=fun j=>(show zmN v x (j+1)=zmN v x j+zaD v j * zaD x j from rfl);have hvl:v.length=x.length:=hl.symm;have Hcv:=hid hcv;have Hcx:=hid hcx;have Hbd:=hid hbd;have Hsu:=hid hsu;have Hb:=hid hb;have Hvl:=hid hvl;clear hcv hcx hbd hsu hb hvl;clear hv hx hl;go_enter Tryz.func30,Tryz.ntmps30
 go_wp2_with fail
 go_loop [5,10] (fun v5 v10=>∃ j:Nat,v10=.int .i64 j∧j≤x.length∧v5=.int .i64 (zmN v x j)) (fun _ v10=>x.length - (za6 v10).toNat)
 case atStart=>exact ⟨0,rfl,Nat.zero_le _,rfl⟩
 case round =>
  obtain ⟨j,rfl,hj,rfl⟩:=hrel;by_cases hjn:j<x.length
  ·obtain ⟨b1,o1,rfl,hc1⟩:=Hcx.out j _ (zaF hjn);obtain ⟨b2,o2,rfl,hc2⟩:=Hcv.out j _ (zaF (by rw [Hvl.out];exact hjn));have h1:=Hbd.out j hj;have h2:=Hb.out j hjn;have h3:=Hsu.out j;have hlz:(x.length:Int)≤1000:=(by omega);have hjz:(j:Int) * 1000000000000≤1000000000000000:=(by omega);obtain ⟨h4,h5⟩:=h1;obtain ⟨h6,h7⟩:=h2;have h8:-1000000000000000≤zmN v x j:=(by omega);have h9:zmN v x j≤1000000000000000:=(by omega);have hj0:(0:Int)≤(j:Int):=(by omega);have hj1:(j:Int)<(x.length:Int):=(by omega);have hj2:(j:Int)<(v.length:Int):=(by have:=Hvl.out;omega);have H3:=hid h3;clear h3;clear h4 h5 hjz hlz;generalize zmN v x j=s at *;generalize zaD v j=zv at *;generalize zaD x j=zx at *;go_wp2_with fail
   go_round
   case rel=>exact ⟨j+1,by go_num,hjn,by rw [H3.out]⟩
   case measure=>simp [za6];omega
  ·have hjl:j=x.length:=(by omega);have hnj:¬ (j:Int)<(x.length:Int):=(by omega);subst hjl;go_wp2
   go_ret
   exact ⟨rfl,rfl⟩
theorem zmS {v:List Int}{l:List (List Int)}{k:Nat}(hk:k<l.length)(h:∀ i,i<k→(zgf v (l.getD i []) != ((i+1:Nat):Int))=false)(hw:(zgf v (l.getD k []) != ((k+1:Nat):Int))=true):zgg v l=k+1:=by
 unfold zgg;have:(List.range l.length).find? (fun i=>zgf v (l.getD i []) != ((i+1:Nat):Int))=some k:=by
  rw [List.find?_range_eq_some];exact ⟨hw,List.mem_range.2 hk,fun j hj=>by rw [h j hj];rfl⟩
 rw [this];rfl
theorem zmT {v:List Int}{l:List (List Int)}(h:∀ i,i<l.length→(zgf v (l.getD i []) != ((i+1:Nat):Int))=false):zgg v l=0:=by
 unfold zgg;have:(List.range l.length).find? (fun i=>zgf v (l.getD i []) != ((i+1:Nat):Int))=none:=by
  rw [List.find?_range_eq_none];intro i hi;rw [h i hi];rfl
 rw [this];rfl
theorem zmU (g:Nat)(cb:Array Value)(vp vl:Value)(v:List Int)(l:List (List Int))(w:World)(hl:Mat w vl l)(hll:l.length≤1000)
  (eg:∀ args w,(callFunc g args).run Tryz.prog w=.ok (.enter g args) w)
  (hc:∀ W,Ext w W→∀ i u,i<l.length→Sl W u (zaA (l.getD i []))→Calls Tryz.prog g (#[.int .i64 ((i:Int)+1),u]++cb) W fun e w'=>e=.returned (.bool (zgf v (l.getD i []) != ((i+1:Nat):Int)))∧Ext W w') :
  Calls Tryz.prog 28 #[.agg #[vp,vl],.func (.func g) #[] cb] w fun e w'=>e=.returned (.int .i64 (zgg v l))∧Ext w w':=by
 obtain ⟨vs,hvl,hvs,hrows⟩:=hl;obtain ⟨am,cm,rfl,_,_,hcm⟩:=hvs.parts;rw [hvl];have hbox:=zmy w vp (.slice am l.length cm) 32;have hE0:Ext w (w.alloc (.cells #[vp,.slice am l.length cm] 32)):=(Ext.refl w).alloc _;have hwa:=fun k (hk:k<l.length)=>zmS (v:=v) (l:=l) (k:=k) hk;have hwn:=zmT (v:=v) (l:=l);clear hvs;obtain ⟨q0,q1⟩:=hbox _ (Ext.refl _);have Hbox:=hid hbox;have HE0:=hid hE0;have Hcm:=hid hcm;have Hrows:=hid hrows;have Hvl:=hid hvl;have Hwa:=hid hwa;have Hwn:=hid hwn;have Hc:=hid hc;clear hbox hE0 hcm hrows hvl hwa hwn hc;go_enter Tryz.func28,Tryz.ntmps28
 go_wp2_with fail
 clear q0 q1;go_loopw [10] (fun v10 wr=>∃ k:Nat,v10=.int .i64 k∧k≤l.length∧Hid (∀ i,i<k→(zgf v (l.getD i []) != ((i+1:Nat):Int))=false)∧Hid (Ext w wr)) (fun v10 _=>l.length - (za6 v10).toNat)
 case atStart=>exact ⟨0,rfl,Nat.zero_le _,hid (fun i hi=>by omega),HE0⟩
 case round =>
  obtain ⟨k,rfl,hk,HN,HE⟩:=hrel;by_cases hkn:k<l.length
  ·obtain ⟨u,hu⟩:∃ u,vs[k]?=some u:=⟨_,List.getElem?_eq_getElem (by rw [Hvl.out];exact hkn)⟩;obtain ⟨bl,off,rfl,hcu⟩:=Hcm.out k u hu;have hru:=Hrows.out k u hu;have h1:=Hc.out wr HE.out k u hkn (HE.out.sl hru);obtain ⟨ax,cx,rfl,_,_,_⟩:=hru.parts;have hcw:=HE.out.cell hcu;generalize (zaA (l.getD k [])).length=lx at *;have hwa2:=Hwa.out k hkn HN.out;have hk1:(0:Int)≤(k:Int):=(by omega);have hk2:(k:Int)<(l.length:Int):=by omega
   cases hz:(zgf v (l.getD k []) != ((k+1:Nat):Int))
   ·rw [hz] at h1;have H1:=hid h1;have Hz:=hid hz;clear h1 hz;clear hcu hru hu hwa2;go_wp2_with fail
    go_at_fn g
    refine H1.out.mono ?_;rintro e w3 ⟨rfl,hx3⟩;have Hx3:=hid hx3;clear hx3;go_wp2_with fail
    go_roundw
    case rel =>
     refine ⟨k+1,by go_num,hkn,hid (fun i hi=>?_),hid (HE.out.trans Hx3.out)⟩;rcases Nat.lt_or_ge i k with q | q
     ·exact HN.out i q
     ·obtain rfl:i=k:=by omega
      exact Hz.out
    case measure=>simp [za6];omega
   ·rw [hz] at h1;have hw9:=hwa2 hz;have H1:=hid h1;have Hw9:=hid hw9;clear h1 hw9;clear hcu hru hu hwa2 hz;go_wp2_with fail
    go_at_fn g
    refine H1.out.mono ?_;rintro e w3 ⟨rfl,hx3⟩;have Hx3:=hid hx3;clear hx3;go_wp2
    go_ret
    exact ⟨by rw [Hw9.out] <;> rfl,HE.out.trans Hx3.out⟩
  ·have hkl:k=l.length:=(by omega);have hnk:¬ (k:Int)<(l.length:Int):=(by omega);have hw9:=Hwn.out (fun i hi=>HN.out i (by omega));have Hw9:=hid hw9;clear hw9;clear hkl;go_wp2
   go_ret
   exact ⟨by rw [Hw9.out] <;> rfl,HE.out⟩
theorem zmV (b:Nat)(vv u:Value)(v x:List Int)(i:Int)(w:World)(hc:w.cell? ⟨b,0,none⟩=some vv)(hv:Sl w vv (zaA v))(hx:Sl w u (zaA x))(hl:x.length=v.length)(hn:x.length≤1000)(hb:∀ i,i<x.length→-1000000000000≤zaD v i * zaD x i∧zaD v i * zaD x i≤1000000000000) :
  Calls Tryz.prog 46 #[.int .i64 i,u,.pointer (some ⟨b,0,none⟩)] w fun e w'=>e=.returned (.bool (zgf v x != i))∧Ext w w':=by
 have hst:=zmR vv u v x w hv hx hl hn hb;obtain ⟨av,cv,rfl,_,_,_⟩:=hv.parts;obtain ⟨ax,cx,rfl,_,_,_⟩:=hx.parts;generalize zgf v x=s at *;have Hst:=hid hst;clear hst;clear hv hx
 cases hq:(s != i)
 all_goals
  go_enter Tryz.func46,Tryz.ntmps46
  go_wp2_with fail
  refine Hst.out.mono ?_;rintro e w3 ⟨rfl,rfl⟩;go_wp2
  go_ret
  exact ⟨rfl,Ext.refl _⟩
theorem zmW : ∀ args w,(callFunc 46 args).run Tryz.prog w=.ok (.enter 46 args) w:=enters_of Tryz.func46 (by kernel_rfl) rfl
def zmX (T:TypeId)(w:World)(b:Nat)(u v:Value):Prop:=w.heap[b]?=some (.cells #[u,v] T (0,0))
section
variable {T : TypeId} {w w' : World} {b c : Nat} {u v : Value}
theorem zmX.new (T:TypeId)(w:World)(u v:Value):zmX T (w.alloc (.cells #[u,v] T)) w.heap.size u v:=World.alloc_heap_new w _
theorem zmX.ext (hx:Ext w w')(h:zmX T w b u v):zmX T w' b u v:=hx.heap h
theorem zmX.c0 (h:zmX T w b u v):w.cell? ⟨b,0,none⟩=some u:=by unfold World.cell?;dsimp only;rw [h];rfl
theorem zmX.c1 (h:zmX T w b u v):w.cell? ⟨b,1,none⟩=some v:=by unfold World.cell?;dsimp only;rw [h];rfl
theorem zmX.fz (h:zmX T w b u v)(k:Nat):w.frozen? ⟨b,k,none⟩=false:=frozen_of_row w b k #[u,v] _ h
theorem zmX.lt (h:zmX T w b u v):b<w.heap.size:=(Array.getElem?_eq_some_iff.1 h).1
theorem zmX.put (h:zmX T w c u v)(x y:Value):zmX T ((w.setCell ⟨c,0,none⟩ x).setCell ⟨c,1,none⟩ y) c x y :=
 heap_setCell_same _ c 1 _ _ y (heap_setCell_same w c 0 _ _ x h)
theorem zmX.past1 (h:zmX T w b u v)(k:Nat)(hne:b ≠ c)(x:Value):zmX T (w.setCell ⟨c,k,none⟩ x) b u v:=(heap_setCell_other w ⟨c,k,none⟩ b x hne).trans h
theorem zmX.past (h:zmX T w b u v)(hne:b ≠ c)(x y:Value):zmX T ((w.setCell ⟨c,0,none⟩ x).setCell ⟨c,1,none⟩ y) b u v:=(h.past1 0 hne x).past1 1 hne y
end
def zmY (T:TypeId)(w:World)(c:Nat):Prop:=∃ u v,zmX T w c u v
section
variable {T : TypeId} {w w' w2 : World} {b c : Nat} {u v : Value}
theorem zmY.ext (hx:Ext w w')(h:zmY T w c):zmY T w' c:=by
 obtain ⟨u,v,h⟩:=h;exact ⟨u,v,h.ext hx⟩
theorem zmY.c0 (h:zmY T w c):w.cell? ⟨c,0,none⟩=some (zeL w c 0):=by
 obtain ⟨u,v,h⟩:=h;unfold zeL;rw [h.c0];rfl
theorem zmY.c1 (h:zmY T w c):w.cell? ⟨c,1,none⟩=some (zeL w c 1):=by
 obtain ⟨u,v,h⟩:=h;unfold zeL;rw [h.c1];rfl
theorem zmY.fz (h:zmY T w c)(k:Nat):w.frozen? ⟨c,k,none⟩=false:=by
 obtain ⟨u,v,h⟩:=h;exact h.fz k
structure K0 (T:TypeId)(w w':World)(c:Nat):Prop where
 x:Ext w w'
 res:zmY T w' c
theorem K0.ext (h:K0 T w w' c)(hx:Ext w' w2):K0 T w w2 c:=⟨h.x.trans hx,h.res.ext hx⟩
theorem K0.fin (h:K0 T w w' c)(hc:w.heap.size≤c)(x y:Value):zmX T ((w'.setCell ⟨c,0,none⟩ x).setCell ⟨c,1,none⟩ y) c x y∧Ext w ((w'.setCell ⟨c,0,none⟩ x).setCell ⟨c,1,none⟩ y):=by
 obtain ⟨u',v',h'⟩:=h.res;exact ⟨h'.put x y,(h.x.setCell hc _).setCell hc _⟩
theorem K0.set (h:K0 T w w' c){b:Nat}(hb:w.heap.size≤b)(hne:c ≠ b)(k:Nat)(x:Value):K0 T w (w'.setCell ⟨b,k,none⟩ x) c:=by
 obtain ⟨u',v',h'⟩:=h.res;exact ⟨h.x.setCell hb _,u',v',h'.past1 k hne x⟩
end
structure K2 (T1 T2 TR:TypeId)(w w':World)(b1:Nat)(u1 v1:Value)(b2:Nat)(u2 v2:Value)(c:Nat):Prop where
 x:Ext w w'
 a:zmX T1 w' b1 u1 v1
 b:zmX T2 w' b2 u2 v2
 res:zmY TR w' c
section
variable {T1 T2 TR : TypeId} {w w' w2 : World} {b1 b2 c : Nat} {u1 v1 u2 v2 : Value}
theorem K2.ext (h:K2 T1 T2 TR w w' b1 u1 v1 b2 u2 v2 c)(hx:Ext w' w2):K2 T1 T2 TR w w2 b1 u1 v1 b2 u2 v2 c:=⟨h.x.trans hx,h.a.ext hx,h.b.ext hx,h.res.ext hx⟩
theorem K2.put (h:K2 T1 T2 TR w w' b1 u1 v1 b2 u2 v2 c)(hc:w.heap.size≤c)(h1:b1 ≠ c)(h2:b2 ≠ c)(x y:Value):K2 T1 T2 TR w ((w'.setCell ⟨c,0,none⟩ x).setCell ⟨c,1,none⟩ y) b1 u1 v1 b2 u2 v2 c:=by
 obtain ⟨u,v,hr⟩:=h.res;exact ⟨(h.x.setCell hc _).setCell hc _,h.a.past h1 x y,h.b.past h2 x y,x,y,hr.put x y⟩
theorem K2.fin (h:K2 T1 T2 TR w w' b1 u1 v1 b2 u2 v2 c)(hc:w.heap.size≤c)(x y:Value):zmX TR ((w'.setCell ⟨c,0,none⟩ x).setCell ⟨c,1,none⟩ y) c x y∧Ext w ((w'.setCell ⟨c,0,none⟩ x).setCell ⟨c,1,none⟩ y):=by
 obtain ⟨u',v',h'⟩:=h.res;exact ⟨h'.put x y,(h.x.setCell hc _).setCell hc _⟩
theorem K2.all (h:K2 T1 T2 TR w w' b1 u1 v1 b2 u2 v2 c):K2 T1 T2 TR w w' b1 u1 v1 b2 u2 v2 c∧w'.cell? ⟨b1,0,none⟩=some u1∧w'.cell? ⟨b1,1,none⟩=some v1∧w'.cell? ⟨b2,0,none⟩=some u2∧w'.cell? ⟨b2,1,none⟩=some v2∧w'.cell? ⟨c,0,none⟩=some (zeL w' c 0)∧w'.cell? ⟨c,1,none⟩=some (zeL w' c 1)∧w'.frozen? ⟨c,0,none⟩=false∧w'.frozen? ⟨c,1,none⟩=false :=
 ⟨h,h.a.c0,h.a.c1,h.b.c0,h.b.c1,h.res.c0,h.res.c1,h.res.fz 0,h.res.fz 1⟩
end
end
end Go.Proofs.YtkdgmahilfnnmaaGreatDoor
