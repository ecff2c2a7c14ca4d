/- Walk: table.Rank where the plain one answers. (KEEPALL) Walk: epimorphism.Check. (KEEPALL) Walk: Set.independent where the plain one answers. (KEEPALL) Walk: smith's sized at a right matrix and a right row. -/
import Derived.Test.YtkdgmahilfnnmaaGreatDoorPa20
import Derived.Test.YtkdgmahilfnnmaaGreatDoorPa14
import Derived.Shelf.SlicesE.Clone
import Derived.Test.YtkdgmahilfnnmaaGreatDoorPa18
set_option maxRecDepth 100000
set_option maxHeartbeats 4000000
namespace Go.Proofs.YtkdgmahilfnnmaaGreatDoor
section
open Go.RowKit Go.Lib Go.Shelf
theorem zmv (vm:Value)(m:List (List Int))(n k r:Nat)(w:World)(he:Env w)(hm:Mat w vm m)(hk:m.length=k)(hk0:0<k)(hk9:k≤1000)(hn0:0<n)(hn9:n≤1000)(hrec:∀ r∈m,r.length=n)(hb:∀ r∈m,∀ z∈r,-9223372036854775808≤z∧z≤9223372036854775807)(ht:zjh m=0)(hrun:zfN m=some r) :
  Calls Tryz.prog 68 #[vm] w fun e w'=>e=.returned (.tuple #[.int .i64 r,.int .i64 0])∧Ext w w':=by
 have hg0:(m.getD 0 []).length=n:=by
  rw [List.getD_eq_getElem?_getD,List.getElem?_eq_getElem (by omega)];exact hrec _ (List.getElem_mem _)
 have hrow:∀ i,(m.getD i []).length≤1000000:=fun i=>by
  rw [List.getD_eq_getElem?_getD]
  cases h:m[i]? with
  | none=>exact Nat.zero_le _
  | some r=>have:=hrec r (List.mem_of_getElem? h);simp only [Option.getD_some];omega
 have htc:=zjj vm m w hm hrow (by omega);rw [ht] at htc;have hco:=fun W (hE:Ext w W)=>zle vm m n W (hE.mat hm) (by omega) hg0 (by omega);have hro:=fun W (hE:Ext w W)=>zlu vm m n W (he.ext hE) (hE.mat hm) hrec hn0 (by omega) (by omega) hb;obtain ⟨sF,hsF,hrF⟩:∃ s,zfL (List.range n) ⟨m.map zfM,[],1⟩=some s∧s.ld.length=r:=by
  unfold zfN at hrun;rw [hg0] at hrun
  cases h:zfL (List.range n) ⟨m.map zfM,[],1⟩ with
  | none=>rw [h] at hrun;cases hrun
  | some s=>rw [h] at hrun;exact ⟨s,rfl,Option.some.inj hrun⟩
 have hrq:zl2 (m.map zfM) n:=fun x hx=>by
  obtain ⟨y,hy,rfl⟩:=List.mem_map.1 hx;unfold zfM;rw [List.length_map];exact hrec y hy
 obtain ⟨vs,hvl,hvs,_⟩:=hm;obtain ⟨am,cm,rfl,_,_,_⟩:=hvs.parts;rw [hvl,hk] at htc hco hro ⊢;have Htc:=hid htc;have Hco:=hid hco;have Hro:=hid hro;have HsF:=hid hsF;have HrF:=hid hrF;have Hrq:=hid hrq;have Hk:=hid hk;have He:=hid he;clear htc hco hro hsF hrF hrq hk hvl hvs hrow hg0 ht hrun hrec hb he;go_enter Tryz.func68,Tryz.ntmps68
 go_wp2_with fail
 refine Htc.out.mono ?_;rintro e w1 ⟨rfl,hx1⟩;have Hx1:=hid hx1;clear hx1;go_wp2_with fail
 refine (Hro.out w1 Hx1.out).mono ?_;rintro e w2 ⟨v2,rfl,ls,hG,hlx,hx2⟩;have hll:ls.length=k:=by
  have:=congrArg List.length hlx;rw [List.length_map,List.length_map,Hk.out] at this;exact this
 obtain ⟨gs,cap,e2,hgd⟩:=hG.gd (by omega);subst e2;rw [hll];have Hgd:=hid hgd;have Hlx:=hid hlx;have Hx2:=hid (Hx1.out.trans hx2);clear hG hgd hlx hx2 hll;go_wp2_with fail
 refine (Hco.out w2 Hx2.out).mono ?_;rintro e w3 ⟨rfl,hx3⟩;have hg3:=Hgd.out.ext hx3;have hgq:GQ w w1.heap.size w3.heap.size gs cap (m.map zfM) w3:=⟨ls,hg3,Hlx.out,fun e he=>(hg3.rowB he).2,hg3.gsB.2,Hx1.out.size,Hx2.out.trans hx3⟩;have hrd:=zmu w w3 w1.heap.size gs cap k n (m.map zfM) sF He.out hgq (by rw [List.length_map];exact Hk.out) Hrq.out hn9 hk9 hn0 (Hx2.out.trans hx3).size HsF.out;have Hrd:=hid hrd;clear hg3 hgq hrd hx3;go_wp2_with fail
 refine Hrd.out.mono ?_;rintro e w4 ⟨v,s1,s2,rfl,du,dv,hrs⟩;obtain ⟨a,c,ev⟩:=zcN hrs.l;subst ev;have Hx4:=hid hrs.x;rw [HrF.out];clear hrs;have hb5:=zeK.new w4 (.string ⟨#[]⟩) (.string ⟨#[]⟩);have z0:=hb5.fz 0;have z1:=hb5.fz 1;have c0:=hb5.c0;have c1:=hb5.c1;clear hb5;go_wp2
 go_ret2
 exact ⟨rfl,Hx4.out.alloc _⟩
end
section
open Go.RowKit Go.Lib
theorem zmw {p:List Int}(h:zcG p=0):zhe p (ziG p.length)=0:=by
 unfold zhe zgW;rw [if_neg (by simpa using h),zgV];have hr:zgU p.length (ziG p.length)=0:=by
  unfold zgU ziG;rw [if_neg (by simp),if_neg];intro q;obtain ⟨z,hz,hf⟩:=List.any_eq_true.1 q;obtain rfl:=List.eq_of_mem_replicate hz;exact absurd hf (by decide)
 rw [if_neg (by simpa using hr)];rfl
theorem zmx {p b:List Int}{l:List (List Int)}{k:Nat}(hk:k<l.length):ziH p b (l.drop k)=if zhe p (l.getD k []) ≠ 0 then zhe p (l.getD k []) else if 0≤ziC p b (l.getD k []) then 6 else ziH p (l.getD k []) (l.drop (k+1)):=by
 rw [List.drop_eq_getElem_cons hk,ziH,List.getD_eq_getElem?_getD,List.getElem?_eq_getElem hk];rfl
theorem zmy (w:World)(u v:Value)(t:TypeId):∀ W,Ext (w.alloc (.cells #[u,v] t)) W→W.cell? ⟨w.heap.size,0,none⟩=some u∧W.cell? ⟨w.heap.size,1,none⟩=some v:=fun W hE=>by
 have bx:(w.alloc (.cells #[u,v] t)).heap[w.heap.size]?=some (.cells #[u,v] t (0,0)):=World.alloc_heap_new w _;have hb:=hE.heap bx;unfold World.cell?;dsimp only;rw [hb];exact ⟨rfl,rfl⟩
theorem zmz (vp vl:Value)(p:List Int)(l:List (List Int))(w:World)(he:Env w)(hp:Sl w vp (zaA p))(hl:Mat w vl l)(hlp:p.length≤1000)(hll:l.length≤1000)(hrow:∀ i,(l.getD i []).length≤1000) :
  Calls Tryz.prog 14 #[.agg #[vp,vl]] w fun e w'=>e=.returned (.int .i64 (ziI p l))∧Ext w w':=by
 obtain ⟨i0,hi,hz0,hz1,hz2⟩:=info_parts zcL;have hpr:=fun W (hE:Ext w W)=>zcH vp p W (hE.sl hp) (by omega);have hck:=fun k u W (hE:Ext w W)(hu:Sl W u (zaA (l.getD k [])))=>zhf vp u p (l.getD k []) W (hE.sl hp) hu (by omega) (by have:=hrow k;omega);have hcm:=fun k u vb (b:List Int) W (hE:Ext w W)(hu:Sl W u (zaA (l.getD k [])))(hb:Sl W vb (zaA b))(hbl:b.length≤1000)=>ziV vp vb u p b (l.getD k []) W (he.ext hE) (hE.sl hp) hb hu (by omega) (by omega) (by have:=hrow k;omega);obtain ⟨ap,cp,rfl,_,_,_⟩:=hp.parts;obtain ⟨vs,hvl,hvs,hrows⟩:=hl;obtain ⟨am,cm,rfl,_,_,hc⟩:=hvs.parts;rw [zaC] at hpr hck hcm ⊢;rw [hvl];have hbox:=zmy w (.slice ap p.length cp) (.slice am l.length cm) 32;have hE0:Ext w (w.alloc (.cells #[.slice ap p.length cp,.slice am l.length cm] 32)):=(Ext.refl w).alloc _;clear hp hvs he;have Hpr:=hid hpr;have Hck:=hid hck;have Hcm:=hid hcm;have Hbox:=hid hbox;have HE0:=hid hE0;have Hc:=hid hc;have Hrows:=hid hrows;have Hrow:=hid hrow;have Hvl:=hid hvl;clear hpr hck hcm hbox hE0 hc hrows hrow hvl;unfold ziI;by_cases h1:zcG p=0
 ·rw [if_neg (by simpa using h1)];have hone:=zmw h1;rw [h1] at Hpr;have Hone:=hid hone;clear hone;clear h1;by_cases h2:l.length=0
  ·rw [if_pos h2];generalize l.length=L at *;subst h2;obtain ⟨q0,q1⟩:=Hbox.out _ (Ext.refl _);go_enter Tryz.func14,Tryz.ntmps14
   go_wp2_with fail
   refine (Hpr.out _ HE0.out).mono ?_;rintro e w1 ⟨rfl,rfl⟩;go_wp2
   go_ret
   exact ⟨rfl,HE0.out⟩
  ·rw [if_neg h2];have h2b:((l.length:Int) == 0)=false:=beq_eq_false_iff_ne.2 (by omega);by_cases h3:60<l.length
   ·rw [if_pos h3];obtain ⟨q0,q1⟩:=Hbox.out _ (Ext.refl _);go_enter Tryz.func14,Tryz.ntmps14
    go_wp2_with fail
    refine (Hpr.out _ HE0.out).mono ?_;rintro e w1 ⟨rfl,rfl⟩;go_wp2
    go_ret
    exact ⟨rfl,HE0.out⟩
   ·rw [if_neg h3];obtain ⟨q0,q1⟩:=Hbox.out _ (Ext.refl _);go_enter Tryz.func14,Tryz.ntmps14
    go_wp2_with fail
    refine (Hpr.out _ HE0.out).mono ?_;rintro e w1 ⟨rfl,rfl⟩;go_wp2_with (at_make;refine wpList_make_full _ rfl _ _ 26 rfl w.heap.size 3 i0 (.int .i64 0) 1 Tryz.underlying26 hi hz0 hz1 _ _ _ _ p.length rfl rfl rfl rfl (by rw [hz2];omega) (by unfold maxLen;omega) (by rw [World.size_alloc];omega) ?_;intro w1 hown hgrow;obtain ⟨s0,s1⟩:=Hbox.out _ ((Ext.refl _).grown hgrow (by simp)))
    rw [World.size_alloc] at hown;have hE1:Ext (w.alloc (.cells #[.slice ap p.length cp,.slice am l.length cm] 32)) w1:=(Ext.refl _).grown hgrow (by simp);have hown1:Sl w1 (.slice (some ⟨w.heap.size+1,0,none⟩) p.length p.length) (zaA (ziG p.length)):=by
     have hzz:(ziG p.length).length=p.length:=List.length_replicate;have e:zaA (ziG p.length)=(madeCells #[Value.int .i64 0] (p.length * 1)).toList:=by
      unfold ziG;rw [Nat.mul_one,toList_madeCells_one];simp [zaA]
     have h3:zcM w1 w.heap.size (.slice (some ⟨w.heap.size+1,0,none⟩) p.length p.length) (ziG p.length):=by
      unfold zcM;rw [hzz,e];exact hown
     exact h3.sl
    have HE1:=hid hE1;have Hown1:=hid hown1;clear hE1 hown1;clear hown hgrow s0 s1 q0 q1;go_loopw [4,33] (fun v4 v33 wr=>∃ (k:Nat)(b:List Int)(a:Option Addr)(c:Nat),v33=.int .i64 k∧k≤l.length∧v4=.slice a p.length c∧Hid (Sl wr (.slice a p.length c) (zaA b))∧Hid (b.length=p.length∧zhe p b=0)∧Hid (ziH p (ziG p.length) l=ziH p b (l.drop k))∧Hid (Ext w1 wr)) (fun _ v33 _=>l.length - (za6 v33).toNat)
    case atStart=>exact ⟨0,ziG p.length,_,_,rfl,Nat.zero_le _,rfl,Hown1,hid ⟨List.length_replicate,Hone.out⟩,hid rfl,hid (Ext.refl _)⟩
    case round =>
     obtain ⟨k,b,ab,cb,rfl,hk,rfl,HB,HL,HF,HE⟩:=hrel;have hEw:=(HE0.out.trans HE1.out).trans HE.out;by_cases hkn:k<l.length
     ·obtain ⟨u,hu⟩:∃ u,vs[k]?=some u:=⟨_,List.getElem?_eq_getElem (by rw [Hvl.out];exact hkn)⟩;obtain ⟨bl,off,rfl,hcu⟩:=Hc.out k u hu;have hru:=Hrows.out k u hu;obtain ⟨ax,cx,rfl,_,_,_⟩:=hru.parts;rw [zaC] at hcu hru;have hcw:=hEw.cell hcu;obtain ⟨q0,q1⟩:=Hbox.out wr (HE1.out.trans HE.out);have hdrop:=zmx (p:=p) (b:=b) hkn;have hk1:(0:Int)≤(k:Int):=(by omega);have hk2:(k:Int)<(l.length:Int):=(by omega);have hb2:=fun W (hx:Ext wr W)=>Hbox.out W ((HE1.out.trans HE.out).trans hx);have h1:=Hck.out k _ wr hEw (hEw.sl hru);have h2:=fun W (hx:Ext wr W)=>Hcm.out k _ _ b W (hEw.trans hx) ((hEw.trans hx).sl hru) (hx.sl HB.out) (by have:=HL.out.1;omega);have hru2:=fun W (hx:Ext wr W)=>(hEw.trans hx).sl hru;have Hdrop:=hid hdrop;have H1:=hid h1;have H2:=hid h2;have Hb2:=hid hb2;have Hru2:=hid hru2;clear hdrop h1 h2 hb2 hru2;clear hcu hru hu;by_cases he0:zhe p (l.getD k [])=0
      ·have hxl:(l.getD k []).length=p.length:=(zhq (zhr he0).2).1;have ht0:=ziS HL.out.2 he0;rw [he0] at H1;rw [hxl,ht0] at H2;rw [hxl] at H1 Hru2 hcw;have hce:ziT p b (l.getD k [])=ziC p b (l.getD k []):=(by unfold ziT;rw [if_neg (by simpa using ht0)]);rw [hce] at H2;have hd2:=Hdrop.out;rw [if_neg (by simpa using he0)] at hd2;have Hd2:=hid hd2;have Hxl:=hid hxl;have He0:=hid he0;clear hd2 hxl he0;clear Hdrop ht0 hce;go_wp2_with fail
       refine H1.out.mono ?_;rintro e w3 ⟨rfl,hx3⟩;obtain ⟨s0,s1⟩:=Hb2.out w3 hx3;have Hx3:=hid hx3;clear hx3;clear q0 q1 hcw;go_wp2_with fail
       refine (H2.out w3 Hx3.out).mono ?_;rintro e w4 ⟨rfl,hx4⟩;have Hx4:=hid (Hx3.out.trans hx4);clear hx4 s0 s1;generalize ziC p b (l.getD k [])=z at *;by_cases hz:0≤z
       ·have hdd:=Hd2.out;rw [if_pos hz] at hdd;have hfin:=HF.out.trans hdd;have Hfin:=hid hfin;clear hfin hdd;go_wp2
        go_ret
        exact ⟨by rw [Hfin.out] <;> rfl,hEw.trans Hx4.out⟩
       ·have hdd:=Hd2.out;rw [if_neg hz] at hdd;have hfin:=HF.out.trans hdd;have Hfin:=hid hfin;have hzd:decide (z ≥ 0)=false:=decide_eq_false hz;clear hfin hdd;go_wp2_with fail
        go_roundw
        case rel=>exact ⟨k+1,l.getD k [],_,_,by go_num,hkn,rfl,hid (Hru2.out _ Hx4.out),hid ⟨Hxl.out,He0.out⟩,Hfin,hid (HE.out.trans Hx4.out)⟩
        case measure=>simp [za6];omega
      ·have hd2:=Hdrop.out;rw [if_pos he0] at hd2;have hfe:=HF.out.trans hd2;have het:(zhe p (l.getD k []) != 0)=true:=(by rw [bne_iff_ne];exact he0);have Hfe:=hid hfe;clear hfe;clear Hdrop hd2 H2 Hru2 Hb2 HF;generalize zhe p (l.getD k [])=r at *;generalize (l.getD k []).length=L at *;clear he0;go_wp2_with fail
       refine H1.out.mono ?_;rintro e w3 ⟨rfl,hx3⟩;have Hx3:=hid hx3;clear hx3;clear q0 q1 hcw;go_wp2
       go_ret
       exact ⟨by rw [Hfe.out] <;> rfl,hEw.trans Hx3.out⟩
     ·have hkl:l.length=k:=(by omega);have hnk:¬ (k:Int)<(l.length:Int):=(by omega);have hf:=HF.out;rw [List.drop_eq_nil_of_le (by omega)] at hf;rw [ziH] at hf;have Hf:=hid hf;clear hf;clear hkl;go_wp2
      go_ret
      exact ⟨by rw [Hf.out] <;> rfl,hEw⟩
 ·rw [if_pos h1];have ht:(zcG p != 0)=true:=by rw [bne_iff_ne];exact h1
  obtain ⟨q0,q1⟩:=Hbox.out _ (Ext.refl _);generalize zcG p=r at *;clear h1;go_enter Tryz.func14,Tryz.ntmps14
  go_wp2_with fail
  refine (Hpr.out _ HE0.out).mono ?_;rintro e w1 ⟨rfl,rfl⟩;go_wp2
  go_ret
  exact ⟨rfl,HE0.out⟩
end
section
open Go.RowKit Go.Lib Go.Shelf
theorem zm2 {c:Nat}{s s':RdS}(h:zfK c s=some s'):s'.ld.length≤s.ld.length+1:=by
 unfold zfK at h;split at h
 ·dsimp only at h;split at h
  ·obtain rfl:=Option.some.inj h;exact Nat.le_succ _
  ·obtain rfl:=Option.some.inj h;show (s.ld++[c]).length≤_;rw [List.length_append];exact Nat.le_refl _
 ·cases h
theorem zm3 : ∀ {cs:List Nat}{s s':RdS},zfL cs s=some s'→s'.ld.length≤s.ld.length+cs.length
 | [],s,s',h=>by
  obtain rfl:=Option.some.inj h;exact Nat.le_refl _
 | c::cs,s,s',h=>by
  rw [zfL] at h
  cases hs:zfK c s with
  | none=>rw [hs] at h;cases h
  | some t =>
   rw [hs] at h
   have:=zm2 hs
   have:=zm3 h
   rw [List.length_cons]
   omega
theorem zm4 {m:List (List Int)}{r:Nat}(h:zfN m=some r):r≤(m.getD 0 []).length:=by
 unfold zfN at h
 cases hr:zfL (List.range (m.getD 0 []).length) ⟨m.map zfM,[],1⟩ with
 | none=>rw [hr] at h;cases h
 | some s =>
  rw [hr] at h
  obtain rfl:=Option.some.inj h
  have:=zm3 hr
  rw [List.length_range] at this
  simpa using this
theorem zm5 {x:List Int}{l m:List (List Int)}{i:Nat}{a:List Int}{R:List (List Int) × List Int}(h:zgd (x::l) i m a=some R) :
  ∃ r,zfN (m++[x])=some r∧(r=(m++[x]).length→zgd l (i+1) (m++[x]) (a++[((i+1:Nat):Int)])=some R)∧(r ≠ (m++[x]).length→zgd l (i+1) m a=some R):=by
 rw [zgd] at h
 cases hr:zfN (m++[x]) with
 | none=>rw [hr] at h;cases h
 | some r =>
  rw [hr] at h
  dsimp only at h
  refine ⟨r,rfl,fun e=>?_,fun e=>?_⟩
  ·rwa [if_pos e] at h
  ·rwa [if_neg e] at h
theorem zm6 {n:Nat}(hn:n≤12):∀ {m:List (List Int)},(∀ r∈m,r.length=n)→(∀ r∈m,∀ z∈r,-1000000000≤z∧z≤1000000000)→zjg n m=0
 | [],_,_=>rfl
 | x::m,h1,h2=>by
  have hx:zjf n x=0:=by
   unfold zjf;have:=h1 x (List.mem_cons_self ..);rw [if_neg (by omega),if_neg (by omega),if_neg];intro q;obtain ⟨z,hz,hf⟩:=List.any_eq_true.1 q;have:=h2 x (List.mem_cons_self ..) z hz;unfold zhx at hf;rw [decide_eq_true this] at hf
   cases hf
  rw [zjg,hx];simp only [ne_eq,not_true_eq_false,if_false];exact zm6 hn (fun r hr=>h1 r (List.mem_cons_of_mem _ hr)) fun r hr=>h2 r (List.mem_cons_of_mem _ hr)
theorem zm7 {n:Nat}{m:List (List Int)}(hn:n≤12)(hm:m.length≤12)(h0:0<m.length)(h1:∀ r∈m,r.length=n)(h2:∀ r∈m,∀ z∈r,-1000000000≤z∧z≤1000000000):zjh m=0:=by
 unfold zjh;have hg:(m.getD 0 []).length=n:=by
  rw [List.getD_eq_getElem?_getD,List.getElem?_eq_getElem h0];exact h1 _ (List.getElem_mem _)
 rw [if_neg (by omega),hg];exact zm6 hn h1 h2
theorem zm8 {B:Nat}(v:Value)(us:List Value)(w:World)(hx:w.ownsRow B 26 1 v us.length us)(hl:us.length≤1000)(h1:∀ u∈us,u.oneCell'=true) :
  Calls Tryz.prog 67 #[v] w fun e w'=>∃ v',e=.returned v'∧w'.ownsRow w.heap.size 26 1 v' us.length us∧Ext w w':=by
 obtain ⟨j0,hj,hy0,hy1,hy2⟩:=info_parts zkS;rcases hx.2 with ⟨rfl,h0⟩ | ⟨g,cap,cur,rfl,hb,hg,g1,g2,g3,g4⟩
 ·refine (AnyE.slices_Clone_nil Tryz.lCloneMx 0 0 w).mono fun e w' ⟨he,hw⟩=>⟨_,he,?_,by rw [hw];exact Ext.refl w⟩;have:us=[]:=List.eq_nil_of_length_eq_zero (by omega);rw [hw,this];exact World.ownsRow_nil w _ _ 1
 ·have hc:∀ i u,us[i]?=some u→w.cell? ⟨g,0+i,none⟩=some u:=fun i u hu=>by
   have:=World.ownsRow.cells hx (g:=g) rfl i u hu;rwa [show ((⟨g,0,none⟩:Addr).add i)=⟨g,0+i,none⟩ by unfold Addr.add;split <;> simp_all] at this
  refine (AnyE.slices_Clone Tryz.lCloneMx j0 (.slice none 0 0) 1 24 hj hy0 hy1 hy2 rfl (by decide) Tryz.sizeOf26 g 0 us.length cap us w (by omega) (by unfold maxLen;omega) (by omega) hc h1).mono fun e w' ⟨v',he,ho,_,hb⟩=>⟨v',he,ho,hb⟩
structure zm9 (w:World)(l:List (List Int))(n:Nat)(us:List Value)(m:List (List Int))(a:List Int)(v5 v6:Value)(wr:World):Prop where
 ul:us.length=m.length
 rd:∀ j u,us[j]?=some u→Sl w u (zaA (m.getD j []))
 o5:wr.ownsRow w.heap.size 26 1 v5 us.length us
 o6:zcM wr w.heap.size v6 a
 mem:∀ r∈m,r∈l
 few:m.length≤n
 al:a.length=m.length
 x:Ext w wr
section
variable {w wr V : World} {l m : List (List Int)} {n : Nat} {us : List Value} {a : List Int} {v5 v6 : Value}
theorem zm9.ext (h:zm9 w l n us m a v5 v6 wr)(hx:Ext wr V):zm9 w l n us m a v5 v6 V:=⟨h.ul,h.rd,hx.own h.o5,hx.ownI h.o6,h.mem,h.few,h.al,h.x.trans hx⟩
theorem zm9.mat (h:zm9 w l n us m a v5 v6 wr):Mat wr v5 m:=⟨us,h.ul,za8 h.o5,fun j u hu=>h.x.sl (h.rd j u hu)⟩
theorem zm9.one (h:zm9 w l n us m a v5 v6 wr):∀ u∈us,u.oneCell'=true:=fun u hu=>by
 obtain ⟨j,hj⟩:=List.mem_iff_getElem?.1 hu;obtain ⟨_,_,rfl,_,_,_⟩:=(h.rd j u hj).parts;rfl
theorem zm9.next {B:Nat}{u v7:Value}{x:List Int}(h:zm9 w l n us m a v5 v6 wr)(hu:Sl w u (zaA x))(hE:Ext w V)(ho:V.ownsRow B 26 1 v7 (us.length+1) (us++[u])):Mat V v7 (m++[x]):=by
 refine ⟨us++[u],by rw [List.length_append,List.length_append,h.ul];rfl,za8 ho,fun j z hz=>hE.sl ?_⟩;rcases Nat.lt_or_ge j us.length with g | g
 ·rw [List.getElem?_append_left g] at hz;have:=h.rd j z hz;rwa [show (m++[x]).getD j []=m.getD j [] by rw [List.getD_eq_getElem?_getD,List.getD_eq_getElem?_getD,List.getElem?_append_left (by rw [← h.ul];exact g)]]
 ·rw [List.getElem?_append_right g] at hz;have hl:=(List.getElem?_eq_some_iff.1 hz).1;simp only [List.length_singleton] at hl;have hi:j=us.length:=by omega
  subst hi;rw [Nat.sub_self] at hz;obtain rfl:=Option.some.inj hz;rwa [show (m++[x]).getD us.length []=x by rw [List.getD_eq_getElem?_getD,h.ul,List.getElem?_append_right (Nat.le_refl _),Nat.sub_self];rfl]
theorem zm9.nextRd {u:Value}{x:List Int}(h:zm9 w l n us m a v5 v6 wr)(hu:Sl w u (zaA x)):∀ j z,(us++[u])[j]?=some z→Sl w z (zaA ((m++[x]).getD j [])):=fun j z hz=>by
 rcases Nat.lt_or_ge j us.length with g | g
 ·rw [List.getElem?_append_left g] at hz;have:=h.rd j z hz;rwa [show (m++[x]).getD j []=m.getD j [] by rw [List.getD_eq_getElem?_getD,List.getD_eq_getElem?_getD,List.getElem?_append_left (by rw [← h.ul];exact g)]]
 ·rw [List.getElem?_append_right g] at hz;have hl:=(List.getElem?_eq_some_iff.1 hz).1;simp only [List.length_singleton] at hl;have hi:j=us.length:=by omega
  subst hi;rw [Nat.sub_self] at hz;obtain rfl:=Option.some.inj hz;rwa [show (m++[x]).getD us.length []=x by rw [List.getD_eq_getElem?_getD,h.ul,List.getElem?_append_right (Nat.le_refl _),Nat.sub_self];rfl]
end
theorem zmA (a:List Int)(z:Int):zaA (a++[z])=zaA a++[.int .i64 z]:=by unfold zaA;rw [List.map_append];rfl
theorem zmB (vp vl:Value)(l mF:List (List Int))(aF:List Int)(n L:Nat)(w:World)(he:Env w)(hl:Mat w vl l)(hL:l.length=L)(hL9:L≤1000)(hn0:0<n)(hn:n≤11)(hrec:∀ r∈l,r.length=n)(hfit:∀ r∈l,∀ z∈r,-1000000000≤z∧z≤1000000000)
  (hrun:zgd l 0 [] []=some (mF,aF)) (hm0:0<mF.length) :
  Calls Tryz.prog 44 #[.agg #[vp,vl]] w fun e w'=>∃ vt va,e=.returned (.tuple #[vt,va,.int .i64 0])∧Mat w' vt (zge mF)∧Sl w' va (zaA aF)∧mF.length≤n∧aF.length=mF.length∧(∀ r∈mF,r∈l)∧Ext w w':=by
 obtain ⟨i0,hi,hz0,hz1,hz2⟩:=info_parts zcL;obtain ⟨j0,hj,hy0,hy1,hy2⟩:=info_parts zkS;obtain ⟨vs,hvl,hvs,hrows⟩:=hl;obtain ⟨am,cm,rfl,_,_,hcm⟩:=hvs.parts;rw [hvl,hL];have hbox:=zmy w vp (.slice am L cm) 32;have hE0:Ext w (w.alloc (.cells #[vp,.slice am L cm] 32)):=(Ext.refl w).alloc _;have hck:∀ m:List (List Int),(∀ r∈m,r∈l)→0<m.length→m.length≤12→zjh m=0:=fun m h h0 h9=>zm7 (by omega) h9 h0 (fun r hr=>hrec r (h r hr)) fun r hr=>hfit r (h r hr);have hrk:∀ (vm:Value)(m:List (List Int))(r:Nat) W,Ext w W→Mat W vm m→(∀ r∈m,r∈l)→0<m.length→m.length≤12→zfN m=some r→Calls Tryz.prog 68 #[vm] W fun e w'=>e=.returned (.tuple #[.int .i64 r,.int .i64 0])∧Ext W w':=fun vm m r W hE hm h h0 h9 hr =>
  zmv vm m n m.length r W (he.ext hE) hm rfl h0 (by omega) hn0 (by omega) (fun r hr=>hrec r (h r hr)) (fun r hr z hz=>by have:=hfit r (h r hr) z hz;omega) (hck m h h0 h9) hr
 have hg0:∀ m:List (List Int),(∀ r∈m,r∈l)→0<m.length→(m.getD 0 []).length=n:=fun m h h0=>by
  rw [List.getD_eq_getElem?_getD,List.getElem?_eq_getElem h0];exact hrec _ (h _ (List.getElem_mem _))
 have htr:∀ (vm:Value)(m:List (List Int)) W,Mat W vm m→(∀ r∈m,r∈l)→0<m.length→m.length≤12→Calls Tryz.prog 69 #[vm] W fun e w'=>∃ v,e=.returned (.tuple #[v,.int .i64 0])∧∃ ls,GdM zlf 3 26 1 w' W.heap.size v ls∧ls.map GR.x=zge m∧Ext W w':=fun vm m W hm h h0 h9 =>
  zll vm m n m.length W hm rfl h0 (by omega) hn0 (by omega) (fun r hr=>hrec r (h r hr)) (hck m h h0 h9)
 obtain ⟨q0,q1⟩:=hbox _ (Ext.refl _);have hS0:zm9 w l n [] [] [] (.slice none 0 0) (.slice none 0 0) (w.alloc (.cells #[vp,.slice am L cm] 32)):=⟨rfl,fun j u h=>by simp at h,World.ownsRow_nil _ _ _ 1,World.ownsRow_nil _ _ _ 1,fun r h=>by simp at h,Nat.zero_le _,rfl,hE0⟩;clear hvs hck;have Hbox:=hid hbox;have HE0:=hid hE0;have Hcm:=hid hcm;have Hrows:=hid hrows;have Hvl:=hid hvl;have Hrk:=hid hrk;have Htr:=hid htr;have Hg0:=hid hg0;have HS0:=hid hS0;have Hrun:=hid hrun;have HL:=hid hL;have Hrec:=hid hrec;clear hbox hE0 hcm hrows hvl hrk htr hg0 hS0 hrun hL hrec;clear hfit he;go_enter Tryz.func44,Tryz.ntmps44
 go_wp2_with fail
 clear q0 q1;go_loopw [5,6,17] (fun v5 v6 v17 wr=>∃ (i:Nat)(us:List Value)(m:List (List Int))(a:List Int),v17=.int .i64 i∧i≤L∧Hid (zm9 w l n us m a v5 v6 wr)∧Hid (zgd (l.drop i) i m a=some (mF,aF))) (fun _ _ v17 _=>L - (za6 v17).toNat)
 case atStart=>exact ⟨0,[],[],[],rfl,Nat.zero_le _,HS0,Hrun⟩
 case round =>
  clear HS0 Hrun;obtain ⟨i,us,m,a,rfl,hiL,HS,HR⟩:=hrel;obtain ⟨a5,c5,e5⟩:=zcN HS.out.o5;obtain ⟨a6,c6,e6⟩:=zcN HS.out.o6;subst e5 e6;by_cases hin:i<L
  ·obtain ⟨x,hx⟩:∃ x,l[i]?=some x:=⟨_,List.getElem?_eq_getElem (by have:=HL.out;omega)⟩;obtain ⟨u,hu⟩:∃ u,vs[i]?=some u:=⟨_,List.getElem?_eq_getElem (by rw [Hvl.out,HL.out];exact hin)⟩;obtain ⟨bl,off,rfl,hcu⟩:=Hcm.out i u hu;have hru:=Hrows.out i u hu;rw [List.getD_eq_getElem?_getD,hx] at hru;simp only [Option.getD_some] at hru;have hmx:x∈l:=List.mem_of_getElem? hx;have hdr:l.drop i=x::l.drop (i+1):=by
    obtain ⟨h1,h2⟩:=List.getElem?_eq_some_iff.1 hx;rw [← h2];exact List.drop_eq_getElem_cons h1
   have hrr:=HR.out;rw [hdr] at hrr;obtain ⟨r,hr1,hr2,hr3⟩:=zm5 hrr;have hmm:∀ r∈m++[x],r∈l:=fun r hr=>by
    rcases List.mem_append.1 hr with q | q
    ·exact HS.out.mem r q
    ·rw [List.mem_singleton.1 q];exact hmx
   have hml:(m++[x]).length=m.length+1:=(by rw [List.length_append];rfl);have hrl:=zm4 hr1;rw [Hg0.out _ hmm (by omega)] at hrl;have hfew:=HS.out.few;have hul:=HS.out.ul;have hrank:=fun v W (hE:Ext w W)(hm:Mat W v (m++[x]))=>Hrk.out v (m++[x]) r W hE hm hmm (by omega) (by omega) hr1;have hcl:=zm8 (.slice a5 us.length c5) us wr HS.out.o5 (by omega) HS.out.one;have hcw:=HS.out.x.cell hcu;obtain ⟨ax,cx,eu,_,_,_⟩:=hru.parts;rw [zaC,Hrec.out x hmx] at eu;have hk1:(0:Int)≤(i:Int):=(by omega);have hk2:(i:Int)<(L:Int):=(by omega);rw [hml] at hr2 hr3;have Hru:=hid hru;have Hrank:=hid hrank;have Hcl:=hid hcl;have Hr2:=hid hr2;have Hr3:=hid hr3;have Hmm:=hid hmm;have Hul:=hid hul;have Hml:=hid hml;clear hru hrank hcl hr2 hr3 hmm hul hml;clear hx hu hcu hrr hdr hmx hr1 HR;subst eu;go_wp2_with fail
   refine Hcl.out.mono ?_;rintro e w1 ⟨v1,rfl,ho1,hx1⟩;obtain ⟨a1,c1,e1⟩:=zcN ho1;subst e1;have hm3:us.length+1≤maxLen:=(by unfold maxLen;have:=Hul.out;omega);have hm4:(us.length+1) * 24≤140737488355328:=(by have:=Hul.out;omega);have hbase:=hx1.size;have Ho1:=hid ho1;have Hx1:=hid hx1;clear ho1 hx1;go_wp2_with (at_builtin;refine wpList_append_own _ rfl _ _ 58 rfl wr.heap.size 26 j0 (.slice none 0 0) 1 24 Tryz.underlying58 hj hy0 hy1 hy2 rfl (by decide) _ _ _ rfl (Ho1.out.alloc _) ⟨w1.heap.size,0,none⟩ 1 1 [.slice ax n cx] rfl rfl (cell_one_new _ _ _) (by simp [Value.oneCell']) hm3 hm4 (by rw [World.size_alloc];omega) ?_;intro v7 V7 hown7 hgrow7 _)
   have hE7:Ext wr V7:=(Hx1.out.alloc _).grown hgrow7 fun q hq=>(World.ownsRow.lt Ho1.out q hq).1;have hmat7:Mat V7 v7 (m++[x]):=HS.out.next Hru.out (HS.out.x.trans hE7) hown7;obtain ⟨a7,c7,e7⟩:=zcN hown7;subst e7;have hown7':=za7 hown7 HS.out.x.size;have hrk7:=Hrank.out _ V7 (HS.out.x.trans hE7) hmat7;have HE7:=hid hE7;have Hmat7:=hid hmat7;have Hown7':=hid hown7';have Hrk7:=hid hrk7;clear hE7 hmat7 hown7' hrk7;clear hown7 hgrow7 hm3 hm4 hbase;go_wp2_with fail
   refine Hrk7.out.mono ?_;rintro e w8 ⟨rfl,hx8⟩;have HS8:=hid (HS.out.ext (HE7.out.trans hx8));have Ho8:=hid (hx8.own Hown7'.out);clear hx8;by_cases hreq:r=m.length+1
   ·have hbe:((r:Int) == ((us.length+1:Nat):Int))=true:=(by rw [hreq,← Hul.out];exact beq_self_eq_true _);have hbe2:((r:Int) == (us.length:Int)+1)=true:=(by rw [hreq,← Hul.out];exact beq_iff_eq.2 (by omega));have hr9:=Hr2.out hreq;have Hr9:=hid hr9;clear hr9;have hal:=HS8.out.al;have hqo:w8.ownsRow w.heap.size 3 1 (.slice a6 a.length c6) a.length (zaA a):=HS8.out.o6;have hm3:a.length+1≤maxLen:=(by unfold maxLen;omega);have hm4:(a.length+1) * 8≤140737488355328:=(by omega);have hbase:=HS8.out.x.size;have hfw:m.length+1≤n:=(by omega);have Hal:=hid hal;have Hfw:=hid hfw;clear hal hfw;clear hreq hrl;go_wp2_with (at_builtin;refine wpList_append_own _ rfl _ _ 26 rfl w.heap.size 3 i0 (.int .i64 0) 1 8 Tryz.underlying26 hi hz0 hz1 hz2 rfl (by decide) _ _ _ rfl (hqo.alloc _) ⟨w8.heap.size,0,none⟩ 1 1 [.int .i64 ((i:Int)+1)] rfl rfl (cell_one_new _ _ _) (by simp [Value.oneCell']) hm3 hm4 (by rw [World.size_alloc];omega) ?_;intro v9 V9 hown9 hgrow9 _)
    go_roundw
    case rel =>
     have hne:=zcO Ho8.out hqo (fun q=>zlh q.symm);have hk9:V9.ownsRow w.heap.size 26 1 (.slice a7 (us.length+1) c7) (us.length+1) (us++[.slice ax n cx]):=World.ownsRow.kept (Ho8.out.alloc _) hgrow9 hne;have hX9:Ext w V9:=(HS8.out.x.alloc _).grown hgrow9 fun q hq=>(World.ownsRow.lt hqo q hq).1;refine ⟨i+1,us++[.slice ax n cx],m++[x],a++[((i+1:Nat):Int)],by go_num,hin,hid ⟨?_,HS.out.nextRd Hru.out,?_,?_,Hmm.out,?_,?_,hX9⟩,Hr9⟩
     ·rw [List.length_append,List.length_append,Hul.out];rfl
     ·rw [List.length_append];exact hk9
     ·unfold zcM;rw [List.length_append,zmA];exact hown9
     ·have:=Hml.out;have:=Hfw.out;omega
     ·rw [List.length_append,List.length_append,Hal.out];rfl
    case measure=>simp [za6];omega
   ·have hbe:((r:Int) == ((us.length+1:Nat):Int))=false:=beq_eq_false_iff_ne.2 (by have:=Hul.out;omega);have hbe2:((r:Int) == (us.length:Int)+1)=false:=beq_eq_false_iff_ne.2 (by have:=Hul.out;omega);have hr9:=Hr3.out hreq;have Hr9:=hid hr9;clear hr9;clear hreq hrl;go_wp2_with fail
    go_roundw
    case rel=>exact ⟨i+1,us,m,a,by go_num,hin,HS8,Hr9⟩
    case measure=>simp [za6];omega
  ·have hiL2:i=L:=(by omega);have hni:¬ (i:Int)<(L:Int):=(by omega);have hrr:=HR.out;rw [List.drop_eq_nil_of_le (by have:=HL.out;omega),zgd] at hrr;obtain ⟨rfl,rfl⟩:=Prod.mk.inj (Option.some.inj hrr);have hfew:=HS.out.few;have htp:=Htr.out _ m wr HS.out.mat HS.out.mem hm0 (by omega);have Htp:=hid htp;clear htp;clear hrr hiL2;go_wp2_with fail
   refine Htp.out.mono ?_;rintro e w9 ⟨vt,rfl,ls,hgd,hls,hx9⟩;have hmt:=hgd.mat;rw [hls] at hmt;have HS9:=hid (HS.out.ext hx9);have Hmt:=hid hmt;clear hmt;clear hgd hls hx9;go_wp2
   go_ret3
   exact ⟨_,_,rfl,Hmt.out,HS9.out.o6.sl,HS9.out.few,HS9.out.al,HS9.out.mem,HS9.out.x⟩
theorem zmC (vm vb:Value)(m:List (List Int))(b:List Int)(n k:Nat)(w:World)(hm:Mat w vm m)(hb:Sl w vb (zaA b))(hk:m.length=k)(hk0:0<k)(hk9:k≤1000)(hn9:n≤1000)(hrec:∀ r∈m,r.length=n)(hbn:b.length=n)(ht:zjh m=0)(hbc:zh2 b=0) :
  Calls Tryz.prog 70 #[vm,vb] w fun e w'=>e=.returned (.int .i64 0)∧Ext w w':=by
 have hrow:∀ i,(m.getD i []).length≤1000000:=fun i=>by
  rw [List.getD_eq_getElem?_getD]
  cases h:m[i]? with
  | none=>exact Nat.zero_le _
  | some r=>have:=hrec r (List.mem_of_getElem? h);simp only [Option.getD_some];omega
 have htc:=fun W (hE:Ext w W)=>zjj vm m W (hE.mat hm) hrow (by omega);have hrc:=fun W (hE:Ext w W)=>zh4 vb b W (hE.sl hb) (by omega);rw [ht] at htc;rw [hbc] at hrc;obtain ⟨vs,hvl,hvs,hrows⟩:=hm;obtain ⟨am,cm,rfl,_,_,hc⟩:=hvs.parts;obtain ⟨r0,hr0⟩:∃ r,m[0]?=some r:=⟨_,List.getElem?_eq_getElem (by omega)⟩;obtain ⟨u0,hu0⟩:∃ u,vs[0]?=some u:=⟨_,List.getElem?_eq_getElem (by omega)⟩;obtain ⟨b0,off,rfl,hcu⟩:=hc 0 u0 hu0;have hru:=hrows 0 u0 hu0;rw [List.getD_eq_getElem?_getD,hr0] at hru;simp only [Option.getD_some] at hru;obtain ⟨ar,cr,rfl,_,_,_⟩:=hru.parts;obtain ⟨ab,cb,rfl,_,_,_⟩:=hb.parts;have hr0l:=hrec r0 (List.mem_of_getElem? hr0);rw [show (zaA r0).length=n by rw [zaC];exact hr0l,Nat.add_zero] at hcu;rw [hvl,hk,show (zaA b).length=n by rw [zaC];exact hbn] at *;have Htc:=hid htc;have Hrc:=hid hrc;have Hcu:=hid hcu;clear htc hrc hrec hr0 hu0 hru hr0l ht hbc hb hvs hrows hc hrow hvl hcu;have hk1:(0:Int)<(k:Int):=by omega
 go_enter Tryz.func70,Tryz.ntmps70
 go_wp2_with fail
 refine (Htc.out w (Ext.refl w)).mono ?_;rintro e w1 ⟨rfl,hx1⟩;have Hx1:=hid hx1;clear hx1;go_wp2_with fail
 refine (Hrc.out w1 Hx1.out).mono ?_;rintro e w2 ⟨rfl,hx2⟩;have Hx2:=hid (Hx1.out.trans hx2);have hcu2:=Hx2.out.cell Hcu.out;clear hx2;go_wp2
 go_ret
 exact ⟨rfl,Hx2.out⟩
end
end Go.Proofs.YtkdgmahilfnnmaaGreatDoor
