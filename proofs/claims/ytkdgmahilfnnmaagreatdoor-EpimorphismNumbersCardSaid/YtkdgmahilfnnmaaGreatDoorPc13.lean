/- Walk: epimorphism.Check. (KEEPALL) Walks: val.Check, dot, checkBoth, Steps. (KEEPALL) Walks: law 12's Primes and Interval: out of XLawA. (Printed by rebase.py.) Plain: one period more of an interval, how great its numbers are, equal values are equal intervals (for the ten lists of primes of law 12). -/
import Derived.Test.YtkdgmahilfnnmaaGreatDoorPc12
import Derived.Deep.RegionHeld3
set_option maxRecDepth 100000
set_option maxHeartbeats 4000000
namespace Go.Proofs.YtkdgmahilfnnmaaGreatDoor
open Go.RowKit Go.Lib
theorem zh8 {p:List Int}(h:zcw p=0):zgo p (zhw p.length)=0:=by
 unfold zgo zgg;rw [if_neg (by simpa using h),zgf];have hr:zge p.length (zhw p.length)=0:=by
  unfold zge zhw;rw [if_neg (by simp),if_neg];intro q;obtain ⟨z,hz,hf⟩:=List.any_eq_true.1 q;obtain rfl:=List.eq_of_mem_replicate hz;exact absurd hf (by decide)
 rw [if_neg (by simpa using hr)];rfl
theorem zh9 {p b:List Int}{l:List (List Int)}{k:Nat}(hk:k<l.length):zhx p b (l.drop k)=if zgo p (l.getD k []) ≠ 0 then zgo p (l.getD k []) else if 0≤zhs p b (l.getD k []) then 6 else zhx p (l.getD k []) (l.drop (k+1)):=by
 rw [List.drop_eq_getElem_cons hk,zhx,List.getD_eq_getElem?_getD,List.getElem?_eq_getElem hk];rfl
theorem zhA (w:World)(u v:Value)(t:TypeId):∀ W,Ext (w.alloc (.cells #[u,v] t)) W→W.cell? ⟨w.heap.size,0,none⟩=some u∧W.cell? ⟨w.heap.size,1,none⟩=some v:=fun W hE=>by
 have bx:(w.alloc (.cells #[u,v] t)).heap[w.heap.size]?=some (.cells #[u,v] t (0,0)):=World.alloc_heap_new w _;have hb:=hE.heap bx;unfold World.cell?;dsimp only;rw [hb];exact ⟨rfl,rfl⟩
theorem zhB (vp vl:Value)(p:List Int)(l:List (List Int))(w:World)(he:Env w)(hp:Sl w vp (zap p))(hl:Mat w vl l)(hlp:p.length≤1000)(hll:l.length≤1000)(hrow:∀ i,(l.getD i []).length≤1000) :
  Calls Tryz.prog 14 #[.agg #[vp,vl]] w fun e w'=>e=.returned (.int .i64 (zhy p l))∧Ext w w':=by
 obtain ⟨i0,hi,hz0,hz1,hz2⟩:=info_parts zc1;have hpr:=fun W (hE:Ext w W)=>zcx vp p W (hE.sl hp) (by omega);have hck:=fun k u W (hE:Ext w W)(hu:Sl W u (zap (l.getD k [])))=>zgp vp u p (l.getD k []) W (hE.sl hp) hu (by omega) (by have:=hrow k;omega);have hcm:=fun k u vb (b:List Int) W (hE:Ext w W)(hu:Sl W u (zap (l.getD k [])))(hb:Sl W vb (zap b))(hbl:b.length≤1000)=>zh7 vp vb u p b (l.getD k []) W (he.ext hE) (hE.sl hp) hb hu (by omega) (by omega) (by have:=hrow k;omega);obtain ⟨ap,cp,rfl,_,_,_⟩:=hp.parts;obtain ⟨vs,hvl,hvs,hrows⟩:=hl;obtain ⟨am,cm,rfl,_,_,hc⟩:=hvs.parts;rw [zar] at hpr hck hcm ⊢;rw [hvl];have hbox:=zhA w (.slice ap p.length cp) (.slice am l.length cm) 32;have hE0:Ext w (w.alloc (.cells #[.slice ap p.length cp,.slice am l.length cm] 32)):=(Ext.refl w).alloc _;clear hp hvs he;have Hpr:=hid hpr;have Hck:=hid hck;have Hcm:=hid hcm;have Hbox:=hid hbox;have HE0:=hid hE0;have Hc:=hid hc;have Hrows:=hid hrows;have Hrow:=hid hrow;have Hvl:=hid hvl;clear hpr hck hcm hbox hE0 hc hrows hrow hvl;unfold zhy;by_cases h1:zcw p=0
 ·rw [if_neg (by simpa using h1)];have hone:=zh8 h1;rw [h1] at Hpr;have Hone:=hid hone;clear hone;clear h1;by_cases h2:l.length=0
  ·rw [if_pos h2];generalize l.length=L at *;subst h2;obtain ⟨q0,q1⟩:=Hbox.out _ (Ext.refl _);go_enter Tryz.func14,Tryz.ntmps14
   go_wp2_with fail
   refine (Hpr.out _ HE0.out).mono ?_;rintro e w1 ⟨rfl,rfl⟩;go_wp2
   go_ret
   exact ⟨rfl,HE0.out⟩
  ·rw [if_neg h2];have h2b:((l.length:Int) == 0)=false:=beq_eq_false_iff_ne.2 (by omega);by_cases h3:60<l.length
   ·rw [if_pos h3];obtain ⟨q0,q1⟩:=Hbox.out _ (Ext.refl _);go_enter Tryz.func14,Tryz.ntmps14
    go_wp2_with fail
    refine (Hpr.out _ HE0.out).mono ?_;rintro e w1 ⟨rfl,rfl⟩;go_wp2
    go_ret
    exact ⟨rfl,HE0.out⟩
   ·rw [if_neg h3];obtain ⟨q0,q1⟩:=Hbox.out _ (Ext.refl _);go_enter Tryz.func14,Tryz.ntmps14
    go_wp2_with fail
    refine (Hpr.out _ HE0.out).mono ?_;rintro e w1 ⟨rfl,rfl⟩;go_wp2_with (at_make;refine wpList_make_full _ rfl _ _ 26 rfl w.heap.size 3 i0 (.int .i64 0) 1 Tryz.underlying26 hi hz0 hz1 _ _ _ _ p.length rfl rfl rfl rfl (by rw [hz2];omega) (by unfold maxLen;omega) (by rw [World.size_alloc];omega) ?_;intro w1 hown hgrow;obtain ⟨s0,s1⟩:=Hbox.out _ ((Ext.refl _).grown hgrow (by simp)))
    rw [World.size_alloc] at hown;have hE1:Ext (w.alloc (.cells #[.slice ap p.length cp,.slice am l.length cm] 32)) w1:=(Ext.refl _).grown hgrow (by simp);have hown1:Sl w1 (.slice (some ⟨w.heap.size+1,0,none⟩) p.length p.length) (zap (zhw p.length)):=by
     have hzz:(zhw p.length).length=p.length:=List.length_replicate;have e:zap (zhw p.length)=(madeCells #[Value.int .i64 0] (p.length * 1)).toList:=by
      unfold zhw;rw [Nat.mul_one,toList_madeCells_one];simp [zap]
     have h3:zc2 w1 w.heap.size (.slice (some ⟨w.heap.size+1,0,none⟩) p.length p.length) (zhw p.length):=by
      unfold zc2;rw [hzz,e];exact hown
     exact h3.sl
    have HE1:=hid hE1;have Hown1:=hid hown1;clear hE1 hown1;clear hown hgrow s0 s1 q0 q1;go_loopw [4,33] (fun v4 v33 wr=>∃ (k:Nat)(b:List Int)(a:Option Addr)(c:Nat),v33=.int .i64 k∧k≤l.length∧v4=.slice a p.length c∧Hid (Sl wr (.slice a p.length c) (zap b))∧Hid (b.length=p.length∧zgo p b=0)∧Hid (zhx p (zhw p.length) l=zhx p b (l.drop k))∧Hid (Ext w1 wr)) (fun _ v33 _=>l.length - (zal v33).toNat)
    case atStart=>exact ⟨0,zhw p.length,_,_,rfl,Nat.zero_le _,rfl,Hown1,hid ⟨List.length_replicate,Hone.out⟩,hid rfl,hid (Ext.refl _)⟩
    case round =>
     obtain ⟨k,b,ab,cb,rfl,hk,rfl,HB,HL,HF,HE⟩:=hrel;have hEw:=(HE0.out.trans HE1.out).trans HE.out;by_cases hkn:k<l.length
     ·obtain ⟨u,hu⟩:∃ u,vs[k]?=some u:=⟨_,List.getElem?_eq_getElem (by rw [Hvl.out];exact hkn)⟩;obtain ⟨bl,off,rfl,hcu⟩:=Hc.out k u hu;have hru:=Hrows.out k u hu;obtain ⟨ax,cx,rfl,_,_,_⟩:=hru.parts;rw [zar] at hcu hru;have hcw:=hEw.cell hcu;obtain ⟨q0,q1⟩:=Hbox.out wr (HE1.out.trans HE.out);have hdrop:=zh9 (p:=p) (b:=b) hkn;have hk1:(0:Int)≤(k:Int):=(by omega);have hk2:(k:Int)<(l.length:Int):=(by omega);have hb2:=fun W (hx:Ext wr W)=>Hbox.out W ((HE1.out.trans HE.out).trans hx);have h1:=Hck.out k _ wr hEw (hEw.sl hru);have h2:=fun W (hx:Ext wr W)=>Hcm.out k _ _ b W (hEw.trans hx) ((hEw.trans hx).sl hru) (hx.sl HB.out) (by have:=HL.out.1;omega);have hru2:=fun W (hx:Ext wr W)=>(hEw.trans hx).sl hru;have Hdrop:=hid hdrop;have H1:=hid h1;have H2:=hid h2;have Hb2:=hid hb2;have Hru2:=hid hru2;clear hdrop h1 h2 hb2 hru2;clear hcu hru hu;by_cases he0:zgo p (l.getD k [])=0
      ·have hxl:(l.getD k []).length=p.length:=(zg0 (zg1 he0).2).1;have ht0:=zh4 HL.out.2 he0;rw [he0] at H1;rw [hxl,ht0] at H2;rw [hxl] at H1 Hru2 hcw;have hce:zh5 p b (l.getD k [])=zhs p b (l.getD k []):=(by unfold zh5;rw [if_neg (by simpa using ht0)]);rw [hce] at H2;have hd2:=Hdrop.out;rw [if_neg (by simpa using he0)] at hd2;have Hd2:=hid hd2;have Hxl:=hid hxl;have He0:=hid he0;clear hd2 hxl he0;clear Hdrop ht0 hce;go_wp2_with fail
       refine H1.out.mono ?_;rintro e w3 ⟨rfl,hx3⟩;obtain ⟨s0,s1⟩:=Hb2.out w3 hx3;have Hx3:=hid hx3;clear hx3;clear q0 q1 hcw;go_wp2_with fail
       refine (H2.out w3 Hx3.out).mono ?_;rintro e w4 ⟨rfl,hx4⟩;have Hx4:=hid (Hx3.out.trans hx4);clear hx4 s0 s1;generalize zhs p b (l.getD k [])=z at *;by_cases hz:0≤z
       ·have hdd:=Hd2.out;rw [if_pos hz] at hdd;have hfin:=HF.out.trans hdd;have Hfin:=hid hfin;clear hfin hdd;go_wp2
        go_ret
        exact ⟨by rw [Hfin.out] <;> rfl,hEw.trans Hx4.out⟩
       ·have hdd:=Hd2.out;rw [if_neg hz] at hdd;have hfin:=HF.out.trans hdd;have Hfin:=hid hfin;have hzd:decide (z ≥ 0)=false:=decide_eq_false hz;clear hfin hdd;go_wp2_with fail
        go_roundw
        case rel=>exact ⟨k+1,l.getD k [],_,_,by go_num,hkn,rfl,hid (Hru2.out _ Hx4.out),hid ⟨Hxl.out,He0.out⟩,Hfin,hid (HE.out.trans Hx4.out)⟩
        case measure=>simp [zal];omega
      ·have hd2:=Hdrop.out;rw [if_pos he0] at hd2;have hfe:=HF.out.trans hd2;have het:(zgo p (l.getD k []) != 0)=true:=(by rw [bne_iff_ne];exact he0);have Hfe:=hid hfe;clear hfe;clear Hdrop hd2 H2 Hru2 Hb2 HF;generalize zgo p (l.getD k [])=r at *;generalize (l.getD k []).length=L at *;clear he0;go_wp2_with fail
       refine H1.out.mono ?_;rintro e w3 ⟨rfl,hx3⟩;have Hx3:=hid hx3;clear hx3;clear q0 q1 hcw;go_wp2
       go_ret
       exact ⟨by rw [Hfe.out] <;> rfl,hEw.trans Hx3.out⟩
     ·have hkl:l.length=k:=(by omega);have hnk:¬ (k:Int)<(l.length:Int):=(by omega);have hf:=HF.out;rw [List.drop_eq_nil_of_le (by omega)] at hf;rw [zhx] at hf;have Hf:=hid hf;clear hf;clear hkl;go_wp2
      go_ret
      exact ⟨by rw [Hf.out] <;> rfl,hEw⟩
 ·rw [if_pos h1];have ht:(zcw p != 0)=true:=by rw [bne_iff_ne];exact h1
  obtain ⟨q0,q1⟩:=Hbox.out _ (Ext.refl _);generalize zcw p=r at *;clear h1;go_enter Tryz.func14,Tryz.ntmps14
  go_wp2_with fail
  refine (Hpr.out _ HE0.out).mono ?_;rintro e w1 ⟨rfl,rfl⟩;go_wp2
  go_ret
  exact ⟨rfl,HE0.out⟩
theorem zhC (x:List Int):zgC x=0∨zgC x=4:=by
 unfold zgC;by_cases h:64<x.length∨x.any (fun n=>!zg7 n)=true
 ·rw [if_pos h];exact .inr rfl
 ·rw [if_neg h];exact .inl rfl
theorem zhD {x:List Int}(h:zgC x=0):x.length≤64∧∀ i,-1000000000≤zas x i∧zas x i≤1000000000:=by
 unfold zgC at h;by_cases h1:64<x.length∨x.any (fun n=>!zg7 n)=true
 ·rw [if_pos h1] at h;cases h
 ·refine ⟨by omega,fun i=>?_⟩;unfold zas;rw [List.getD_eq_getElem?_getD]
  cases hx:x[i]? with
  | none=>simp
  | some z =>
   rcases Decidable.em (-1000000000≤z∧z≤1000000000) with q | q
   ·exact q
   ·exfalso
    refine h1 (.inr (List.any_eq_true.2 ⟨z,List.mem_of_getElem? hx,?_⟩))
    unfold zg7
    rw [decide_eq_false q]
    rfl
def zhE (n:Nat)(v:List Int):Int:=if zgC v ≠ 0 then zgC v else if v.length ≠ n then 5 else 0
theorem zhF {n:Nat}{v:List Int}(h:zhE n v=0):v.length=n∧zgC v=0:=by
 unfold zhE at h;by_cases h1:zgC v ≠ 0
 ·rw [if_pos h1] at h;exact absurd h h1
 ·rw [if_neg h1] at h;by_cases h2:v.length ≠ n
  ·rw [if_pos h2] at h;cases h
  ·exact ⟨Decidable.not_not.1 h2,Decidable.not_not.1 h1⟩
theorem zhG (vp vv:Value)(p v:List Int)(n m:Nat)(w:World)(hp:Sl w vp (zap p))(hv:Sl w vv (zap v))(hpe:zcw p=0)(hpn:p.length=n)(hvm:v.length=m)(hn:n≤1000)(hm:m≤1000) :
  Calls Tryz.prog 10 #[vp,vv] w fun e w'=>e=.returned (.int .i64 (zhE n v))∧Ext w w':=by
 have h1:=zcx vp p w hp (by omega);have h2:=zgE vv v w hv (by omega);obtain ⟨ap,cp,rfl,_,_,_⟩:=hp.parts;obtain ⟨av,cv,rfl,_,_,_⟩:=hv.parts;unfold zhE;simp only [zar,hpn,hvm,hpe] at h1 h2 ⊢;clear hp hv;rcases zhC v with hr | hr
 ·rw [hr] at h2 ⊢;rw [if_neg (by decide)];have H1:=hid h1;have H2:=hid h2;clear h1 h2;by_cases hmn:m=n
  ·subst hmn;rw [if_neg (by simp)];go_enter Tryz.func10,Tryz.ntmps10
   go_wp2_with fail
   refine H1.out.mono ?_;rintro e w1 ⟨rfl,rfl⟩;go_wp2_with fail
   refine H2.out.mono ?_;rintro e w2 ⟨rfl,hx2⟩;have Hx2:=hid hx2;clear hx2;go_wp2
   go_ret
   exact ⟨rfl,Hx2.out⟩
  ·rw [if_pos hmn];have hbn:((m:Int) != (n:Int))=true:=by
    rw [bne_iff_ne];omega
   go_enter Tryz.func10,Tryz.ntmps10
   go_wp2_with fail
   refine H1.out.mono ?_;rintro e w1 ⟨rfl,rfl⟩;go_wp2_with fail
   refine H2.out.mono ?_;rintro e w2 ⟨rfl,hx2⟩;have Hx2:=hid hx2;clear hx2;go_wp2
   go_ret
   exact ⟨rfl,Hx2.out⟩
 ·rw [hr] at h2 ⊢;rw [if_pos (by decide)];have H1:=hid h1;have H2:=hid h2;clear h1 h2;go_enter Tryz.func10,Tryz.ntmps10
  go_wp2_with fail
  refine H1.out.mono ?_;rintro e w1 ⟨rfl,rfl⟩;go_wp2_with fail
  refine H2.out.mono ?_;rintro e w2 ⟨rfl,hx2⟩;have Hx2:=hid hx2;clear hx2;go_wp2
  go_ret
  exact ⟨rfl,Hx2.out⟩
theorem zhH (vv vx:Value)(v x:List Int)(w:World)(hv:Sl w vv (zap v))(hx:Sl w vx (zap x))(hl:x.length=v.length)(hn:x.length≤1000)(hb:∀ i,i<x.length→-1000000000000≤zas v i * zas x i∧zas v i * zas x i≤1000000000000) :
  Calls Tryz.prog 34 #[vv,vx] w fun e w'=>e=.returned (.int .i64 (zhg v x))∧w=w':=by
 obtain ⟨av,cv,rfl,_,_,hcv⟩:=hv.parts;obtain ⟨ax,cx,rfl,_,_,hcx⟩:=hx.parts;rw [zar,zar,← zhp hl];have hbd:=fun j (hj:j≤x.length)=>zhq hb hj;have hsu:=fun j=>(show zhn v x (j+1)=zhn v x j+zas v j * zas x j from rfl);have hvl:v.length=x.length:=hl.symm;have Hcv:=hid hcv;have Hcx:=hid hcx;have Hbd:=hid hbd;have Hsu:=hid hsu;have Hb:=hid hb;have Hvl:=hid hvl;clear hcv hcx hbd hsu hb hvl;clear hv hx hl;go_enter Tryz.func34,Tryz.ntmps34
 go_wp2_with fail
 go_loop [5,10] (fun v5 v10=>∃ j:Nat,v10=.int .i64 j∧j≤x.length∧v5=.int .i64 (zhn v x j)) (fun _ v10=>x.length - (zal v10).toNat)
 case atStart=>exact ⟨0,rfl,Nat.zero_le _,rfl⟩
 case round =>
  obtain ⟨j,rfl,hj,rfl⟩:=hrel;by_cases hjn:j<x.length
  ·obtain ⟨b1,o1,rfl,hc1⟩:=Hcx.out j _ (zau hjn);obtain ⟨b2,o2,rfl,hc2⟩:=Hcv.out j _ (zau (by rw [Hvl.out];exact hjn));have h1:=Hbd.out j hj;have h2:=Hb.out j hjn;rw [Int.mul_comm] at h2;have h3:=Hsu.out j;have hlz:(x.length:Int)≤1000:=(by omega);have hjz:(j:Int) * 1000000000000≤1000000000000000:=(by omega);obtain ⟨h4,h5⟩:=h1;obtain ⟨h6,h7⟩:=h2;have h8:-1000000000000000≤zhn v x j:=(by omega);have h9:zhn v x j≤1000000000000000:=(by omega);have hj0:(0:Int)≤(j:Int):=(by omega);have hj1:(j:Int)<(x.length:Int):=(by omega);have hj2:(j:Int)<(v.length:Int):=(by have:=Hvl.out;omega);have H3:=hid h3;clear h3;clear h4 h5 hjz hlz;generalize zhn v x j=s at *;generalize zas v j=zv at *;generalize zas x j=zx at *;go_wp2_with fail
   go_round
   case rel=>exact ⟨j+1,by go_num,hjn,by rw [H3.out,Int.mul_comm zv zx]⟩
   case measure=>simp [zal];omega
  ·have hjl:j=x.length:=(by omega);have hnj:¬ (j:Int)<(x.length:Int):=(by omega);subst hjl;go_wp2
   go_ret
   exact ⟨rfl,rfl⟩
theorem zhI (vp vv vx:Value)(p v x:List Int)(n:Nat)(w:World)(hp:Sl w vp (zap p))(hv:Sl w vv (zap v))(hx:Sl w vx (zap x))(hpe:zcw p=0)(hpn:p.length=n)(hn:n≤1000)(hve:zhE n v=0)(hxe:zgo p x=0)(hxn:x.length=n) :
  Calls Tryz.prog 33 #[vp,vv,vx] w fun e w'=>e=.returned (.int .i64 0)∧Ext w w':=by
 have hvn:=(zhF hve).1;have h1:=zhG vp vv p v n n w hp hv hpe hpn hvn hn hn;have h2:=fun W (hE:Ext w W)=>zgp vp vx p x W (hE.sl hp) (hE.sl hx) (by omega) (by omega);obtain ⟨ap,cp,rfl,_,_,_⟩:=hp.parts;obtain ⟨av,cv,rfl,_,_,_⟩:=hv.parts;obtain ⟨ax,cx,rfl,_,_,_⟩:=hx.parts;simp only [zar,hpn,hvn,hxn,hve,hxe] at h1 h2 ⊢;have H1:=hid h1;have H2:=hid h2;clear h1 h2;clear hp hv hx;go_enter Tryz.func33,Tryz.ntmps33
 go_wp2_with fail
 refine H1.out.mono ?_;rintro e w1 ⟨rfl,hx1⟩;have h3:=H2.out w1 hx1;have H3:=hid h3;have Hx1:=hid hx1;clear h3 hx1;go_wp2_with fail
 refine H3.out.mono ?_;rintro e w2 ⟨rfl,hx2⟩;have Hx2:=hid hx2;clear hx2;go_wp2
 go_ret
 exact ⟨rfl,Hx1.out.trans Hx2.out⟩
def stE (v x:List Int):Int:=if 1000000000<zhg v x∨zhg v x < -1000000000 then 4 else 0
def stN (v x:List Int):Int:=if 1000000000<zhg v x∨zhg v x < -1000000000 then 0 else zhg v x
theorem zhJ (vp vv vx:Value)(p v x:List Int)(n:Nat)(w:World)(hp:Sl w vp (zap p))(hv:Sl w vv (zap v))(hx:Sl w vx (zap x))(hpe:zcw p=0)(hpn:p.length=n)(hn:n≤1000)(hve:zhE n v=0)(hxe:zgo p x=0)(hxn:x.length=n)(hb:∀ i,i<x.length→-1000000000000≤zas v i * zas x i∧zas v i * zas x i≤1000000000000) :
  Calls Tryz.prog 11 #[vp,vv,vx] w fun e w'=>e=.returned (.tuple #[.int .i64 (stN v x),.int .i64 (stE v x)])∧Ext w w':=by
 have hvn:=(zhF hve).1;have h1:=zhI vp vv vx p v x n w hp hv hx hpe hpn hn hve hxe hxn;have h2:=fun W (hE:Ext w W)=>zhH vv vx v x W (hE.sl hv) (hE.sl hx) (by omega) (by omega) hb;have hs:=zhq hb (Nat.le_refl _);rw [zhp (by omega)] at hs;obtain ⟨ap,cp,rfl,_,_,_⟩:=hp.parts;obtain ⟨av,cv,rfl,_,_,_⟩:=hv.parts;obtain ⟨ax,cx,rfl,_,_,_⟩:=hx.parts;simp only [zar,hpn,hvn,hxn] at h1 h2 hs ⊢;unfold stN stE;generalize zhg v x=s at *;have H1:=hid h1;have H2:=hid h2;clear h1 h2;clear hp hv hx hb;by_cases hq:1000000000<s
 ·rw [if_pos (.inl hq),if_pos (.inl hq)];have hd:decide (s > 1000000000)=true:=decide_eq_true hq;go_enter Tryz.func11,Tryz.ntmps11
  go_wp2_with fail
  refine H1.out.mono ?_;rintro e w1 ⟨rfl,hx1⟩;have h3:=H2.out w1 hx1;have H3:=hid h3;have Hx1:=hid hx1;clear h3 hx1;go_wp2_with fail
  refine H3.out.mono ?_;rintro e w2 ⟨rfl,rfl⟩;go_wp2
  go_ret2
  exact ⟨rfl,Hx1.out⟩
 ·have hd:decide (s > 1000000000)=false:=decide_eq_false hq;by_cases hr:s < -1000000000
  ·rw [if_pos (.inr hr),if_pos (.inr hr)];have hd2:decide (s < -1000000000)=true:=decide_eq_true hr;go_enter Tryz.func11,Tryz.ntmps11
   go_wp2_with fail
   refine H1.out.mono ?_;rintro e w1 ⟨rfl,hx1⟩;have h3:=H2.out w1 hx1;have H3:=hid h3;have Hx1:=hid hx1;clear h3 hx1;go_wp2_with fail
   refine H3.out.mono ?_;rintro e w2 ⟨rfl,rfl⟩;go_wp2
   go_ret2
   exact ⟨rfl,Hx1.out⟩
  ·rw [if_neg (by omega),if_neg (by omega)];have hd2:decide (s < -1000000000)=false:=decide_eq_false hr;go_enter Tryz.func11,Tryz.ntmps11
   go_wp2_with fail
   refine H1.out.mono ?_;rintro e w1 ⟨rfl,hx1⟩;have h3:=H2.out w1 hx1;have H3:=hid h3;have Hx1:=hid hx1;clear h3 hx1;go_wp2_with fail
   refine H3.out.mono ?_;rintro e w2 ⟨rfl,rfl⟩;go_wp2
   go_ret2
   exact ⟨rfl,Hx1.out⟩
def zhK (p:List Nat):List Int:=p.map fun (n:Nat)=>(n:Int)
theorem zhL (p:List Nat):(zhK p).length=p.length:=by simp [zhK]
def ivl (n:Nat)(l:List Int):List Int:=(List.range n).map fun i=>(zas l i).tmod 10
theorem zhM (n:Nat)(l:List Int):ivl (n+1) l=ivl n l++[(zas l n).tmod 10]:=by
 unfold ivl;rw [List.range_succ,List.map_append];rfl
theorem zhN (n:Nat)(l:List Int):(ivl n l).length=n:=by simp [ivl]
theorem zhO (z:Int):-9≤z.tmod 10∧z.tmod 10≤9:=by
 rcases Int.le_total 0 z with h | h
 ·rw [Int.tmod_eq_emod_of_nonneg h];omega
 ·obtain ⟨n,rfl⟩:∃ n:Nat,z=-(n:Int):=⟨z.natAbs,by omega⟩;rw [Int.neg_tmod,Int.tmod_eq_emod_of_nonneg (by omega)];omega
theorem zhP (w:World)(a b c d:Int)(t:TypeId)(k:Nat)(hk:k<4):(w.alloc (.cells #[.int .i8 a,.int .i8 b,.int .i8 c,.int .i8 d] t)).cell? ⟨w.heap.size,k,none⟩=some (.int .i8 (zas [a,b,c,d] k)):=by
 have h:=World.alloc_heap_new w (.cells #[.int .i8 a,.int .i8 b,.int .i8 c,.int .i8 d] t);unfold World.cell?;rw [h];rcases (show k=0∨k=1∨k=2∨k=3 by omega) with rfl | rfl | rfl | rfl <;> rfl
theorem zhQ (vp:Value)(p:List Int)(a b c d:Int)(w:World)(hp:Sl w vp (zap p))(hl:p.length≤4)(hr:∀ z∈[a,b,c,d],-128≤z∧z≤127) :
  Calls Tryz.prog 57 #[vp,.agg #[.int .i8 a,.int .i8 b,.int .i8 c,.int .i8 d]] w fun e w'=>∃ v,e=.returned v∧zc2 w' w.heap.size v (ivl p.length [a,b,c,d])∧Ext w w':=by
 obtain ⟨i0,hi,hz0,hz1,hz2⟩:=info_parts zc1;obtain ⟨ap,cp,rfl,_,_,hcp⟩:=hp.parts;rw [zar];clear hcp hp;have h4:=zhP w a b c d 101;have hE0:Ext w (w.alloc (.cells #[.int .i8 a,.int .i8 b,.int .i8 c,.int .i8 d] 101)):=(Ext.refl w).alloc _;have H4:=hid h4;have Hr:=hid hr;have HE0:=hid hE0;clear h4 hr hE0;generalize hW:w.alloc (.cells #[.int .i8 a,.int .i8 b,.int .i8 c,.int .i8 d] 101)=W at *;go_enter Tryz.func57,Tryz.ntmps57
 go_wp2
 go_loopw [5,6] (fun v i wr=>∃ k:Nat,i=.int .i64 k∧k≤p.length∧zc2 wr W.heap.size v (ivl k [a,b,c,d])∧Ext W wr) (fun _ i _=>p.length - (zal i).toNat)
 case atStart=>exact ⟨0,rfl,Nat.zero_le _,World.ownsRow_nil _ _ _ 1,Ext.refl _⟩
 case round =>
  obtain ⟨k,rfl,hk,hown,hext⟩:=hrel;obtain ⟨av,cv,rfl⟩:=zc3 hown;rw [zhN] at *;have Hown:=hid hown;have Hext:=hid hext;clear hown hext;by_cases hlt:k<p.length
  ·have hcell:=Hext.out.cell (H4.out k (by omega));have hin:-128≤zas [a,b,c,d] k∧zas [a,b,c,d] k≤127:=Hr.out _ (zav (by simp;omega));have ht:=zhO (zas [a,b,c,d] k);have hs:=zhM k [a,b,c,d];have Hs:=hid hs;clear hs;generalize zas [a,b,c,d] k=z at *;obtain ⟨hi1,hi2⟩:=hin;obtain ⟨ht1,ht2⟩:=ht;have hk4:(k:Int)<4:=(by omega);have hk0:(0:Int)≤(k:Int):=(by omega);have hown:=Hown.out;unfold zc2 at hown;rw [zhN] at hown;have hm3:k+1≤maxLen:=(by unfold maxLen;omega);have hm4:(k+1) * 8≤140737488355328:=(by omega);have hsz:=Hext.out.size;have hm5:W.heap.size≤(wr.alloc (.cells #[.int .i64 (z.tmod 10)] 3)).heap.size:=(by rw [World.size_alloc];omega);go_wp2_with (at_builtin;refine wpList_append_own _ rfl _ _ 26 rfl W.heap.size 3 i0 (.int .i64 0) 1 8 Tryz.underlying26 hi hz0 hz1 hz2 rfl (by decide) _ _ _ rfl (hown.alloc _) ⟨wr.heap.size,0,none⟩ 1 1 [.int .i64 (z.tmod 10)] rfl rfl (cell_one_new _ _ _) (by simp [Value.oneCell']) hm3 hm4 hm5 ?_;intro v' w1 hown' hgrow _)
   have hE9:Ext W w1:=zc4 Hext.out hown hgrow;have hown9:zc2 w1 W.heap.size v' (ivl (k+1) [a,b,c,d]):=by
    unfold zc2;rw [Hs.out,List.length_append,zhN];simpa [zap] using hown'
   have Hown9:=hid hown9;have HE9:=hid hE9;clear hown hown' hgrow hE9 hown9;go_wp2
   go_roundw
   case rel=>exact ⟨k+1,by go_num,by omega,Hown9.out,HE9.out⟩
   case measure=>simp [zal];omega
  ·obtain rfl:k=p.length:=by omega
   go_wp2
   go_ret
   exact ⟨_,rfl,zam Hown.out HE0.out.size,HE0.out.trans Hext.out⟩
def zhR : List (List Nat):=[[2,3,5],[2,3,5,7],[2,3],[2,3,7],[2,5,7],[3,5,7],[2,3,5,11],[2],[2,3,7,13],[3,5,7,13]]
def zhS (n:Nat):List Nat:=zhR.getD (n % 10) []
theorem zhT : ∀ (os:List Obj)(w:World)(i:Nat),i<os.length→(os.foldl World.alloc w).heap[w.heap.size+i]?=os[i]?
 | [],_,_,h=>by simp at h
 | o::r,w,0,_=>by
  have keep:∀ (l:List Obj)(v:World)(k:Nat),k<v.heap.size→(l.foldl World.alloc v).heap[k]?=v.heap[k]?:=by
   intro l;induction l with
   | nil=>intro v k _;rfl
   | cons a l ih =>
    intro v k hk
    rw [List.foldl_cons,ih (v.alloc a) k (by rw [World.size_alloc];omega)]
    exact Below.heap_alloc v a k hk
  rw [List.foldl_cons,keep r (w.alloc o) _ (by rw [World.size_alloc];omega)];exact World.alloc_heap_new w o
 | o::r,w,i+1,h=>by
  rw [List.foldl_cons];have:=zhT r (w.alloc o) i (by simpa using h);rw [World.size_alloc] at this;rw [show w.heap.size+(i+1)=w.heap.size+1+i by omega,this];rfl
theorem zhU {w:World}{B b:Nat}{xs:List Value}{t:TypeId}(h:w.heap[b]?=some (.cells xs.toArray t (0,0)))(hb:B≤b)(hm:xs.length≤maxLen):w.ownsRow B t 1 (.slice (some ⟨b,0,none⟩) xs.length xs.length) xs.length xs :=
 ⟨by simp,.inr ⟨b,xs.length,xs.toArray,rfl,hb,h,Nat.le_refl _,hm,by simp,by simp⟩⟩
theorem zhV (w:World):∀ os:List Obj,Ext w (os.foldl World.alloc w):=by
 have:∀ (os:List Obj)(v:World),Ext w v→Ext w (os.foldl World.alloc v):=by
  intro os;induction os with
  | nil=>intro v h;exact h
  | cons o r ih=>intro v h;exact ih _ (h.alloc o)
 exact fun os=>this os w (Ext.refl w)
def zhW : List Obj:=zhR.map fun l=>Obj.cells (zap (zhK l)).toArray 3 (0,0)
theorem zhX (w:World)(o:Obj)(r:Nat)(hr:r<10):zc2 ((zhW++[o]).foldl World.alloc w) w.heap.size (.slice (some ⟨w.heap.size+r,0,none⟩) (zhR.getD r []).length (zhR.getD r []).length) (zhK (zhR.getD r []))∧Ext w ((zhW++[o]).foldl World.alloc w):=by
 refine ⟨?_,zhV w _⟩;have h:=zhT (zhW++[o]) w r (by simp [zhW,zhR];omega);have hlen:(zhR.getD r []).length=(zap (zhK (zhR.getD r []))).length:=by rw [zar,zhL]
 have hlen2:(zhK (zhR.getD r [])).length=(zap (zhK (zhR.getD r []))).length:=by rw [zar]
 unfold zc2;rw [hlen,hlen2];refine zhU (t:=3) ?_ (by omega) ?_
 ·rw [h,List.getElem?_append_left (by simp [zhW,zhR];omega)];unfold zhW;have hl:r<zhR.length:=by simp [zhR];omega
  rw [List.getElem?_map,List.getElem?_eq_getElem hl,List.getD_eq_getElem?_getD,List.getElem?_eq_getElem hl];rfl
 ·rw [← hlen];rcases (show r=0∨r=1∨r=2∨r=3∨r=4∨r=5∨r=6∨r=7∨r=8∨r=9 by omega) with rfl | rfl | rfl | rfl | rfl | rfl | rfl | rfl | rfl | rfl <;> decide
theorem zhY (n r:Nat)(w:World)(hn:n<256)(hr:n % 10=r) :
  Calls Tryz.prog 25 #[.int .u8 n] w fun e w'=>∃ v,e=.returned v∧zc2 w' w.heap.size v (zhK (zhR.getD r []))∧Ext w w':=by
 have hm:(n:Int) % 10=(r:Int):=by omega
 have hr10:r<10:=by omega
 clear hr;rcases (show r=0∨r=1∨r=2∨r=3∨r=4∨r=5∨r=6∨r=7∨r=8∨r=9 by omega) with rfl | rfl | rfl | rfl | rfl | rfl | rfl | rfl | rfl | rfl
 ·go_enter Tryz.func25,Tryz.ntmps25
  go_wp2
  go_ret
  exact ⟨_,rfl,zhX w _ 0 (by omega)⟩
 ·go_enter Tryz.func25,Tryz.ntmps25
  go_wp2
  go_ret
  exact ⟨_,rfl,zhX w _ 1 (by omega)⟩
 ·go_enter Tryz.func25,Tryz.ntmps25
  go_wp2
  go_ret
  exact ⟨_,rfl,zhX w _ 2 (by omega)⟩
 ·go_enter Tryz.func25,Tryz.ntmps25
  go_wp2
  go_ret
  exact ⟨_,rfl,zhX w _ 3 (by omega)⟩
 ·go_enter Tryz.func25,Tryz.ntmps25
  go_wp2
  go_ret
  exact ⟨_,rfl,zhX w _ 4 (by omega)⟩
 ·go_enter Tryz.func25,Tryz.ntmps25
  go_wp2
  go_ret
  exact ⟨_,rfl,zhX w _ 5 (by omega)⟩
 ·go_enter Tryz.func25,Tryz.ntmps25
  go_wp2
  go_ret
  exact ⟨_,rfl,zhX w _ 6 (by omega)⟩
 ·go_enter Tryz.func25,Tryz.ntmps25
  go_wp2
  go_ret
  exact ⟨_,rfl,zhX w _ 7 (by omega)⟩
 ·go_enter Tryz.func25,Tryz.ntmps25
  go_wp2
  go_ret
  exact ⟨_,rfl,zhX w _ 8 (by omega)⟩
 ·go_enter Tryz.func25,Tryz.ntmps25
  go_wp2
  go_ret
  exact ⟨_,rfl,zhX w _ 9 (by omega)⟩
theorem zhZ (n:Nat)(w:World)(hn:n<256) :
  Calls Tryz.prog 25 #[.int .u8 n] w fun e w'=>∃ v,e=.returned v∧zc2 w' w.heap.size v (zhK (zhS n))∧Ext w w':=zhY n _ w hn rfl
def zia (z:Int):Nat:=if 0<z then z.natAbs else 0
def zib (z:Int):Nat:=if 0<z then 0 else z.natAbs
def zic (f:Nat→Nat):Nat→Nat
 | 0=>1
 | k+1=>zic f k * f k
def prN (p:List Int)(a:Nat→Nat)(k:Nat):Nat:=zic (fun i=>(zas p i).toNat ^ a i) k
theorem zid (p x:List Int):∀ k,zgq p x k=prN p (fun i=>zia (zas x i)) k
 | 0=>rfl
 | k+1=>by
  show (if 0<zas x k then zgq p x k * (zas p k).toNat ^ (zas x k).natAbs else zgq p x k)=prN p (fun i=>zia (zas x i)) k * (zas p k).toNat ^ zia (zas x k);rw [← zid p x k];unfold zia;by_cases h:0<zas x k
  ·rw [if_pos h,if_pos h]
  ·rw [if_neg h,if_neg h,Nat.pow_zero,Nat.mul_one]
theorem zie (p x:List Int):∀ k,zgr p x k=prN p (fun i=>zib (zas x i)) k
 | 0=>rfl
 | k+1=>by
  show (if 0<zas x k then zgr p x k else zgr p x k * (zas p k).toNat ^ (zas x k).natAbs)=prN p (fun i=>zib (zas x i)) k * (zas p k).toNat ^ zib (zas x k);rw [← zie p x k];unfold zib;by_cases h:0<zas x k
  ·rw [if_pos h,if_pos h,Nat.pow_zero,Nat.mul_one]
  ·rw [if_neg h,if_neg h]
theorem zif (p:List Int)(a b:Nat→Nat):∀ k,prN p a k * prN p b k=prN p (fun i=>a i+b i) k
 | 0=>rfl
 | k+1=>by
  have ih:=zif p a b k;unfold prN at ih ⊢;unfold zic;rw [← ih,Nat.pow_add];exact Nat.mul_mul_mul_comm _ _ _ _
theorem zig {p:List Int}{a:Nat→Nat}:∀ {k:Nat},(∀ i,i<k→0<zas p i)→0<prN p a k
 | 0,_=>Nat.one_pos
 | k+1,h=>by
  have ih:=zig (a:=a) (k:=k) fun i hi=>h i (by omega);unfold prN at ih ⊢;unfold zic;exact Nat.mul_pos ih (Nat.pow_pos (by have:=h k (by omega);omega))
theorem zih {p:List Int}{a b:Nat→Nat}:∀ {k:Nat},(∀ i,i<k→a i=b i)→prN p a k=prN p b k
 | 0,_=>rfl
 | k+1,h=>by
  have ih:=zih (p:=p) (a:=a) (b:=b) (k:=k) fun i hi=>h i (by omega);unfold prN at ih ⊢;unfold zic;rw [ih,h k (by omega)]
theorem zii {p:List Int}{a b:Nat→Nat}:∀ {k:Nat},(∀ i,i<k→0<zas p i)→(∀ i,i<k→a i≤b i)→prN p a k≤prN p b k
 | 0,_,_=>Nat.le_refl _
 | k+1,h,h2=>by
  have ih:=zii (p:=p) (a:=a) (b:=b) (k:=k) (fun i hi=>h i (by omega)) fun i hi=>h2 i (by omega);unfold prN at ih ⊢;unfold zic;exact Nat.mul_le_mul ih (Nat.pow_le_pow_right (by have:=h k (by omega);omega) (h2 k (by omega)))
theorem zij {p:List Int}{a b:Nat→Nat}:∀ {k:Nat},(∀ i,i<k→2≤(zas p i).toNat)→(∀ i j,i<k→j<i→Nat.Coprime (zas p i).toNat (zas p j).toNat)→prN p a k=prN p b k→∀ i,i<k→a i=b i
 | 0,_,_,_=>fun i hi=>by omega
 | k+1,h2,hc,he=>by
  have hcp:∀ c:Nat→Nat,∀ m,m≤k→Nat.Coprime (zas p k).toNat (prN p c m):=fun c m=>by
   induction m with
   | zero=>intro _;exact Nat.coprime_one_right _
   | succ m ih =>
    intro hm
    have:=ih (by omega)
    unfold prN at this ⊢
    unfold zic
    exact Nat.Coprime.mul_right this (Nat.Coprime.pow_right _ (hc k m (by omega) (by omega)))
  have key:∀ c d:Nat→Nat,prN p c (k+1)=prN p d (k+1)→¬ c k<d k:=fun c d h hlt=>by
   have e1:prN p c (k+1)=prN p c k * (zas p k).toNat ^ c k:=rfl;have e2:prN p d (k+1)=prN p d k * (zas p k).toNat ^ d k:=rfl;rw [e1,e2,show d k=(d k - c k)+c k by omega,Nat.pow_add,← Nat.mul_assoc] at h;have hp:0<(zas p k).toNat ^ c k:=Nat.pow_pos (by have:=h2 k (by omega);omega);have h3:=Nat.eq_of_mul_eq_mul_right hp h;have hd:(zas p k).toNat ∣ prN p c k:=by
    rw [h3];exact Nat.dvd_trans (Nat.dvd_trans (Nat.dvd_refl _) (by
     rw [show d k - c k=(d k - c k - 1)+1 by omega,Nat.pow_succ];exact Nat.dvd_mul_left _ _)) (Nat.dvd_mul_left _ _)
   have:=Nat.Coprime.eq_one_of_dvd (hcp c k (Nat.le_refl _)) hd;have:=h2 k (by omega);omega
  have hk:a k=b k:=by
   have:=key a b he;have:=key b a he.symm;omega
  have e1:prN p a (k+1)=prN p a k * (zas p k).toNat ^ a k:=rfl;have e2:prN p b (k+1)=prN p b k * (zas p k).toNat ^ b k:=rfl;rw [e1,e2,hk] at he;have hp:0<(zas p k).toNat ^ b k:=Nat.pow_pos (by have:=h2 k (by omega);omega);have ih:=zij (p:=p) (a:=a) (b:=b) (k:=k) (fun i hi=>h2 i (by omega)) (fun i j hi hj=>hc i j (by omega) hj) (Nat.eq_of_mul_eq_mul_right hp he);intro i hi;rcases Nat.lt_or_ge i k with g | g
  ·exact ih i g
  ·obtain rfl:i=k:=by omega
   exact hk
structure zik (p:List Int):Prop where
 pe:zcw p=0
 len:0<p.length∧p.length≤4
 two:∀ i,i<p.length→2≤(zas p i).toNat
 cop:∀ i j,i<p.length→j<i→Nat.Coprime (zas p i).toNat (zas p j).toNat
 top:prN p (fun i=>if i=0 then 0 else 9) p.length<(zas p 0).toNat ^ 100
theorem zil (n:Nat):zik (zhK (zhS n)):=by
 have h:∀ r,r<10→(let p:=zhK (zhR.getD r []);zcw p=0∧(0<p.length∧p.length≤4)∧(∀ i,i<p.length→2≤(zas p i).toNat)∧(∀ i,i<p.length→∀ j,j<i→Nat.gcd (zas p i).toNat (zas p j).toNat=1)∧prN p (fun i=>if i=0 then 0 else 9) p.length<(zas p 0).toNat ^ 100):=by decide +kernel
 obtain ⟨h1,h2,h3,h4,h5⟩:=h (n % 10) (Nat.mod_lt _ (by decide));exact ⟨h1,h2,h3,fun i j hi hj=>h4 i hi j hj,h5⟩
theorem zik.pos {p:List Int}(h:zik p):∀ i,i<p.length→0<zas p i:=fun i hi=>by have:=h.two i hi;omega
theorem zim {p x y:List Int}(h:zik p)(hx:x.length=p.length)(hy:y.length=p.length)(he:zhs p x y=0):x=y:=by
 unfold zhs at he;have he2:zgs p x * zgt p y=zgs p y * zgt p x:=by
  have:=(zhu ((zgs p x * zgt p y:Nat):Int) ((zgs p y * zgt p x:Nat):Int)).1 (by omega);have h2:=zht ((zgs p x * zgt p y:Nat):Int) ((zgs p y * zgt p x:Nat):Int);have:=(zhu ((zgs p y * zgt p x:Nat):Int) ((zgs p x * zgt p y:Nat):Int)).1 (by omega);omega
 unfold zgs zgt at he2;rw [hx,hy,zid,zie,zid,zie,zif,zif] at he2;have hi:=zij h.two h.cop he2;apply List.ext_getElem (hx.trans hy.symm);intro i h1 h2;have:=hi i (by omega);have e1:zas x i=x[i]:=by unfold zas;rw [List.getD_eq_getElem?_getD,List.getElem?_eq_getElem h1];rfl
 have e2:zas y i=y[i]:=by unfold zas;rw [List.getD_eq_getElem?_getD,List.getElem?_eq_getElem h2];rfl
 rw [e1,e2] at this;unfold zia zib at this;(repeat' split at this) <;> omega
def bmp (k:Int):List Int→List Int
 | []=>[]
 | a::l=>(a+k)::l
theorem zin (k:Int)(x:List Int):(bmp k x).length=x.length:=by cases x <;> rfl
theorem zio (k j:Int)(x:List Int):bmp k (bmp j x)=bmp (j+k) x:=by
 cases x with
 | nil=>rfl
 | cons a l=>show (a+j+k)::l=(a+(j+k))::l;rw [Int.add_assoc]
theorem zip (x:List Int):bmp 0 x=x:=by
 cases x with
 | nil=>rfl
 | cons a l=>show (a+0)::l=a::l;rw [Int.add_zero]
theorem ziq {x:List Int}(h:0<x.length)(k:Int):zas (bmp k x) 0=zas x 0+k:=by
 cases x with
 | nil=>simp at h
 | cons a l=>rfl
theorem zir (k:Int)(x:List Int){i:Nat}(h:0<i):zas (bmp k x) i=zas x i:=by
 cases x with
 | nil=>rfl
 | cons a l =>
  obtain ⟨j,rfl⟩:∃ j,i=j+1:=⟨i - 1,by omega⟩
  rfl
theorem zis {p x:List Int}(hp:0<zas p 0):∀ k,0<k→0<x.length→zgq p (bmp 1 x) k * zgr p x k=(zas p 0).toNat * (zgq p x k * zgr p (bmp 1 x) k)
 | 0,h,_=>by omega
 | 1,_,hx=>by
  unfold zgq zgr;unfold zgq zgr;rw [ziq hx];generalize zas x 0=a;generalize (zas p 0).toNat=q;by_cases h1:0<a
  ·rw [if_pos h1,if_pos h1,if_pos (show 0<a+1 by omega),if_pos (show 0<a+1 by omega),show (a+1).natAbs=a.natAbs+1 by omega,Nat.pow_succ];simp only [Nat.one_mul,Nat.mul_one];exact Nat.mul_comm _ _
  ·by_cases h2:a=0
   ·subst h2;simp
   ·rw [if_neg h1,if_neg h1,if_neg (show ¬ 0<a+1 by omega),if_neg (show ¬ 0<a+1 by omega),show a.natAbs=(a+1).natAbs+1 by omega,Nat.pow_succ];simp only [Nat.one_mul];exact Nat.mul_comm _ _
 | k+2,_,hx=>by
  have ih:=zis (p:=p) (x:=x) hp (k+1) (by omega) hx;have e1:zgq p (bmp 1 x) (k+2)=if 0<zas x (k+1) then zgq p (bmp 1 x) (k+1) * (zas p (k+1)).toNat ^ (zas x (k+1)).natAbs else zgq p (bmp 1 x) (k+1):=by
   show (if 0<zas (bmp 1 x) (k+1) then _ else _)=_;rw [zir 1 x (by omega)]
  have e2:zgr p (bmp 1 x) (k+2)=if 0<zas x (k+1) then zgr p (bmp 1 x) (k+1) else zgr p (bmp 1 x) (k+1) * (zas p (k+1)).toNat ^ (zas x (k+1)).natAbs:=by
   show (if 0<zas (bmp 1 x) (k+1) then _ else _)=_;rw [zir 1 x (by omega)]
  have e3:zgq p x (k+2)=if 0<zas x (k+1) then zgq p x (k+1) * (zas p (k+1)).toNat ^ (zas x (k+1)).natAbs else zgq p x (k+1):=rfl;have e4:zgr p x (k+2)=if 0<zas x (k+1) then zgr p x (k+1) else zgr p x (k+1) * (zas p (k+1)).toNat ^ (zas x (k+1)).natAbs:=rfl;rw [e1,e2,e3,e4];generalize (zas p (k+1)).toNat ^ (zas x (k+1)).natAbs=f;generalize zgq p (bmp 1 x) (k+1)=A at *;generalize zgr p x (k+1)=D at *;generalize zgq p x (k+1)=N at *;generalize zgr p (bmp 1 x) (k+1)=E at *;generalize (zas p 0).toNat=q at *;split
  ·rw [Nat.mul_right_comm A f D,ih,Nat.mul_right_comm N f E,Nat.mul_assoc]
  ·rw [← Nat.mul_assoc A D f,ih,← Nat.mul_assoc N E f,Nat.mul_assoc]
theorem zit {p x:List Int}(h:zik p)(hx:x.length=p.length):zgs p (bmp 1 x) * zgt p x=(zas p 0).toNat * (zgs p x * zgt p (bmp 1 x)):=by
 unfold zgs zgt;rw [zin,hx];exact zis (h.pos 0 h.len.1) _ h.len.1 (by rw [hx];exact h.len.1)
theorem ziu {p x:List Int}(h:zik p)(hx:x.length=p.length):0<zgt p x∧0<zgs p x:=by
 unfold zgt zgs;rw [zie,zid,hx];exact ⟨zig h.pos,zig h.pos⟩
def Tl9 (x:List Int):Prop:=∀ i,0<i→(zas x i).natAbs≤9
theorem Tl9.bmp {x:List Int}(h:Tl9 x)(k:Int):Tl9 (bmp k x):=fun i hi=>by rw [zir k x hi];exact h i hi
theorem ziv {p:List Int}{a:Nat→Nat}{k:Nat}(hp:∀ i,i<k→0<zas p i)(hk:0<k):(zas p 0).toNat ^ a 0≤prN p a k:=by
 induction k with
 | zero=>omega
 | succ k ih =>
  rcases Nat.eq_zero_or_pos k with rfl | hk2
  ·show _≤1 * _
   rw [Nat.one_mul];exact Nat.le_refl _
  ·have:=ih (fun i hi=>hp i (by omega)) hk2
   show _≤prN p a k * (zas p k).toNat ^ a k
   exact Nat.le_trans this (Nat.le_mul_of_pos_right _ (Nat.pow_pos (by have:=hp k (by omega);omega)))
theorem ziw {p x:List Int}(h:zik p)(hx:x.length=p.length)(ht:Tl9 x)(h0:100≤zas x 0):zgt p x<zgs p x:=by
 unfold zgt zgs;rw [zie,zid,hx];have h1:=zii (p:=p) (a:=fun i=>zib (zas x i)) (b:=fun i=>if i=0 then 0 else 9) (k:=p.length) h.pos fun i hi=>by
  by_cases e:i=0
  ·subst e;unfold zib;simp;omega
  ·have:=ht i (by omega);rw [if_neg e];unfold zib;split <;> omega
 have h2:=ziv (a:=fun i=>zia (zas x i)) h.pos h.len.1;have h3:(zas p 0).toNat ^ 100≤(zas p 0).toNat ^ zia (zas x 0):=Nat.pow_le_pow_right (by have:=h.two 0 h.len.1;omega) (by unfold zia;split <;> omega)
 have:=h.top;omega
theorem zix {p x:List Int}(h:zik p)(hx:x.length=p.length)(ht:Tl9 x)(h0:zas x 0≤-100):zgs p x<zgt p x:=by
 unfold zgt zgs;rw [zie,zid,hx];have h1:=zii (p:=p) (a:=fun i=>zia (zas x i)) (b:=fun i=>if i=0 then 0 else 9) (k:=p.length) h.pos fun i hi=>by
  by_cases e:i=0
  ·subst e;unfold zia;simp;omega
  ·have:=ht i (by omega);rw [if_neg e];unfold zia;split <;> omega
 have h2:=ziv (a:=fun i=>zib (zas x i)) h.pos h.len.1;have h3:(zas p 0).toNat ^ 100≤(zas p 0).toNat ^ zib (zas x 0):=Nat.pow_le_pow_right (by have:=h.two 0 h.len.1;omega) (by unfold zib;split <;> omega)
 have:=h.top;omega
def ziy (n:Nat):List Int:=bmp 1 (zhw n)
theorem ziz {p:List Int}(h:zik p):zgs p (ziy p.length)=(zas p 0).toNat∧zgt p (ziy p.length)=1:=by
 have hz:(zhw p.length).length=p.length:=List.length_replicate;have e1:zgs p (zhw p.length)=1:=(zh0 p _ _).1;have e2:zgt p (zhw p.length)=1:=(zh0 p _ _).2;have hb:=zit h hz;have hd:zgt p (ziy p.length)=1:=by
  unfold zgt ziy;rw [zin,hz,zie];have:prN p (fun i=>zib (zas (bmp 1 (zhw p.length)) i)) p.length=prN p (fun _=>0) p.length:=zih fun i hi=>by
   by_cases e:i=0
   ·subst e;rw [ziq (by rw [hz];exact hi)];unfold zhw;rw [zhz];rfl
   ·rw [zir 1 _ (by omega)];unfold zhw;rw [zhz];rfl
  rw [this];have:∀ k,prN p (fun _=>0) k=1:=fun k=>by
   induction k with
   | zero=>rfl
   | succ k ih=>show prN p (fun _=>0) k * _ ^ 0=1;rw [ih];rfl
  exact this _
 rw [e1,e2] at hb;have e3:bmp 1 (zhw p.length)=ziy p.length:=rfl;rw [e3,hd] at hb;exact ⟨by omega,hd⟩
theorem zi0 (a b:Int):zbj a b<0 ↔ a<b:=by unfold zbj;(repeat' split) <;> omega
theorem zi1 {p x:List Int}(h:zik p)(hx:x.length=p.length)(h1:zgs p x<zgt p x):zhs p (bmp 1 x) (ziy p.length)<0:=by
 obtain ⟨e1,e2⟩:=ziz h;unfold zhs;rw [zi0,e1,e2,Nat.mul_one];have hb:=zit h hx;obtain ⟨d1,_⟩:=ziu h hx;obtain ⟨d2,_⟩:=ziu (x:=bmp 1 x) h (by rw [zin,hx]);have hp:0<(zas p 0).toNat:=by have:=h.two 0 h.len.1;omega
 have h2:zgs p x * zgt p (bmp 1 x)<zgt p x * zgt p (bmp 1 x):=Nat.mul_lt_mul_of_pos_right h1 d2;have h3:(zas p 0).toNat * (zgs p x * zgt p (bmp 1 x))<(zas p 0).toNat * (zgt p x * zgt p (bmp 1 x)):=Nat.mul_lt_mul_of_pos_left h2 hp;rw [← hb,show (zas p 0).toNat * (zgt p x * zgt p (bmp 1 x))=(zas p 0).toNat * zgt p (bmp 1 x) * zgt p x by rw [Nat.mul_assoc,Nat.mul_comm (zgt p x)]] at h3;have:=Nat.lt_of_mul_lt_mul_right h3;omega
theorem zi2 {p x:List Int}(h:zik p)(hx:x.length=p.length)(h1:¬ zhs p x (ziy p.length)<0):zgt p (bmp (-1) x)≤zgs p (bmp (-1) x):=by
 apply Classical.byContradiction;intro hn;have h2:=zi1 h (x:=bmp (-1) x) (by rw [zin,hx]) (by omega);rw [zio,show (-1:Int)+1=0 from rfl,zip] at h2;exact h1 h2
end Go.Proofs.YtkdgmahilfnnmaaGreatDoor
