/- Walk: schismaref03's From at any length. Walk: schismaref03's Make at any length. Walks: schismaref03's plus at any length. (Printed by wip/r3p.py.) -/
import Derived.Test.YtoehmpbipbbffaaGreatDoorShelfK
import Derived.Test.YtoehmpbipbbffaaGreatDoorPa25
import Derived.Test.YtoehmpbipbbffaaGreatDoorPa05
import Derived.Test.YtoehmpbipbbffaaGreatDoorPa26
import Derived.Test.YtoehmpbipbbffaaGreatDoorPa10
set_option maxRecDepth 100000
set_option maxHeartbeats 2000000
namespace Go.Proofs.YtoehmpbipbbffaaGreatDoor
open Go.RowKit Go.Lib Go.Shelf
attribute [local go_sem] Oper.semAt_some
theorem zo6 (n:Nat):Lib.repeatL [48] n=List.replicate n 48:=by
 induction n with
 | zero=>rfl
 | succ k ih=>rw [Lib.repeatL,ih];rfl
theorem zo7 (n:Nat)(w:World)(hn:n≤9) :
  Calls Tryz.prog 139 #[.string ⟨#[48]⟩,.int .i64 n] w fun e w'=>e=.returned (.string ⟨(List.replicate n 48).toArray⟩)∧Ext w w':=by
 refine (Any.strings_Repeat Tryz.lRepeat Tryz.lRepeatX ⟨#[48]⟩ n w (by omega) (by show 1 * n≤_;omega)).mono fun e w' ⟨h,hb⟩=>⟨?_,hb⟩;rw [h,← zo6]
def zo8 (n:Nat):Nat→ByteArray
 | 0=>⟨#[]⟩
 | k+1=>Zn (9 - nDigits (nth (Dec.P n) k)) (nth (Dec.P n) k)++zo8 n k
theorem zo9 (n:Nat):∀ k,k<(Dec.P n).length→D (n / Dec.B ^ k)++zo8 n k=D n:=by
 intro k;induction k with
 | zero =>
  intro _
  rw [Nat.pow_zero,Nat.div_one]
  show D n++(⟨#[]⟩:ByteArray)=D n
  apply ByteArray.ext
  rw [ByteArray.data_append]
  simp
 | succ k ih =>
  intro hk
  have h1:=ih (by omega)
  have h2:0<n / Dec.B ^ (k+1):=by
   have h3:=(zno (n:=n) (m:=(Dec.P n).length - 1) (by omega)).2;have h4:n / Dec.B ^ ((Dec.P n).length - 1)≤n / Dec.B ^ (k+1):=Nat.div_le_div_left (Nat.pow_le_pow_right Dec.B_pos (by omega)) (Nat.pow_pos Dec.B_pos);omega
  have h5:=znn h2 (Dec.small_getD (Dec.small_P n) k)
  rw [show ((Dec.P n).getD k 0)=nth (Dec.P n) k from rfl] at h5
  rw [znp n k,← h5] at h1
  show D (n / Dec.B ^ (k+1))++(Zn (9 - nDigits (nth (Dec.P n) k)) (nth (Dec.P n) k)++zo8 n k)=D n
  rw [← h1,ByteArray.append_assoc]
theorem zoA (n:Nat):∀ k,(zo8 n k).size≤9 * k:=by
 intro k;induction k with
 | zero=>exact Nat.le_refl _
 | succ k ih =>
  show (Zn (9 - nDigits (nth (Dec.P n) k)) (nth (Dec.P n) k)++zo8 n k).size≤_
  rw [ByteArray.size_append,znm]
  have:=Dec.nDigits_le (n:=nth (Dec.P n) k) (k:=9) (by decide) (Dec.small_getD (Dec.small_P n) k)
  omega
theorem zoB (t X:Nat):(⟨(List.replicate t 48).toArray⟩:ByteArray)++D X=Zn t X:=by
 apply ByteArray.ext;rw [ByteArray.data_append];show (List.replicate t 48).toArray++(decDigits X).toArray=(List.replicate t 48++decDigits X).toArray;simp
theorem zoC (z:Int)(h:z<0):(⟨#[45]⟩:ByteArray)++D z.natAbs=I z:=by
 apply ByteArray.ext;rw [ByteArray.data_append];show #[45]++(decDigits z.natAbs).toArray=(itoa z).toArray;unfold itoa;rw [if_pos h];have e:(-z).toNat=z.natAbs:=by omega
 first | (rw [e];simp) | simp
def zoD (n L k:Nat)(S:ByteArray):Prop:=(k<L→S=zo8 n k)∧(k=L→S=D n)
theorem zoE (v:Value)(z:Int)(w:World)(he:Env w)(h:WB w v z)(hl:(Dec.P z.natAbs).length≤900) :
  Calls Tryz.prog 105 #[v] w fun e w'=>e=.returned (.string (I z))∧Ext w w':=by
 obtain ⟨bx,ap,cp,rfl,hbx,hp⟩:=h.let_;have Hbx:=hid hbx;clear h hbx;obtain ⟨n,hn⟩:∃ n,n=z.natAbs:=⟨_,rfl⟩;have hneg:z<0→(⟨#[45]⟩:ByteArray)++D n=I z:=fun h=>by rw [hn];exact zoC z h
 have hpos:¬ z<0→D n=I z:=fun h=>by rw [← zav];congr 1;omega
 have hzz:(Dec.P n).length=0→I z=⟨#[48]⟩:=fun h=>by
  have h2:n=0:=by
   rcases Nat.eq_zero_or_pos n with e | e
   ·exact e
   ·have:=Dec.P_len_pos (n:=n) (by omega);omega
  have h3:z=0:=by omega
  rw [h3];decide +kernel
 rw [← hn] at hp hl ⊢;have hsm:=Dec.small_P n;have hhd:=fun m=>zno (n:=n) (m:=m);have hcat:=zo9 n;have hDs:(D n).size≤9 * (Dec.P n).length+1:=by
  rw [zau];refine Dec.nDigits_le (by omega) ?_;have h1:=Dec.P_len_lt n;rw [Dec.pow_B] at h1;exact Nat.lt_of_lt_of_le h1 (Nat.pow_le_pow_right (by omega) (by omega))
 have hlow:∀ k,zo8 n (k+1)=Zn (9 - nDigits (nth (Dec.P n) k)) (nth (Dec.P n) k)++zo8 n k:=fun k=>rfl;have hlz:=zoA n;have hI:zoD n (Dec.P n).length 0 ⟨#[]⟩∨(Dec.P n).length=0:=by
  rcases Nat.eq_zero_or_pos (Dec.P n).length with e | e
  ·exact .inr e
  ·exact .inl ⟨fun _=>rfl,fun h=>absurd h (by omega)⟩
 generalize hpP:Dec.P n=p at *;obtain ⟨V,hV⟩:∃ V,V=w.alloc (.cells #[.bool bx,.slice ap p.length cp] 97):=⟨_,rfl⟩;have hb:=zdV.new 97 w (.bool bx) (.slice ap p.length cp);rw [← hV] at hb;have hx:Ext w V:=by rw [hV];exact (Ext.refl w).alloc _
 have hit:=fun (l:Nat) W (hE:Ext V W)(hB:l<1000000000)=>za9 (l:Int) (by omega) (by omega) W (he.ext (hx.trans hE));have hrd:=fun W (hE:Ext V W)=>(hb.ext hE).c1;have hrd0:=fun W (hE:Ext V W)=>(hb.ext hE).c0;have Hp:=hid (hx.sl hp);have Hsm:=hid hsm;have Hhd:=hid hhd;have Hcat:=hid hcat;have HDs:=hid hDs;have Hlow:=hid hlow;have Hlz:=hid hlz;have HI:=hid hI;have HV:=hid hV;have Hx:=hid hx;have Hit:=hid hit;have Hrd:=hid hrd;have Hrd0:=hid hrd0;have Hneg:=hid hneg;have Hpos:=hid hpos;have Hzz:=hid hzz;have q0:=hb.c0;have q1:=hb.c1;clear hp hsm hhd hcat hDs hlow hlz hI hx hit hrd hrd0 hneg hpos hzz hb he hpP hn;subst hV;generalize hLp:p.length=L at *;have HLp:=hid hLp;clear hLp;go_enter Tryz.func105,Tryz.ntmps105
 rcases Nat.eq_zero_or_pos L with h0 | h0
 ·subst h0;have e:=Hzz.out rfl;have E:=hid e;clear e;go_wp2_with fail
  go_ret
  exact ⟨by rw [E.out] <;> rfl,Hx.out⟩
 ·have h0i:((L:Int) == 0)=false:=beq_eq_false_iff_ne.2 (by omega);have hI0:zoD n L 0 ⟨#[]⟩:=by
   rcases HI.out with g | g
   ·exact g
   ·omega
  have HI0:=hid hI0;have Hh0:=hid h0;clear hI0 h0;go_wp2_with fail
  clear q0 q1;go_loopw [3,4] (fun v3 v4 wr=>∃ (k:Nat)(S:ByteArray),v3=.string S∧v4=.int .i64 k∧k≤L∧Hid (zoD n L k S)∧Hid (Ext _ wr)) (fun _ v4 _=>L - (zag v4).toNat)
  case atStart=>exact ⟨0,⟨#[]⟩,rfl,rfl,Nat.zero_le _,HI0,hid (Ext.refl _)⟩
  case round =>
   obtain ⟨k,S,rfl,rfl,hk,HO,HE⟩:=hrel;have r1:=Hrd.out _ HE.out;have r0:=Hrd0.out _ HE.out;rcases Nat.lt_or_ge k L with hkl | hkl
   ·obtain ⟨bp,op,e2,hc⟩:=zmW (HE.out.sl Hp.out) k (by have:=HLp.out;omega)
    cases e2
    have hxB:nth p k<1000000000:=Dec.small_getD Hsm.out k;have hi:=Hit.out (nth p k) _ HE.out hxB;rw [zav] at hi;have hS:S=zo8 n k:=HO.out.1 hkl;have hSz:S.size≤9 * k:=(by rw [hS];exact Hlz.out k);have hki:(k:Int)<(L:Int):=(by omega);have hk0:(0:Int)≤(k:Int):=(by omega);have hD9:(D (nth p k)).size≤9:=(by rw [zau];exact Dec.nDigits_le (by decide) hxB);rcases Nat.lt_or_ge (k+1) L with hk2 | hk2
    ·have hnext:(⟨(List.replicate (9 - (D (nth p k)).size) 48).toArray⟩:ByteArray)++D (nth p k)++S=zo8 n (k+1):=by
      rw [zoB,Hlow.out k,hS,zau]
     have hzr:=fun W=>zo7 (9 - (D (nth p k)).size) W (by omega);have hzs:(⟨(List.replicate (9 - (D (nth p k)).size) 48).toArray⟩:ByteArray).size=9 - (D (nth p k)).size:=by
      show (List.replicate (9 - (D (nth p k)).size) 48).toArray.size=_;rw [List.size_toArray,List.length_replicate]
     generalize nth p k=X at *;generalize D X=S1 at *;obtain ⟨t,ht⟩:∃ t,t=9 - S1.size:=⟨_,rfl⟩;rw [← ht] at hnext hzr hzs;have hsub:(9:Int) - (S1.size:Int)=(t:Int):=(by omega);generalize (⟨(List.replicate t 48).toArray⟩:ByteArray)=ZZ at *;have hk2i:(k:Int)+1<(L:Int):=(by omega);have Hi:=hid hi;have Hnext:=hid hnext;have Hzr:=hid hzr;have Hk2:=hid hk2;have hn1:¬ 9223372036854775807<ZZ.size+S1.size:=(by omega);have hn2:¬ 9223372036854775807<ZZ.size+S1.size+S.size:=(by omega);clear hi hnext hzr hS ht hzs hk2;go_wp2_with fail
     refine Hi.out.mono ?_;rintro e w2 ⟨rfl,hx2⟩;have HE2:=hid (HE.out.trans hx2);have r12:=Hrd.out _ HE2.out;clear hx2 r1 r0 hc;go_wp2_with fail
     refine (Hzr.out _).mono ?_;rintro e w3 ⟨rfl,hx3⟩;have HE3:=hid (HE2.out.trans hx3);clear hx3 r12;go_wp2_with fail
     go_roundw
     case rel=>exact ⟨k+1,ZZ++S1++S,rfl,by go_num,hkl,hid ⟨fun _=>Hnext.out,fun g=>absurd g (by have:=Hk2.out;omega)⟩,HE3⟩
     case measure=>simp [zag];omega
    ·have hkL:k+1=L:=(by omega);obtain ⟨hh1,_⟩:=Hhd.out k (by have:=HLp.out;omega);have hnext:D (nth p k)++S=D n:=by
      rw [hh1,hS];exact Hcat.out k (by have:=HLp.out;omega)
     generalize nth p k=X at *;generalize D X=S1 at *;have hk2i:¬ (k:Int)+1<(L:Int):=(by omega);have Hi:=hid hi;have Hnext:=hid hnext;have HkL:=hid hkL;have hn1:¬ 9223372036854775807<S1.size+S.size:=(by omega);clear hi hnext hS hkL hh1 hk2;go_wp2_with fail
     refine Hi.out.mono ?_;rintro e w2 ⟨rfl,hx2⟩;have HE2:=hid (HE.out.trans hx2);have r12:=Hrd.out _ HE2.out;clear hx2 r1 r0 hc;go_wp2_with fail
     go_roundw
     case rel=>exact ⟨k+1,S1++S,rfl,by go_num,hkl,hid ⟨fun g=>absurd g (by have:=HkL.out;omega),fun _=>Hnext.out⟩,HE2⟩
     case measure=>simp [zag];omega
   ·obtain rfl:k=L:=by omega
    have hS:=HO.out.2 rfl;subst hS;have hki:¬ (k:Int)<(k:Int):=(by omega);have hn1:¬ 9223372036854775807<1+(D n).size:=(by have:=HDs.out;omega);have HEw:=hid (Hx.out.trans HE.out);by_cases hz:z<0
    ·have hbx:=Hbx.out;rw [decide_eq_true hz] at hbx;subst hbx;have Hi:=hid (Hneg.out hz);go_wp2_with fail
     go_ret
     exact ⟨by rw [← Hi.out] <;> rfl,HEw.out⟩
    ·have hbx:=Hbx.out;rw [decide_eq_false (by omega)] at hbx;subst hbx;have Hi:=hid (Hpos.out (by omega));go_wp2_with fail
     go_ret
     exact ⟨by rw [← Hi.out] <;> rfl,HEw.out⟩
theorem zoF {w:World}{v:Value}{z:Int}(h:WB w v z)(hz:z.natAbs<1000000000):W1 w v z:=by
 obtain ⟨u,e,hs⟩:=h;refine ⟨u,e,?_⟩;rw [zmZ] at hs;have hd:(Dec.P z.natAbs).map (fun (n:Nat)=>(n:Int))=dg z:=by
  unfold dg;by_cases h0:z=0
  ·rw [h0,if_pos rfl];show (Dec.P 0).map _=_;rw [Dec.P_zero];rfl
  ·rw [if_neg h0,Dec.P_pos (by omega),show Dec.B=1000000000 from rfl,Nat.div_eq_of_lt hz,Dec.P_zero,Nat.mod_eq_of_lt hz];rfl
 rw [hd] at hs;exact hs
theorem WB.let1 {w:World}{v:Value}{z:Int}(h:WB w v z):∃ b a l c,v=.agg #[.bool b,.slice a l c]∧WB w (.agg #[.bool b,.slice a l c]) z:=by
 obtain ⟨b,a,l,c,e,h,_⟩:=h.letl;exact ⟨b,a,l,c,e,h⟩
theorem zoG {n:Nat}(h:(Dec.P n).length≤1):n<1000000000:=by
 have:=Dec.P_len_lt n;have h2:Dec.B ^ (Dec.P n).length≤Dec.B ^ 1:=Nat.pow_le_pow_right (by unfold Dec.B;omega) h;have h3:Dec.B ^ 1=1000000000:=rfl;omega
theorem zoH (va vb:Value)(x:Int)(d:Nat)(w:World)(he:Env w)(ha:WB w va x)(hb:WB w vb (d:Int))(hlx:(Dec.P x.natAbs).length≤200)(hld:(Dec.P d).length≤200)(hd:0<d) :
  Calls Tryz.prog 66 #[va,vb] w fun e w'=>e=.returned (Rv (mkRat x d))∧Ext w w':=by
 by_cases hsm:(Dec.P x.natAbs).length≤1∧(Dec.P d).length=1
 ·have h1:=zoG hsm.1;have h2:=zoG (Nat.le_of_eq hsm.2);exact zgA va vb x d w he (zoF ha h1) (zoF hb (by omega)) h1 hd h2
 ·obtain ⟨e1,e2⟩:=zg8 x d hd;obtain ⟨g,hg⟩:∃ g,g=Nat.gcd x.natAbs d:=⟨_,rfl⟩;have hgp:0<g:=by rw [hg];exact Nat.gcd_pos_of_pos_right _ hd
  have hgd:g≤d:=by rw [hg];exact Nat.gcd_le_right _ hd
  have hlg:(Dec.P g).length≤200:=Nat.le_trans (Dec.P_len_mono hgd) hld;rw [← hg] at e1 e2;have hnx:(mkRat x d).num.natAbs=x.natAbs / g:=by rw [e1];generalize x.natAbs / g=m;unfold zgv;split <;> omega
  have hsg:=fun W (hE:Ext w W)=>zn5 vb (d:Int) W (hb.ext hE);rw [show (d:Int).sign=1 from Int.sign_eq_one_of_pos (by omega)] at hsg;have hgc:=fun W (hE:Ext w W)=>zn3 va vb x (d:Int) W (ha.ext hE) (hb.ext hE) hlx (by rw [Int.natAbs_natCast];exact hld);rw [Int.natAbs_natCast,← hg] at hgc;obtain ⟨bx,ap,cp,rfl,hbx,hp⟩:=ha.let_;obtain ⟨bd,aq,cq,rfl,hbd,hq⟩:=hb.let_;rw [decide_eq_false (show ¬ (d:Int)<0 by omega)] at hbd;subst hbd;rw [Int.natAbs_natCast] at *;have hd1:=fun W vg (hE:Ext w W)(h:Sl W vg (nis (Dec.P g)))=>znz _ vg x.natAbs g W (hE.sl hp) h hgp hlx hlg;have hd2:=fun W vg (hE:Ext w W)(h:Sl W vg (nis (Dec.P g)))=>znz _ vg d g W (hE.sl hq) h hgp hld hlg;have hlq1:(Dec.P (x.natAbs / g)).length≤200:=Nat.le_trans (Dec.P_len_mono (Nat.div_le_self _ _)) hlx;have hlq2:(Dec.P (d / g)).length≤200:=Nat.le_trans (Dec.P_len_mono (Nat.div_le_self _ _)) hld;have htr:=fun W u (h:Sl W u (nis (Dec.P (x.natAbs / g))))=>znb u bx _ W h (Dec.small_P _) (by omega);rw [Dec.pv_P,hbx,← e1] at htr;have hf1:=fun W v (hE:Ext w W)(h:WB W v (mkRat x d).num)=>zoE v _ W (he.ext hE) h (by rw [hnx];omega);have hf2:=fun W u (hE:Ext w W)(h:Sl W u (nis (Dec.P (d / g))))=>zoE (.agg #[.bool false,u]) ((mkRat x d).den:Int) W (he.ext hE) ⟨u,by rw [decide_eq_false (by omega)],by rw [Int.natAbs_natCast,e2];exact h⟩ (by rw [Int.natAbs_natCast,e2];omega);rw [← hbx] at htr;unfold Rv;generalize (mkRat x d).num=zn at *;generalize (mkRat x d).den=zd at *;generalize I zn=s1 at *;generalize I (zd:Int)=s2 at *;have hk2:=zdX 97 97 57 w (.bool bx) (.slice ap (Dec.P x.natAbs).length cp) (.bool false) (.slice aq (Dec.P d).length cq) (.string ⟨#[]⟩) (.string ⟨#[]⟩);generalize hV:((w.alloc (.cells #[.bool bx,.slice ap (Dec.P x.natAbs).length cp] 97)).alloc (.cells #[.bool false,.slice aq (Dec.P d).length cq] 97)).alloc (.cells #[.string ⟨#[]⟩,.string ⟨#[]⟩] 57)=V at *;have hk:=hk2.1;have p0:=hk.a.c0;have p1:=hk.a.c1;have q0:=hk.b.c0;have q1:=hk.b.c1;have Hk:=hid hk;have Hsg:=hid hsg;have Hgc:=hid hgc;have Hd1:=hid hd1;have Hd2:=hid hd2;have Htr:=hid htr;have Hf1:=hid hf1;have Hf2:=hid hf2;have Hgw:=hid hg;generalize (Dec.P x.natAbs).length=lx at *;generalize (Dec.P d).length=ld at *;clear hk hk2 hsg hgc hd1 hd2 htr hf1 hf2 he ha hb hp hq hlx hld hd hlg hgp hgd hlq1 hlq2 e1 e2 hnx hbx hg;rcases (by omega:¬ lx≤1∨(lx≤1∧¬ ld=1)) with hA | hA
  case' inl =>
   have g1:¬ (lx:Int)≤1:=(by omega);have g2:decide ((lx:Int)≤1)=false:=decide_eq_false g1
  case' inr =>
   have g1:(lx:Int)≤1:=(by omega);have g2:((ld:Int) == 1)=false:=beq_eq_false_iff_ne.2 (by omega);have g3:¬ (ld:Int)=1:=by omega
  all_goals
   clear hsm hA;go_enter Tryz.func66,Tryz.ntmps66
   go_wp2_with fail
   refine (Hsg.out V Hk.out.x).mono ?_;rintro e w1 ⟨rfl,hx1⟩;have hk1:=Hk.out.ext hx1;have p0:=hk1.a.c0;have p1:=hk1.a.c1;have q0:=hk1.b.c0;have q1:=hk1.b.c1;have Hk1:=hid hk1;clear hk1 hx1;go_wp2_with fail
   refine (Hgc.out w1 Hk1.out.x).mono ?_;rintro e w2 ⟨v2,rfl,hw2,hx2⟩;obtain ⟨bg,ag,lg,cg,rfl,_,hsg2⟩:=hw2.letl;rw [Int.natAbs_natCast] at hsg2;have hx5:Ext w1 (w2.alloc (.cells #[.bool bg,.slice ag lg cg] 97)):=hx2.alloc _;have hk5:=Hk1.out.ext hx5;have b5:=zdV.new 97 w2 (.bool bg) (.slice ag lg cg);have hs5:=((Ext.refl w2).alloc (.cells #[.bool bg,.slice ag lg cg] 97)).sl hsg2;have p0:=hk5.a.c0;have p1:=hk5.a.c1;have q0:=hk5.b.c0;have q1:=hk5.b.c1;have r0:=b5.c0;have r1:=b5.c1;have Hk5:=hid hk5;have B5:=hid b5;have Hs5:=hid hs5;clear hk5 hx5 b5 hs5 hsg2 hw2 hx2;go_wp2_with fail
   generalize hV5:w2.alloc (.cells #[.bool bg,.slice ag lg cg] 97)=V5 at *;generalize w2.heap.size=h5 at *;clear hV5;refine (Hd1.out V5 _ Hk5.out.x Hs5.out).mono ?_;rintro e w6 ⟨u6,r6,rfl,ho6,hor6,hx6⟩;obtain ⟨a6,c6,rfl⟩:=zel ho6;obtain ⟨a7,c7,rfl⟩:=zel hor6;have hk6:=Hk5.out.ext hx6;have b6:=B5.out.ext hx6;have p0:=hk6.a.c0;have p1:=hk6.a.c1;have q0:=hk6.b.c0;have q1:=hk6.b.c1;have r0:=b6.c0;have r1:=b6.c1;have Hk6:=hid hk6;have B6:=hid b6;have Hs6:=hid (hx6.sl Hs5.out);have Ho6:=hid ho6.sl;clear hk6 b6 ho6 hor6 hx6;generalize (Dec.P (x.natAbs / g)).length=n6 at *;generalize (Dec.P (x.natAbs % g)).length=n7 at *;go_wp2_with fail
   refine (Hd2.out w6 _ Hk6.out.x Hs6.out).mono ?_;rintro e w7 ⟨u7,r7,rfl,ho7,hor7,hx7⟩;obtain ⟨a8,c8,rfl⟩:=zel ho7;obtain ⟨a9,c9,rfl⟩:=zel hor7;have hk7:=Hk6.out.ext hx7;have p0:=hk7.a.c0;have p1:=hk7.a.c1;have q0:=hk7.b.c0;have q1:=hk7.b.c1;have htr7:=Htr.out w7 _ (hx7.sl Ho6.out);have Hk7:=hid hk7;have Ho7:=hid ho7.sl;have Htr7:=hid htr7;clear hk7 ho7 hor7 hx7 htr7;generalize (Dec.P (d / g)).length=n8 at *;generalize (Dec.P (d % g)).length=n9 at *;go_wp2_with fail
   refine Htr7.out.mono ?_;rintro e w8 ⟨v8,rfl,hw8,hx8⟩;obtain ⟨b8,a10,l8,c10,rfl,hw8⟩:=hw8.let1;have hk8:=Hk7.out.ext hx8;have p0:=hk8.a.c0;have p1:=hk8.a.c1;have q0:=hk8.b.c0;have q1:=hk8.b.c1;have hf18:=Hf1.out w8 _ hk8.x hw8;have Hk8:=hid hk8;have Ho8:=hid (hx8.sl Ho7.out);have Hf18:=hid hf18;clear hk8 hx8 hw8 hf18;go_wp2_with fail
   refine Hf18.out.mono ?_;rintro e w9 ⟨rfl,hx9⟩;have hk9:=Hk8.out.ext hx9;have hf29:=Hf2.out w9 _ hk9.x (hx9.sl Ho8.out);have Hk9:=hid hk9;have Hf29:=hid hf29;clear hk9 hx9 hf29;go_wp2_with fail
   refine Hf29.out.mono ?_;rintro e w10 ⟨rfl,hx10⟩;have hk10:=Hk9.out.ext hx10;have k0:=hk10.res.c0;have k1:=hk10.res.c1;have z0:=hk10.res.fz 0;have z1:=hk10.res.fz 1;obtain ⟨hb10,hfx⟩:=hk10.fin (by omega) (.string s1) (.string s2);have Hfx:=hid hfx;clear hfx hk10 hx10;go_wp2_with fail
   have hd0:=hb10.c0;have hd1:=hb10.c1;exact bodyPost_ret (v:=.agg #[.string s1,.string s2]) (by simp [results,Tryz.results66,go_sem,hd0,hd1]) rfl ⟨rfl,Hfx.out⟩
theorem zoI {o p q:List Nat}{k c c' x:Nat}(ho:o.length=k)(hx:x+Dec.B * c'=c+p.getD k 0+q.getD k 0)(h:Dec.pv o+c * Dec.B ^ k=Dec.pv (p.take k)+Dec.pv (q.take k)) :
  Dec.pv (o++[x])+c' * Dec.B ^ (k+1)=Dec.pv (p.take (k+1))+Dec.pv (q.take (k+1)):=by
 rw [Dec.pv_append,ho,znh,znh,Nat.pow_succ];have e:=congrArg (· * Dec.B ^ k) hx;simp only [Nat.add_mul] at e;have e1:Dec.pv [x]=x:=by simp [Dec.pv]
 have e2:c' * (Dec.B ^ k * Dec.B)=Dec.B * c' * Dec.B ^ k:=by rw [Nat.mul_comm (Dec.B ^ k) Dec.B,← Nat.mul_assoc,Nat.mul_comm c' Dec.B]
 have e3:Dec.B ^ k * x=x * Dec.B ^ k:=Nat.mul_comm ..;rw [e1,e2,e3];omega
structure zoJ (M:Nat)(p q:List Nat)(w0:World)(k c:Nat)(o:List Nat)(v:Value)(wr:World):Prop where
 n:o.length=k
 sm:Dec.Small o
 c1:c≤1
 end_:k≤M∨k=M+1∧c=0
 pv:Dec.pv o+c * Dec.B ^ k=Dec.pv (p.take k)+Dec.pv (q.take k)
 own:zmQ wr w0.heap.size v o
 x:Ext w0 wr
theorem zoJ.next {M:Nat}{p q:List Nat}{w0 wr V:World}{k c c' x:Nat}{o:List Nat}{v v7:Value}(h:zoJ M p q w0 k c o v wr)(hk:k<M∨k=M∧c'=0)(hb:c'≤1)(hxB:x<1000000000)(hx:x+1000000000 * c'=c+nth p k+nth q k)(hX:Ext w0 V)
  (hown:V.ownsRow w0.heap.size 3 1 v7 (k+1) (nis o++[Value.int .i64 (x:Int)])):zoJ M p q w0 (k+1) c' (o++[x]) v7 V :=
 ⟨by rw [List.length_append,List.length_singleton,h.n],Dec.small_snoc h.sm hxB,hb,by omega,zoI h.n hx h.pv,by
  unfold zmQ nis;rw [List.length_append,List.length_singleton,h.n,List.map_append];exact hown,hX⟩
theorem zoK (vp vq:Value)(a b:Nat)(w:World)(hp:Sl w vp (nis (Dec.P a)))(hq:Sl w vq (nis (Dec.P b)))(hlp:(Dec.P a).length≤900)(hlq:(Dec.P b).length≤900) :
  Calls Tryz.prog 167 #[vp,vq] w fun e w'=>(∃ o,Dec.Small o∧Dec.pv o=a+b∧o.length≤1000∧zmR w' w.heap.size o e)∧Ext w w':=by
 have hsp:=Dec.small_P a;have hsq:=Dec.small_P b;have hpa:=Dec.pv_P a;have hpb:=Dec.pv_P b;generalize Dec.P a=p at *;generalize Dec.P b=q at *;obtain ⟨ap,cp,rfl,_,_,_⟩:=hp.parts;obtain ⟨aq,cq,rfl,_,_,_⟩:=hq.parts;rw [zmO] at *;rw [zmO] at *;obtain ⟨i0,hj,hz0,hz1,hz2⟩:=info_parts zej;obtain ⟨M,hM⟩:∃ M,M=max p.length q.length:=⟨_,rfl⟩;have hM1:p.length≤M∧q.length≤M∧M≤900:=by omega
 have hM2:M≤p.length∨M≤q.length:=by omega
 have HM2:=hid hM2;clear hM hM2;have Hp:=hid hp;have Hq:=hid hq;have Hsp:=hid hsp;have Hsq:=hid hsq;have Hpa:=hid hpa;have Hpb:=hid hpb;clear hp hq hsp hsq hpa hpb;go_enter Tryz.func167,Tryz.ntmps167
 go_wp2_with fail
 go_loopw [5,6,7] (fun v5 v6 v7 wr=>∃ (k c:Nat)(o:List Nat),v7=.int .i64 k∧v6=.int .i64 c∧Hid (zoJ M p q w k c o v5 wr)) (fun _ _ v7 _=>M+1 - (zag v7).toNat)
 case atStart=>exact ⟨0,0,[],rfl,rfl,hid ⟨rfl,by simp [Dec.Small],Nat.zero_le _,.inl (Nat.zero_le _),by simp [Dec.pv],⟨rfl,.inl ⟨rfl,rfl⟩⟩,Ext.refl _⟩⟩
 case round =>
  obtain ⟨k,c,o,rfl,rfl,HR⟩:=hrel;have hc1:=HR.out.c1;have hX:=HR.out.x;have hwr:=hX.size;have hend:=HR.out.end_;have hkM:k≤901:=by omega
  have hown:=HR.out.own;unfold zmQ at hown;rw [HR.out.n] at hown;obtain ⟨al,cl,rfl⟩:=zel hown;have hxa:nth p k<Dec.B:=Dec.small_getD Hsp.out k;have hxb:nth q k<Dec.B:=Dec.small_getD Hsq.out k;unfold Dec.B at hxa hxb;have hnx:=fun (c' x:Nat)(v7:Value)(V:World)(hk:k<M∨k=M∧c'=0)(hb:c'≤1)(hxB:x<1000000000)(hx:x+1000000000 * c'=c+nth p k+nth q k)(hE:Ext w V)(ho:V.ownsRow w.heap.size 3 1 v7 (k+1) (nis o++[Value.int .i64 (x:Int)]))=>HR.out.next hk hb hxB hx hE ho;have hp0:p.length≤k→nth p k=0:=fun h=>by unfold nth;rw [List.getD_eq_getElem?_getD,List.getElem?_eq_none h];rfl
  have hq0:q.length≤k→nth q k=0:=fun h=>by unfold nth;rw [List.getD_eq_getElem?_getD,List.getElem?_eq_none h];rfl
  have hk0:(0:Int)≤(k:Int):=by omega
  have hm3:k+1≤maxLen:=by unfold maxLen;omega
  have hm4:(k+1) * 8≤140737488355328:=by omega
  rcases Nat.lt_or_ge k p.length with hkp | hkp
  ·rcases Nat.lt_or_ge k q.length with hkq | hkq
   ·skip;obtain ⟨bp,op,rfl,hcp⟩:=zmW (hX.sl Hp.out) k hkp;have hk1:(k:Int)<(p.length:Int):=(by omega);obtain ⟨bq,oq,rfl,hcq⟩:=zmW (hX.sl Hq.out) k hkq;have hk2:(k:Int)<(q.length:Int):=(by omega);have HM:Hid (k<M):=hid (by omega);generalize nth p k=X at *;generalize nth q k=Y at *;have Hown:=hid hown;have HX:=hid hX;have Hnx:=hid hnx;clear hown hX hnx hp0 hq0 hend;obtain ⟨S,hS⟩:∃ S:Nat,S=c+X+Y:=⟨_,rfl⟩;obtain ⟨S1,hS1⟩:∃ S1:Nat,S1=c+X:=⟨_,rfl⟩;have hs1:(c:Int)+(X:Int)=(S1:Int):=(by omega);have hs2:(S1:Int)+(Y:Int)=(S:Int):=(by omega);obtain ⟨x,hx⟩:∃ x:Nat,x=S % 1000000000:=⟨_,rfl⟩;obtain ⟨y,hy⟩:∃ y:Nat,y=S / 1000000000:=⟨_,rfl⟩;have hr1:(S:Int).tmod 1000000000=(x:Int):=(by rw [Int.tmod_eq_emod_of_nonneg (by omega)];omega);have hr2:(S:Int) % 1000000000=(x:Int):=(by omega);have hd1:(S:Int).tdiv 1000000000=(y:Int):=(by rw [Int.tdiv_eq_ediv_of_nonneg (by omega)];omega);have hd2:(S:Int) / 1000000000=(y:Int):=(by omega);have hfin:y≤1∧x<1000000000∧x+1000000000 * y=c+X+Y:=(by omega);have Hfin:=hid hfin;have hSb:S≤2000000001:=(by omega);have hSb1:S1≤2000000001:=(by omega);clear hfin hx hy hS hS1;go_wp2_with (at_builtin;refine wpList_append_own _ rfl _ _ 28 rfl w.heap.size 3 i0 (.int .i64 0) 1 8 Tryz.underlying28 hj hz0 hz1 hz2 rfl (by decide) _ _ _ rfl (Hown.out.alloc _) ⟨wr.heap.size,0,none⟩ 1 1 [.int .i64 (x:Int)] rfl rfl (cell_one_new _ _ _) (by simp [Value.oneCell']) hm3 hm4 (by rw [World.size_alloc];omega) ?_;intro v7 V7 hown7 hgrow7 _)
    have Hx7:=hid (show Ext w V7 from (HX.out.alloc _).grown hgrow7 fun k hk=>(World.ownsRow.lt Hown.out k hk).1);have H7:=hid (Hnx.out y x v7 V7 (.inl HM.out) Hfin.out.1 Hfin.out.2.1 Hfin.out.2.2 Hx7.out hown7);clear hown7 hgrow7;go_wp2_with fail
    go_roundw
    case rel=>exact ⟨k+1,y,_,by go_num,rfl,H7⟩
    case measure=>simp [zag];have:=HM.out;omega
   ·skip;obtain ⟨bp,op,rfl,hcp⟩:=zmW (hX.sl Hp.out) k hkp;have hk1:(k:Int)<(p.length:Int):=(by omega);have hy0:=hq0 (by omega);have hk2:¬ (k:Int)<(q.length:Int):=(by omega);have HM:Hid (k<M):=hid (by omega);generalize nth p k=X at *;generalize nth q k=Y at *;subst hy0;have Hown:=hid hown;have HX:=hid hX;have Hnx:=hid hnx;clear hown hX hnx hp0 hq0 hend;obtain ⟨S,hS⟩:∃ S:Nat,S=c+X+0:=⟨_,rfl⟩;have hs2:(c:Int)+(X:Int)=(S:Int):=(by omega);obtain ⟨x,hx⟩:∃ x:Nat,x=S % 1000000000:=⟨_,rfl⟩;obtain ⟨y,hy⟩:∃ y:Nat,y=S / 1000000000:=⟨_,rfl⟩;have hr1:(S:Int).tmod 1000000000=(x:Int):=(by rw [Int.tmod_eq_emod_of_nonneg (by omega)];omega);have hr2:(S:Int) % 1000000000=(x:Int):=(by omega);have hd1:(S:Int).tdiv 1000000000=(y:Int):=(by rw [Int.tdiv_eq_ediv_of_nonneg (by omega)];omega);have hd2:(S:Int) / 1000000000=(y:Int):=(by omega);have hfin:y≤1∧x<1000000000∧x+1000000000 * y=c+X+0:=(by omega);have Hfin:=hid hfin;have hSb:S≤2000000001:=(by omega);clear hfin hx hy hS;go_wp2_with (at_builtin;refine wpList_append_own _ rfl _ _ 28 rfl w.heap.size 3 i0 (.int .i64 0) 1 8 Tryz.underlying28 hj hz0 hz1 hz2 rfl (by decide) _ _ _ rfl (Hown.out.alloc _) ⟨wr.heap.size,0,none⟩ 1 1 [.int .i64 (x:Int)] rfl rfl (cell_one_new _ _ _) (by simp [Value.oneCell']) hm3 hm4 (by rw [World.size_alloc];omega) ?_;intro v7 V7 hown7 hgrow7 _)
    have Hx7:=hid (show Ext w V7 from (HX.out.alloc _).grown hgrow7 fun k hk=>(World.ownsRow.lt Hown.out k hk).1);have H7:=hid (Hnx.out y x v7 V7 (.inl HM.out) Hfin.out.1 Hfin.out.2.1 Hfin.out.2.2 Hx7.out hown7);clear hown7 hgrow7;go_wp2_with fail
    go_roundw
    case rel=>exact ⟨k+1,y,_,by go_num,rfl,H7⟩
    case measure=>simp [zag];have:=HM.out;omega
  ·rcases Nat.lt_or_ge k q.length with hkq | hkq
   ·skip;have hx0:=hp0 (by omega);have hk1:¬ (k:Int)<(p.length:Int):=(by omega);obtain ⟨bq,oq,rfl,hcq⟩:=zmW (hX.sl Hq.out) k hkq;have hk2:(k:Int)<(q.length:Int):=(by omega);have HM:Hid (k<M):=hid (by omega);generalize nth p k=X at *;generalize nth q k=Y at *;subst hx0;have Hown:=hid hown;have HX:=hid hX;have Hnx:=hid hnx;clear hown hX hnx hp0 hq0 hend;obtain ⟨S,hS⟩:∃ S:Nat,S=c+0+Y:=⟨_,rfl⟩;have hs2:(c:Int)+(Y:Int)=(S:Int):=(by omega);obtain ⟨x,hx⟩:∃ x:Nat,x=S % 1000000000:=⟨_,rfl⟩;obtain ⟨y,hy⟩:∃ y:Nat,y=S / 1000000000:=⟨_,rfl⟩;have hr1:(S:Int).tmod 1000000000=(x:Int):=(by rw [Int.tmod_eq_emod_of_nonneg (by omega)];omega);have hr2:(S:Int) % 1000000000=(x:Int):=(by omega);have hd1:(S:Int).tdiv 1000000000=(y:Int):=(by rw [Int.tdiv_eq_ediv_of_nonneg (by omega)];omega);have hd2:(S:Int) / 1000000000=(y:Int):=(by omega);have hfin:y≤1∧x<1000000000∧x+1000000000 * y=c+0+Y:=(by omega);have Hfin:=hid hfin;have hSb:S≤2000000001:=(by omega);clear hfin hx hy hS;go_wp2_with (at_builtin;refine wpList_append_own _ rfl _ _ 28 rfl w.heap.size 3 i0 (.int .i64 0) 1 8 Tryz.underlying28 hj hz0 hz1 hz2 rfl (by decide) _ _ _ rfl (Hown.out.alloc _) ⟨wr.heap.size,0,none⟩ 1 1 [.int .i64 (x:Int)] rfl rfl (cell_one_new _ _ _) (by simp [Value.oneCell']) hm3 hm4 (by rw [World.size_alloc];omega) ?_;intro v7 V7 hown7 hgrow7 _)
    have Hx7:=hid (show Ext w V7 from (HX.out.alloc _).grown hgrow7 fun k hk=>(World.ownsRow.lt Hown.out k hk).1);have H7:=hid (Hnx.out y x v7 V7 (.inl HM.out) Hfin.out.1 Hfin.out.2.1 Hfin.out.2.2 Hx7.out hown7);clear hown7 hgrow7;go_wp2_with fail
    go_roundw
    case rel=>exact ⟨k+1,y,_,by go_num,rfl,H7⟩
    case measure=>simp [zag];have:=HM.out;omega
   ·have hk1:¬ (k:Int)<(p.length:Int):=(by omega);have hk2:¬ (k:Int)<(q.length:Int):=(by omega);rcases (by omega:c=0∨c=1) with hc | hc
    ·subst hc;have hpv:Dec.pv o=a+b:=by
      have h:=HR.out.pv;rw [List.take_of_length_le hkp,List.take_of_length_le hkq,Hpa.out,Hpb.out,Nat.zero_mul] at h;exact h
     have hfin:Dec.Small o∧Dec.pv o=a+b∧o.length≤1000:=⟨HR.out.sm,hpv,by have:=HR.out.n;omega⟩;have Hfin:=hid hfin;have Hown:=hid HR.out.own;clear hpv hown hfin hnx hp0 hq0;go_wp2_with fail
     go_ret
     exact ⟨⟨o,Hfin.out.1,Hfin.out.2.1,Hfin.out.2.2,_,rfl,Hown.out⟩,hX⟩
    ·have hc0:(0:Int)<(c:Int):=(by omega);have hx0:=hp0 (by omega);have hy0:=hq0 (by omega);have HM:Hid (k<M∨k=M):=hid (by have:=HM2.out;omega);generalize nth p k=X at *;generalize nth q k=Y at *;subst hx0;subst hy0;have Hown:=hid hown;have HX:=hid hX;have Hnx:=hid hnx;clear hown hX hnx hp0 hq0 hend;obtain ⟨x,hx⟩:∃ x:Nat,x=c % 1000000000:=⟨_,rfl⟩;obtain ⟨y,hy⟩:∃ y:Nat,y=c / 1000000000:=⟨_,rfl⟩;have hr1:(c:Int).tmod 1000000000=(x:Int):=(by rw [Int.tmod_eq_emod_of_nonneg (by omega)];omega);have hr2:(c:Int) % 1000000000=(x:Int):=(by omega);have hd1:(c:Int).tdiv 1000000000=(y:Int):=(by rw [Int.tdiv_eq_ediv_of_nonneg (by omega)];omega);have hd2:(c:Int) / 1000000000=(y:Int):=(by omega);have hfin:y≤1∧x<1000000000∧x+1000000000 * y=c+0+0:=(by omega);have hy0:y=0:=(by omega);have Hy0:=hid hy0;clear hy0;have Hfin:=hid hfin;have hSb:c≤2000000001:=(by omega);clear hfin hx hy hc;go_wp2_with (at_builtin;refine wpList_append_own _ rfl _ _ 28 rfl w.heap.size 3 i0 (.int .i64 0) 1 8 Tryz.underlying28 hj hz0 hz1 hz2 rfl (by decide) _ _ _ rfl (Hown.out.alloc _) ⟨wr.heap.size,0,none⟩ 1 1 [.int .i64 (x:Int)] rfl rfl (cell_one_new _ _ _) (by simp [Value.oneCell']) hm3 hm4 (by rw [World.size_alloc];omega) ?_;intro v7 V7 hown7 hgrow7 _)
     have Hx7:=hid (show Ext w V7 from (HX.out.alloc _).grown hgrow7 fun k hk=>(World.ownsRow.lt Hown.out k hk).1);have H7:=hid (Hnx.out y x v7 V7 (HM.out.imp id fun h=>⟨h,Hy0.out⟩) Hfin.out.1 Hfin.out.2.1 Hfin.out.2.2 Hx7.out hown7);clear hown7 hgrow7;go_wp2_with fail
     go_roundw
     case rel=>exact ⟨k+1,y,_,by go_num,rfl,H7⟩
     case measure=>simp [zag];have:=HM.out;omega
end Go.Proofs.YtoehmpbipbbffaaGreatDoor
