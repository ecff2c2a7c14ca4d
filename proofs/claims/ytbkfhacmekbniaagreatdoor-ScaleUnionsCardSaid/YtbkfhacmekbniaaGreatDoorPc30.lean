/- Walk: schismaref03's Make at any length. Walks: schismaref03's plus at any length. (Printed by wip/r3p.py.) Walk: schismaref03's AddW at any length. (Printed by wip/r3b.py.) strconv.Atoi at a piece of digits (leading noughts too). -/
import Derived.Test.YtbkfhacmekbniaaGreatDoorPc29
import Derived.Test.YtbkfhacmekbniaaGreatDoorPc19
import Derived.Test.YtbkfhacmekbniaaGreatDoorPc28
import Derived.Deep.RegionHeld3
import Derived.Test.YtbkfhacmekbniaaGreatDoorPc01
set_option maxRecDepth 100000
set_option maxHeartbeats 2000000
namespace Go.Proofs.YtbkfhacmekbniaaGreatDoor
section
open Go.RowKit Go.Lib Go.Shelf
attribute [local go_sem] Oper.semAt_some
theorem zoQ {w:World}{v:Value}{z:Int}(h:WB w v z)(hz:z.natAbs<1000000000):W1 w v z:=by
 obtain ⟨u,e,hs⟩:=h;refine ⟨u,e,?_⟩;rw [zol] at hs;have hd:(Dec.P z.natAbs).map (fun (n:Nat)=>(n:Int))=dg z:=by
  unfold dg;by_cases h0:z=0
  ·rw [h0,if_pos rfl];show (Dec.P 0).map _=_;rw [Dec.P_zero];rfl
  ·rw [if_neg h0,Dec.P_pos (by omega),show Dec.B=1000000000 from rfl,Nat.div_eq_of_lt hz,Dec.P_zero,Nat.mod_eq_of_lt hz];rfl
 rw [hd] at hs;exact hs
theorem WB.let1 {w:World}{v:Value}{z:Int}(h:WB w v z):∃ b a l c,v=.agg #[.bool b,.slice a l c]∧WB w (.agg #[.bool b,.slice a l c]) z:=by
 obtain ⟨b,a,l,c,e,h,_⟩:=h.letl;exact ⟨b,a,l,c,e,h⟩
theorem zoR {n:Nat}(h:(Dec.P n).length≤1):n<1000000000:=by
 have:=Dec.P_len_lt n;have h2:Dec.B ^ (Dec.P n).length≤Dec.B ^ 1:=Nat.pow_le_pow_right (by unfold Dec.B;omega) h;have h3:Dec.B ^ 1=1000000000:=rfl;omega
theorem zoS (va vb:Value)(x:Int)(d:Nat)(w:World)(he:Env w)(ha:WB w va x)(hb:WB w vb (d:Int))(hlx:(Dec.P x.natAbs).length≤200)(hld:(Dec.P d).length≤200)(hd:0<d) :
  Calls Tryz.prog 97 #[va,vb] w fun e w'=>e=.returned (Rv (mkRat x d))∧Ext w w':=by
 by_cases hsm:(Dec.P x.natAbs).length≤1∧(Dec.P d).length=1
 ·have h1:=zoR hsm.1;have h2:=zoR (Nat.le_of_eq hsm.2);exact zjS va vb x d w he (zoQ ha h1) (zoQ hb (by omega)) h1 hd h2
 ·obtain ⟨e1,e2⟩:=zjQ x d hd;obtain ⟨g,hg⟩:∃ g,g=Nat.gcd x.natAbs d:=⟨_,rfl⟩;have hgp:0<g:=by rw [hg];exact Nat.gcd_pos_of_pos_right _ hd
  have hgd:g≤d:=by rw [hg];exact Nat.gcd_le_right _ hd
  have hlg:(Dec.P g).length≤200:=Nat.le_trans (Dec.P_len_mono hgd) hld;rw [← hg] at e1 e2;have hnx:(mkRat x d).num.natAbs=x.natAbs / g:=by rw [e1];generalize x.natAbs / g=m;unfold zjD;split <;> omega
  have hsg:=fun W (hE:Ext w W)=>zoG vb (d:Int) W (hb.ext hE);rw [show (d:Int).sign=1 from Int.sign_eq_one_of_pos (by omega)] at hsg;have hgc:=fun W (hE:Ext w W)=>zoE va vb x (d:Int) W (ha.ext hE) (hb.ext hE) hlx (by rw [Int.natAbs_natCast];exact hld);rw [Int.natAbs_natCast,← hg] at hgc;obtain ⟨bx,ap,cp,rfl,hbx,hp⟩:=ha.let_;obtain ⟨bd,aq,cq,rfl,hbd,hq⟩:=hb.let_;rw [decide_eq_false (show ¬ (d:Int)<0 by omega)] at hbd;subst hbd;rw [Int.natAbs_natCast] at *;have hd1:=fun W vg (hE:Ext w W)(h:Sl W vg (nis (Dec.P g)))=>zoA _ vg x.natAbs g W (hE.sl hp) h hgp hlx hlg;have hd2:=fun W vg (hE:Ext w W)(h:Sl W vg (nis (Dec.P g)))=>zoA _ vg d g W (hE.sl hq) h hgp hld hlg;have hlq1:(Dec.P (x.natAbs / g)).length≤200:=Nat.le_trans (Dec.P_len_mono (Nat.div_le_self _ _)) hlx;have hlq2:(Dec.P (d / g)).length≤200:=Nat.le_trans (Dec.P_len_mono (Nat.div_le_self _ _)) hld;have htr:=fun W u (h:Sl W u (nis (Dec.P (x.natAbs / g))))=>zon u bx _ W h (Dec.small_P _) (by omega);rw [Dec.pv_P,hbx,← e1] at htr;have hf1:=fun W v (hE:Ext w W)(h:WB W v (mkRat x d).num)=>zoP v _ W (he.ext hE) h (by rw [hnx];omega);have hf2:=fun W u (hE:Ext w W)(h:Sl W u (nis (Dec.P (d / g))))=>zoP (.agg #[.bool false,u]) ((mkRat x d).den:Int) W (he.ext hE) ⟨u,by rw [decide_eq_false (by omega)],by rw [Int.natAbs_natCast,e2];exact h⟩ (by rw [Int.natAbs_natCast,e2];omega);rw [← hbx] at htr;unfold Rv;generalize (mkRat x d).num=zn at *;generalize (mkRat x d).den=zd at *;generalize I zn=s1 at *;generalize I (zd:Int)=s2 at *;have hk2:=zj0 120 120 60 w (.bool bx) (.slice ap (Dec.P x.natAbs).length cp) (.bool false) (.slice aq (Dec.P d).length cq) (.string ⟨#[]⟩) (.string ⟨#[]⟩);generalize hV:((w.alloc (.cells #[.bool bx,.slice ap (Dec.P x.natAbs).length cp] 120)).alloc (.cells #[.bool false,.slice aq (Dec.P d).length cq] 120)).alloc (.cells #[.string ⟨#[]⟩,.string ⟨#[]⟩] 60)=V at *;have hk:=hk2.1;have p0:=hk.a.c0;have p1:=hk.a.c1;have q0:=hk.b.c0;have q1:=hk.b.c1;have Hk:=hid hk;have Hsg:=hid hsg;have Hgc:=hid hgc;have Hd1:=hid hd1;have Hd2:=hid hd2;have Htr:=hid htr;have Hf1:=hid hf1;have Hf2:=hid hf2;have Hgw:=hid hg;generalize (Dec.P x.natAbs).length=lx at *;generalize (Dec.P d).length=ld at *;clear hk hk2 hsg hgc hd1 hd2 htr hf1 hf2 he ha hb hp hq hlx hld hd hlg hgp hgd hlq1 hlq2 e1 e2 hnx hbx hg;rcases (by omega:¬ lx≤1∨(lx≤1∧¬ ld=1)) with hA | hA
  case' inl =>
   have g1:¬ (lx:Int)≤1:=(by omega);have g2:decide ((lx:Int)≤1)=false:=decide_eq_false g1
  case' inr =>
   have g1:(lx:Int)≤1:=(by omega);have g2:((ld:Int) == 1)=false:=beq_eq_false_iff_ne.2 (by omega);have g3:¬ (ld:Int)=1:=by omega
  all_goals
   clear hsm hA;go_enter Tryz.func97,Tryz.ntmps97
   go_wp2_with fail
   refine (Hsg.out V Hk.out.x).mono ?_;rintro e w1 ⟨rfl,hx1⟩;have hk1:=Hk.out.ext hx1;have p0:=hk1.a.c0;have p1:=hk1.a.c1;have q0:=hk1.b.c0;have q1:=hk1.b.c1;have Hk1:=hid hk1;clear hk1 hx1;go_wp2_with fail
   refine (Hgc.out w1 Hk1.out.x).mono ?_;rintro e w2 ⟨v2,rfl,hw2,hx2⟩;obtain ⟨bg,ag,lg,cg,rfl,_,hsg2⟩:=hw2.letl;rw [Int.natAbs_natCast] at hsg2;have hx5:Ext w1 (w2.alloc (.cells #[.bool bg,.slice ag lg cg] 120)):=hx2.alloc _;have hk5:=Hk1.out.ext hx5;have b5:=zjy.new 120 w2 (.bool bg) (.slice ag lg cg);have hs5:=((Ext.refl w2).alloc (.cells #[.bool bg,.slice ag lg cg] 120)).sl hsg2;have p0:=hk5.a.c0;have p1:=hk5.a.c1;have q0:=hk5.b.c0;have q1:=hk5.b.c1;have r0:=b5.c0;have r1:=b5.c1;have Hk5:=hid hk5;have B5:=hid b5;have Hs5:=hid hs5;clear hk5 hx5 b5 hs5 hsg2 hw2 hx2;go_wp2_with fail
   generalize hV5:w2.alloc (.cells #[.bool bg,.slice ag lg cg] 120)=V5 at *;generalize w2.heap.size=h5 at *;clear hV5;refine (Hd1.out V5 _ Hk5.out.x Hs5.out).mono ?_;rintro e w6 ⟨u6,r6,rfl,ho6,hor6,hx6⟩;obtain ⟨a6,c6,rfl⟩:=zfl ho6;obtain ⟨a7,c7,rfl⟩:=zfl hor6;have hk6:=Hk5.out.ext hx6;have b6:=B5.out.ext hx6;have p0:=hk6.a.c0;have p1:=hk6.a.c1;have q0:=hk6.b.c0;have q1:=hk6.b.c1;have r0:=b6.c0;have r1:=b6.c1;have Hk6:=hid hk6;have B6:=hid b6;have Hs6:=hid (hx6.sl Hs5.out);have Ho6:=hid ho6.sl;clear hk6 b6 ho6 hor6 hx6;generalize (Dec.P (x.natAbs / g)).length=n6 at *;generalize (Dec.P (x.natAbs % g)).length=n7 at *;go_wp2_with fail
   refine (Hd2.out w6 _ Hk6.out.x Hs6.out).mono ?_;rintro e w7 ⟨u7,r7,rfl,ho7,hor7,hx7⟩;obtain ⟨a8,c8,rfl⟩:=zfl ho7;obtain ⟨a9,c9,rfl⟩:=zfl hor7;have hk7:=Hk6.out.ext hx7;have p0:=hk7.a.c0;have p1:=hk7.a.c1;have q0:=hk7.b.c0;have q1:=hk7.b.c1;have htr7:=Htr.out w7 _ (hx7.sl Ho6.out);have Hk7:=hid hk7;have Ho7:=hid ho7.sl;have Htr7:=hid htr7;clear hk7 ho7 hor7 hx7 htr7;generalize (Dec.P (d / g)).length=n8 at *;generalize (Dec.P (d % g)).length=n9 at *;go_wp2_with fail
   refine Htr7.out.mono ?_;rintro e w8 ⟨v8,rfl,hw8,hx8⟩;obtain ⟨b8,a10,l8,c10,rfl,hw8⟩:=hw8.let1;have hk8:=Hk7.out.ext hx8;have p0:=hk8.a.c0;have p1:=hk8.a.c1;have q0:=hk8.b.c0;have q1:=hk8.b.c1;have hf18:=Hf1.out w8 _ hk8.x hw8;have Hk8:=hid hk8;have Ho8:=hid (hx8.sl Ho7.out);have Hf18:=hid hf18;clear hk8 hx8 hw8 hf18;go_wp2_with fail
   refine Hf18.out.mono ?_;rintro e w9 ⟨rfl,hx9⟩;have hk9:=Hk8.out.ext hx9;have hf29:=Hf2.out w9 _ hk9.x (hx9.sl Ho8.out);have Hk9:=hid hk9;have Hf29:=hid hf29;clear hk9 hx9 hf29;go_wp2_with fail
   refine Hf29.out.mono ?_;rintro e w10 ⟨rfl,hx10⟩;have hk10:=Hk9.out.ext hx10;have k0:=hk10.res.c0;have k1:=hk10.res.c1;have z0:=hk10.res.fz 0;have z1:=hk10.res.fz 1;obtain ⟨hb10,hfx⟩:=hk10.fin (by omega) (.string s1) (.string s2);have Hfx:=hid hfx;clear hfx hk10 hx10;go_wp2_with fail
   have hd0:=hb10.c0;have hd1:=hb10.c1;exact bodyPost_ret (v:=.agg #[.string s1,.string s2]) (by simp [results,Tryz.results97,go_sem,hd0,hd1]) rfl ⟨rfl,Hfx.out⟩
theorem zoT {o p q:List Nat}{k c c' x:Nat}(ho:o.length=k)(hx:x+Dec.B * c'=c+p.getD k 0+q.getD k 0)(h:Dec.pv o+c * Dec.B ^ k=Dec.pv (p.take k)+Dec.pv (q.take k)) :
  Dec.pv (o++[x])+c' * Dec.B ^ (k+1)=Dec.pv (p.take (k+1))+Dec.pv (q.take (k+1)):=by
 rw [Dec.pv_append,ho,zot,zot,Nat.pow_succ];have e:=congrArg (· * Dec.B ^ k) hx;simp only [Nat.add_mul] at e;have e1:Dec.pv [x]=x:=by simp [Dec.pv]
 have e2:c' * (Dec.B ^ k * Dec.B)=Dec.B * c' * Dec.B ^ k:=by rw [Nat.mul_comm (Dec.B ^ k) Dec.B,← Nat.mul_assoc,Nat.mul_comm c' Dec.B]
 have e3:Dec.B ^ k * x=x * Dec.B ^ k:=Nat.mul_comm ..;rw [e1,e2,e3];omega
structure zoU (M:Nat)(p q:List Nat)(w0:World)(k c:Nat)(o:List Nat)(v:Value)(wr:World):Prop where
 n:o.length=k
 sm:Dec.Small o
 c1:c≤1
 end_:k≤M∨k=M+1∧c=0
 pv:Dec.pv o+c * Dec.B ^ k=Dec.pv (p.take k)+Dec.pv (q.take k)
 own:zoc wr w0.heap.size v o
 x:Ext w0 wr
theorem zoU.next {M:Nat}{p q:List Nat}{w0 wr V:World}{k c c' x:Nat}{o:List Nat}{v v7:Value}(h:zoU M p q w0 k c o v wr)(hk:k<M∨k=M∧c'=0)(hb:c'≤1)(hxB:x<1000000000)(hx:x+1000000000 * c'=c+nth p k+nth q k)(hX:Ext w0 V)
  (hown:V.ownsRow w0.heap.size 3 1 v7 (k+1) (nis o++[Value.int .i64 (x:Int)])):zoU M p q w0 (k+1) c' (o++[x]) v7 V :=
 ⟨by rw [List.length_append,List.length_singleton,h.n],Dec.small_snoc h.sm hxB,hb,by omega,zoT h.n hx h.pv,by
  unfold zoc nis;rw [List.length_append,List.length_singleton,h.n,List.map_append];exact hown,hX⟩
theorem zoV (vp vq:Value)(a b:Nat)(w:World)(hp:Sl w vp (nis (Dec.P a)))(hq:Sl w vq (nis (Dec.P b)))(hlp:(Dec.P a).length≤900)(hlq:(Dec.P b).length≤900) :
  Calls Tryz.prog 177 #[vp,vq] w fun e w'=>(∃ o,Dec.Small o∧Dec.pv o=a+b∧o.length≤1000∧zod w' w.heap.size o e)∧Ext w w':=by
 have hsp:=Dec.small_P a;have hsq:=Dec.small_P b;have hpa:=Dec.pv_P a;have hpb:=Dec.pv_P b;generalize Dec.P a=p at *;generalize Dec.P b=q at *;obtain ⟨ap,cp,rfl,_,_,_⟩:=hp.parts;obtain ⟨aq,cq,rfl,_,_,_⟩:=hq.parts;rw [zoa] at *;rw [zoa] at *;obtain ⟨i0,hj,hz0,hz1,hz2⟩:=info_parts zfj;obtain ⟨M,hM⟩:∃ M,M=max p.length q.length:=⟨_,rfl⟩;have hM1:p.length≤M∧q.length≤M∧M≤900:=by omega
 have hM2:M≤p.length∨M≤q.length:=by omega
 have HM2:=hid hM2;clear hM hM2;have Hp:=hid hp;have Hq:=hid hq;have Hsp:=hid hsp;have Hsq:=hid hsq;have Hpa:=hid hpa;have Hpb:=hid hpb;clear hp hq hsp hsq hpa hpb;go_enter Tryz.func177,Tryz.ntmps177
 go_wp2_with fail
 go_loopw [5,6,7] (fun v5 v6 v7 wr=>∃ (k c:Nat)(o:List Nat),v7=.int .i64 k∧v6=.int .i64 c∧Hid (zoU M p q w k c o v5 wr)) (fun _ _ v7 _=>M+1 - (zag v7).toNat)
 case atStart=>exact ⟨0,0,[],rfl,rfl,hid ⟨rfl,by simp [Dec.Small],Nat.zero_le _,.inl (Nat.zero_le _),by simp [Dec.pv],⟨rfl,.inl ⟨rfl,rfl⟩⟩,Ext.refl _⟩⟩
 case round =>
  obtain ⟨k,c,o,rfl,rfl,HR⟩:=hrel;have hc1:=HR.out.c1;have hX:=HR.out.x;have hwr:=hX.size;have hend:=HR.out.end_;have hkM:k≤901:=by omega
  have hown:=HR.out.own;unfold zoc at hown;rw [HR.out.n] at hown;obtain ⟨al,cl,rfl⟩:=zfl hown;have hxa:nth p k<Dec.B:=Dec.small_getD Hsp.out k;have hxb:nth q k<Dec.B:=Dec.small_getD Hsq.out k;unfold Dec.B at hxa hxb;have hnx:=fun (c' x:Nat)(v7:Value)(V:World)(hk:k<M∨k=M∧c'=0)(hb:c'≤1)(hxB:x<1000000000)(hx:x+1000000000 * c'=c+nth p k+nth q k)(hE:Ext w V)(ho:V.ownsRow w.heap.size 3 1 v7 (k+1) (nis o++[Value.int .i64 (x:Int)]))=>HR.out.next hk hb hxB hx hE ho;have hp0:p.length≤k→nth p k=0:=fun h=>by unfold nth;rw [List.getD_eq_getElem?_getD,List.getElem?_eq_none h];rfl
  have hq0:q.length≤k→nth q k=0:=fun h=>by unfold nth;rw [List.getD_eq_getElem?_getD,List.getElem?_eq_none h];rfl
  have hk0:(0:Int)≤(k:Int):=by omega
  have hm3:k+1≤maxLen:=by unfold maxLen;omega
  have hm4:(k+1) * 8≤140737488355328:=by omega
  rcases Nat.lt_or_ge k p.length with hkp | hkp
  ·rcases Nat.lt_or_ge k q.length with hkq | hkq
   ·skip;obtain ⟨bp,op,rfl,hcp⟩:=zoi (hX.sl Hp.out) k hkp;have hk1:(k:Int)<(p.length:Int):=(by omega);obtain ⟨bq,oq,rfl,hcq⟩:=zoi (hX.sl Hq.out) k hkq;have hk2:(k:Int)<(q.length:Int):=(by omega);have HM:Hid (k<M):=hid (by omega);generalize nth p k=X at *;generalize nth q k=Y at *;have Hown:=hid hown;have HX:=hid hX;have Hnx:=hid hnx;clear hown hX hnx hp0 hq0 hend;obtain ⟨S,hS⟩:∃ S:Nat,S=c+X+Y:=⟨_,rfl⟩;obtain ⟨S1,hS1⟩:∃ S1:Nat,S1=c+X:=⟨_,rfl⟩;have hs1:(c:Int)+(X:Int)=(S1:Int):=(by omega);have hs2:(S1:Int)+(Y:Int)=(S:Int):=(by omega);obtain ⟨x,hx⟩:∃ x:Nat,x=S % 1000000000:=⟨_,rfl⟩;obtain ⟨y,hy⟩:∃ y:Nat,y=S / 1000000000:=⟨_,rfl⟩;have hr1:(S:Int).tmod 1000000000=(x:Int):=(by rw [Int.tmod_eq_emod_of_nonneg (by omega)];omega);have hr2:(S:Int) % 1000000000=(x:Int):=(by omega);have hd1:(S:Int).tdiv 1000000000=(y:Int):=(by rw [Int.tdiv_eq_ediv_of_nonneg (by omega)];omega);have hd2:(S:Int) / 1000000000=(y:Int):=(by omega);have hfin:y≤1∧x<1000000000∧x+1000000000 * y=c+X+Y:=(by omega);have Hfin:=hid hfin;have hSb:S≤2000000001:=(by omega);have hSb1:S1≤2000000001:=(by omega);clear hfin hx hy hS hS1;go_wp2_with (at_builtin;refine wpList_append_own _ rfl _ _ 28 rfl w.heap.size 3 i0 (.int .i64 0) 1 8 Tryz.underlying28 hj hz0 hz1 hz2 rfl (by decide) _ _ _ rfl (Hown.out.alloc _) ⟨wr.heap.size,0,none⟩ 1 1 [.int .i64 (x:Int)] rfl rfl (cell_one_new _ _ _) (by simp [Value.oneCell']) hm3 hm4 (by rw [World.size_alloc];omega) ?_;intro v7 V7 hown7 hgrow7 _)
    have Hx7:=hid (show Ext w V7 from (HX.out.alloc _).grown hgrow7 fun k hk=>(World.ownsRow.lt Hown.out k hk).1);have H7:=hid (Hnx.out y x v7 V7 (.inl HM.out) Hfin.out.1 Hfin.out.2.1 Hfin.out.2.2 Hx7.out hown7);clear hown7 hgrow7;go_wp2_with fail
    go_roundw
    case rel=>exact ⟨k+1,y,_,by go_num,rfl,H7⟩
    case measure=>simp [zag];have:=HM.out;omega
   ·skip;obtain ⟨bp,op,rfl,hcp⟩:=zoi (hX.sl Hp.out) k hkp;have hk1:(k:Int)<(p.length:Int):=(by omega);have hy0:=hq0 (by omega);have hk2:¬ (k:Int)<(q.length:Int):=(by omega);have HM:Hid (k<M):=hid (by omega);generalize nth p k=X at *;generalize nth q k=Y at *;subst hy0;have Hown:=hid hown;have HX:=hid hX;have Hnx:=hid hnx;clear hown hX hnx hp0 hq0 hend;obtain ⟨S,hS⟩:∃ S:Nat,S=c+X+0:=⟨_,rfl⟩;have hs2:(c:Int)+(X:Int)=(S:Int):=(by omega);obtain ⟨x,hx⟩:∃ x:Nat,x=S % 1000000000:=⟨_,rfl⟩;obtain ⟨y,hy⟩:∃ y:Nat,y=S / 1000000000:=⟨_,rfl⟩;have hr1:(S:Int).tmod 1000000000=(x:Int):=(by rw [Int.tmod_eq_emod_of_nonneg (by omega)];omega);have hr2:(S:Int) % 1000000000=(x:Int):=(by omega);have hd1:(S:Int).tdiv 1000000000=(y:Int):=(by rw [Int.tdiv_eq_ediv_of_nonneg (by omega)];omega);have hd2:(S:Int) / 1000000000=(y:Int):=(by omega);have hfin:y≤1∧x<1000000000∧x+1000000000 * y=c+X+0:=(by omega);have Hfin:=hid hfin;have hSb:S≤2000000001:=(by omega);clear hfin hx hy hS;go_wp2_with (at_builtin;refine wpList_append_own _ rfl _ _ 28 rfl w.heap.size 3 i0 (.int .i64 0) 1 8 Tryz.underlying28 hj hz0 hz1 hz2 rfl (by decide) _ _ _ rfl (Hown.out.alloc _) ⟨wr.heap.size,0,none⟩ 1 1 [.int .i64 (x:Int)] rfl rfl (cell_one_new _ _ _) (by simp [Value.oneCell']) hm3 hm4 (by rw [World.size_alloc];omega) ?_;intro v7 V7 hown7 hgrow7 _)
    have Hx7:=hid (show Ext w V7 from (HX.out.alloc _).grown hgrow7 fun k hk=>(World.ownsRow.lt Hown.out k hk).1);have H7:=hid (Hnx.out y x v7 V7 (.inl HM.out) Hfin.out.1 Hfin.out.2.1 Hfin.out.2.2 Hx7.out hown7);clear hown7 hgrow7;go_wp2_with fail
    go_roundw
    case rel=>exact ⟨k+1,y,_,by go_num,rfl,H7⟩
    case measure=>simp [zag];have:=HM.out;omega
  ·rcases Nat.lt_or_ge k q.length with hkq | hkq
   ·skip;have hx0:=hp0 (by omega);have hk1:¬ (k:Int)<(p.length:Int):=(by omega);obtain ⟨bq,oq,rfl,hcq⟩:=zoi (hX.sl Hq.out) k hkq;have hk2:(k:Int)<(q.length:Int):=(by omega);have HM:Hid (k<M):=hid (by omega);generalize nth p k=X at *;generalize nth q k=Y at *;subst hx0;have Hown:=hid hown;have HX:=hid hX;have Hnx:=hid hnx;clear hown hX hnx hp0 hq0 hend;obtain ⟨S,hS⟩:∃ S:Nat,S=c+0+Y:=⟨_,rfl⟩;have hs2:(c:Int)+(Y:Int)=(S:Int):=(by omega);obtain ⟨x,hx⟩:∃ x:Nat,x=S % 1000000000:=⟨_,rfl⟩;obtain ⟨y,hy⟩:∃ y:Nat,y=S / 1000000000:=⟨_,rfl⟩;have hr1:(S:Int).tmod 1000000000=(x:Int):=(by rw [Int.tmod_eq_emod_of_nonneg (by omega)];omega);have hr2:(S:Int) % 1000000000=(x:Int):=(by omega);have hd1:(S:Int).tdiv 1000000000=(y:Int):=(by rw [Int.tdiv_eq_ediv_of_nonneg (by omega)];omega);have hd2:(S:Int) / 1000000000=(y:Int):=(by omega);have hfin:y≤1∧x<1000000000∧x+1000000000 * y=c+0+Y:=(by omega);have Hfin:=hid hfin;have hSb:S≤2000000001:=(by omega);clear hfin hx hy hS;go_wp2_with (at_builtin;refine wpList_append_own _ rfl _ _ 28 rfl w.heap.size 3 i0 (.int .i64 0) 1 8 Tryz.underlying28 hj hz0 hz1 hz2 rfl (by decide) _ _ _ rfl (Hown.out.alloc _) ⟨wr.heap.size,0,none⟩ 1 1 [.int .i64 (x:Int)] rfl rfl (cell_one_new _ _ _) (by simp [Value.oneCell']) hm3 hm4 (by rw [World.size_alloc];omega) ?_;intro v7 V7 hown7 hgrow7 _)
    have Hx7:=hid (show Ext w V7 from (HX.out.alloc _).grown hgrow7 fun k hk=>(World.ownsRow.lt Hown.out k hk).1);have H7:=hid (Hnx.out y x v7 V7 (.inl HM.out) Hfin.out.1 Hfin.out.2.1 Hfin.out.2.2 Hx7.out hown7);clear hown7 hgrow7;go_wp2_with fail
    go_roundw
    case rel=>exact ⟨k+1,y,_,by go_num,rfl,H7⟩
    case measure=>simp [zag];have:=HM.out;omega
   ·have hk1:¬ (k:Int)<(p.length:Int):=(by omega);have hk2:¬ (k:Int)<(q.length:Int):=(by omega);rcases (by omega:c=0∨c=1) with hc | hc
    ·subst hc;have hpv:Dec.pv o=a+b:=by
      have h:=HR.out.pv;rw [List.take_of_length_le hkp,List.take_of_length_le hkq,Hpa.out,Hpb.out,Nat.zero_mul] at h;exact h
     have hfin:Dec.Small o∧Dec.pv o=a+b∧o.length≤1000:=⟨HR.out.sm,hpv,by have:=HR.out.n;omega⟩;have Hfin:=hid hfin;have Hown:=hid HR.out.own;clear hpv hown hfin hnx hp0 hq0;go_wp2_with fail
     go_ret
     exact ⟨⟨o,Hfin.out.1,Hfin.out.2.1,Hfin.out.2.2,_,rfl,Hown.out⟩,hX⟩
    ·have hc0:(0:Int)<(c:Int):=(by omega);have hx0:=hp0 (by omega);have hy0:=hq0 (by omega);have HM:Hid (k<M∨k=M):=hid (by have:=HM2.out;omega);generalize nth p k=X at *;generalize nth q k=Y at *;subst hx0;subst hy0;have Hown:=hid hown;have HX:=hid hX;have Hnx:=hid hnx;clear hown hX hnx hp0 hq0 hend;obtain ⟨x,hx⟩:∃ x:Nat,x=c % 1000000000:=⟨_,rfl⟩;obtain ⟨y,hy⟩:∃ y:Nat,y=c / 1000000000:=⟨_,rfl⟩;have hr1:(c:Int).tmod 1000000000=(x:Int):=(by rw [Int.tmod_eq_emod_of_nonneg (by omega)];omega);have hr2:(c:Int) % 1000000000=(x:Int):=(by omega);have hd1:(c:Int).tdiv 1000000000=(y:Int):=(by rw [Int.tdiv_eq_ediv_of_nonneg (by omega)];omega);have hd2:(c:Int) / 1000000000=(y:Int):=(by omega);have hfin:y≤1∧x<1000000000∧x+1000000000 * y=c+0+0:=(by omega);have hy0:y=0:=(by omega);have Hy0:=hid hy0;clear hy0;have Hfin:=hid hfin;have hSb:c≤2000000001:=(by omega);clear hfin hx hy hc;go_wp2_with (at_builtin;refine wpList_append_own _ rfl _ _ 28 rfl w.heap.size 3 i0 (.int .i64 0) 1 8 Tryz.underlying28 hj hz0 hz1 hz2 rfl (by decide) _ _ _ rfl (Hown.out.alloc _) ⟨wr.heap.size,0,none⟩ 1 1 [.int .i64 (x:Int)] rfl rfl (cell_one_new _ _ _) (by simp [Value.oneCell']) hm3 hm4 (by rw [World.size_alloc];omega) ?_;intro v7 V7 hown7 hgrow7 _)
     have Hx7:=hid (show Ext w V7 from (HX.out.alloc _).grown hgrow7 fun k hk=>(World.ownsRow.lt Hown.out k hk).1);have H7:=hid (Hnx.out y x v7 V7 (HM.out.imp id fun h=>⟨h,Hy0.out⟩) Hfin.out.1 Hfin.out.2.1 Hfin.out.2.2 Hx7.out hown7);clear hown7 hgrow7;go_wp2_with fail
     go_roundw
     case rel=>exact ⟨k+1,y,_,by go_num,rfl,H7⟩
     case measure=>simp [zag];have:=HM.out;omega
theorem zoW (va vb:Value)(x y:Int)(w:World)(ha:WB w va x)(hb:WB w vb y)(hlx:(Dec.P x.natAbs).length≤900)(hly:(Dec.P y.natAbs).length≤900) :
  Calls Tryz.prog 135 #[va,vb] w fun e w'=>∃ v,e=.returned v∧WB w' v (x+y)∧Ext w w':=by
 obtain ⟨bx,ap,cp,rfl,hbx,hp⟩:=ha.let_;obtain ⟨by_,aq,cq,rfl,hby,hq⟩:=hb.let_;clear ha hb;obtain ⟨V,hV⟩:∃ V,V=((w.alloc (.cells #[.bool bx,.slice ap (Dec.P x.natAbs).length cp] 120)).alloc (.cells #[.bool by_,.slice aq (Dec.P y.natAbs).length cq] 120)).alloc (.cells #[.bool false,.slice none 0 0] 120):=⟨_,rfl⟩;have hk2:=zj0 120 120 120 w (.bool bx) (.slice ap (Dec.P x.natAbs).length cp) (.bool by_) (.slice aq (Dec.P y.natAbs).length cq) (.bool false) (.slice none 0 0);rw [← hV] at hk2;obtain ⟨hk,hr⟩:=hk2;have hpV:=hk.x.sl hp;have hqV:=hk.x.sl hq;have hpl:=fun W (hE:Ext V W)=>zoV _ _ x.natAbs y.natAbs W (hE.sl hpV) (hE.sl hqV) hlx hly;have hmn:=fun W (hE:Ext V W)(h:y.natAbs≤x.natAbs)=>zoy _ _ x.natAbs y.natAbs W (hE.sl hpV) (hE.sl hqV) (by omega) h;have hnm:=fun W (hE:Ext V W)(h:x.natAbs≤y.natAbs)=>zoy _ _ y.natAbs x.natAbs W (hE.sl hqV) (hE.sl hpV) (by omega) h;have hab:=fun W (hE:Ext V W)=>zox _ _ x.natAbs y.natAbs W (hE.sl hpV) (hE.sl hqV) (by omega);have htr:=fun (b:Bool)(o:List Nat)(v:Value)(W:World)(B:Nat)(h:zoc W B v o)(hs:Dec.Small o)(hl:o.length≤1000)=>zon v b o W h.sl hs hl;have hS:∀ W,Ext V W→W.cell? ⟨w.heap.size,0,none⟩=some (.bool bx)∧W.cell? ⟨w.heap.size,1,none⟩=some (.slice ap (Dec.P x.natAbs).length cp)∧W.cell? ⟨w.heap.size+1,0,none⟩=some (.bool by_)∧W.cell? ⟨w.heap.size+1,1,none⟩=some (.slice aq (Dec.P y.natAbs).length cq):=fun W hE=>⟨(hk.a.ext hE).c0,(hk.a.ext hE).c1,(hk.b.ext hE).c0,(hk.b.ext hE).c1⟩;have hT:∀ W u v,Ext V W→((W.setCell ⟨w.heap.size+1+1,0,none⟩ u).setCell ⟨w.heap.size+1+1,1,none⟩ v).cell? ⟨w.heap.size,0,none⟩=some (.bool bx)∧((W.setCell ⟨w.heap.size+1+1,0,none⟩ u).setCell ⟨w.heap.size+1+1,1,none⟩ v).cell? ⟨w.heap.size,1,none⟩=some (.slice ap (Dec.P x.natAbs).length cp)∧((W.setCell ⟨w.heap.size+1+1,0,none⟩ u).setCell ⟨w.heap.size+1+1,1,none⟩ v).cell? ⟨w.heap.size+1,0,none⟩=some (.bool by_)∧((W.setCell ⟨w.heap.size+1+1,0,none⟩ u).setCell ⟨w.heap.size+1+1,1,none⟩ v).cell? ⟨w.heap.size+1,1,none⟩=some (.slice aq (Dec.P y.natAbs).length cq):=fun W u v hE=>⟨((hk.a.ext hE).past (by omega) u v).c0,((hk.a.ext hE).past (by omega) u v).c1,((hk.b.ext hE).past (by omega) u v).c0,((hk.b.ext hE).past (by omega) u v).c1⟩;have HT:=hid hT;clear hT;have q0:=hk.a.c0;have q1:=hk.a.c1;have q2:=hk.b.c0;have q3:=hk.b.c1;have Kr:=hid hr;have Kx:=hid hk.x;have Hpl:=hid hpl;have Hmn:=hid hmn;have Hnm:=hid hnm;have Hab:=hid hab;have Htr:=hid htr;have HS:=hid hS;have HV:=hid hV;have Hbx:=hid hbx;have Hby:=hid hby;generalize (Dec.P x.natAbs).length=lx at *;generalize (Dec.P y.natAbs).length=ly at *;clear hpl hmn hnm hab htr hS hV hbx hby hk hr hpV hqV hp hq hlx hly
 cases bx <;> cases by_
 ·have hsx:0≤x:=by have h:=Hbx.out;exact Int.not_lt.1 (of_decide_eq_false h.symm)
  have hsy:0≤y:=by have h:=Hby.out;exact Int.not_lt.1 (of_decide_eq_false h.symm)
  have hval:zjD false (x.natAbs+y.natAbs)=x+y:=by unfold zjD;simp;omega
  have Hval:=hid hval;clear hval hsx hsy;have Hx0:=hid (Ext.refl V);go_enter Tryz.func135,Tryz.ntmps135
  go_wp2_with (rw [← HV.out])
  go_region_held3 (fun w'=>w'.cell? ⟨w.heap.size,0,none⟩=some (.bool false)∧w'.cell? ⟨w.heap.size,1,none⟩=some (.slice ap lx cp)∧w'.cell? ⟨w.heap.size+1,0,none⟩=some (.bool false)∧w'.cell? ⟨w.heap.size+1,1,none⟩=some (.slice aq ly cq))
   (first | (with_reducible assumption) | exact HS.out _ (Ext.refl V).drew | exact HS.out _ (Hx0.out).drew)
   (first
    | (go_at_call 177
       refine (Hpl.out _ Hx0.out.drew).mono ?_
       rintro e9 VA ⟨⟨o,hs,hv,hl,va,rfl,ho⟩,hxa⟩
       have hEA:Ext V VA:=Hx0.out.drew.trans hxa
       have hSA:=HS.out VA hEA
       have htrA:=Htr.out false o va VA _ ho hs hl
       rw [hv] at htrA
       obtain ⟨a8,c8,rfl⟩:=zfl ho
       have HtrA:=hid htrA
       have HEA:=hid hEA
       generalize o.length=lo at *
       clear hs hv hl ho hxa hEA htrA)
    | (go_at_call 111
       refine HtrA.out.mono ?_
       rintro e8 W9 ⟨v9,rfl,hw9,hx9⟩
       obtain ⟨b9,a9,l9,c9,rfl,hw9,_⟩:=hw9.letl
       have hE9:=HEA.out.trans hx9
       have hS9:=HS.out W9 hE9
       have hr9:=Kr.out.ext hE9
       have hS5:=HT.out W9 (.bool b9) (.slice a9 l9 c9) hE9
       have k0:=hr9.c0
       have k1:=hr9.c1
       have z0:=hr9.fz 0
       have z1:=hr9.fz 1
       have hb5:=hr9.put (.bool b9) (.slice a9 l9 c9)
       have hs5:=hw9.past hr9 (by simp) (by simp) (.bool b9) (.slice a9 l9 c9)
       have hx5:Ext w ((W9.setCell ⟨w.heap.size+1+1,0,none⟩ (.bool b9)).setCell ⟨w.heap.size+1+1,1,none⟩ (.slice a9 l9 c9)):=((Kx.out.trans hE9).setCell (by dsimp only;omega) _).setCell (by dsimp only;omega) _
       have Hb5:=hid hb5
       have Hx5:=hid hx5
       have Hs5:=hid hs5
       clear hb5 hx5 hs5 hr9 hx9 hw9 hE9))
  all_goals
   clear k0 k1 z0 z1 hS5 hS9 hSA;go_wp2_with fail
   have hd0:=Hb5.out.c0;have hd1:=Hb5.out.c1;exact bodyPost_ret (v:=.agg #[.bool b9,.slice a9 l9 c9]) (by simp [results,Tryz.results135,go_sem,hd0,hd1]) rfl ⟨_,rfl,by have h:=Hs5.out;rw [Hval.out] at h;exact h,Hx5.out⟩
 ·have hsx:0≤x:=by have h:=Hbx.out;exact Int.not_lt.1 (of_decide_eq_false h.symm)
  have hsy:y<0:=by have h:=Hby.out;exact of_decide_eq_true h.symm
  rcases Nat.lt_or_ge x.natAbs y.natAbs with g | g
  ·have hab1:=Hab.out V (Ext.refl V);rw [znT g] at hab1;have Hg:=hid (Nat.le_of_lt g);have hval:zjD true (y.natAbs - x.natAbs)=x+y:=(by unfold zjD;simp;omega);have Hval:=hid hval;have Hab1:=hid hab1;clear hval hsx hsy g hab1;go_enter Tryz.func135,Tryz.ntmps135
   go_wp2_with (rw [← HV.out])
   refine Hab1.out.mono ?_;rintro e7 w1 ⟨rfl,hx1⟩;have r0:=HS.out w1 hx1;obtain ⟨r0,r1,r2,r3⟩:=r0;have Hx0:=hid hx1;clear hx1 q0 q1 q2 q3;go_wp2_with fail
   go_region_held3 (fun w'=>w'.cell? ⟨w.heap.size,0,none⟩=some (.bool false)∧w'.cell? ⟨w.heap.size,1,none⟩=some (.slice ap lx cp)∧w'.cell? ⟨w.heap.size+1,0,none⟩=some (.bool true)∧w'.cell? ⟨w.heap.size+1,1,none⟩=some (.slice aq ly cq))
    (first | (with_reducible assumption) | exact HS.out _ (Ext.refl V).drew | exact HS.out _ (Hx0.out).drew)
    (first
     | (go_at_call 179
        refine (Hnm.out _ Hx0.out.drew Hg.out).mono ?_
        rintro e9 VA ⟨⟨o,hs,hv,hl,va,rfl,ho⟩,hxa⟩
        have hEA:Ext V VA:=Hx0.out.drew.trans hxa
        have hSA:=HS.out VA hEA
        have htrA:=Htr.out true o va VA _ ho hs hl
        rw [hv] at htrA
        obtain ⟨a8,c8,rfl⟩:=zfl ho
        have HtrA:=hid htrA
        have HEA:=hid hEA
        generalize o.length=lo at *
        clear hs hv hl ho hxa hEA htrA)
     | (go_at_call 111
        refine HtrA.out.mono ?_
        rintro e8 W9 ⟨v9,rfl,hw9,hx9⟩
        obtain ⟨b9,a9,l9,c9,rfl,hw9,_⟩:=hw9.letl
        have hE9:=HEA.out.trans hx9
        have hS9:=HS.out W9 hE9
        have hr9:=Kr.out.ext hE9
        have hS5:=HT.out W9 (.bool b9) (.slice a9 l9 c9) hE9
        have k0:=hr9.c0
        have k1:=hr9.c1
        have z0:=hr9.fz 0
        have z1:=hr9.fz 1
        have hb5:=hr9.put (.bool b9) (.slice a9 l9 c9)
        have hs5:=hw9.past hr9 (by simp) (by simp) (.bool b9) (.slice a9 l9 c9)
        have hx5:Ext w ((W9.setCell ⟨w.heap.size+1+1,0,none⟩ (.bool b9)).setCell ⟨w.heap.size+1+1,1,none⟩ (.slice a9 l9 c9)):=((Kx.out.trans hE9).setCell (by dsimp only;omega) _).setCell (by dsimp only;omega) _
        have Hb5:=hid hb5
        have Hx5:=hid hx5
        have Hs5:=hid hs5
        clear hb5 hx5 hs5 hr9 hx9 hw9 hE9))
   all_goals
    clear k0 k1 z0 z1 hS5 hS9 hSA;go_wp2_with fail
    have hd0:=Hb5.out.c0;have hd1:=Hb5.out.c1;exact bodyPost_ret (v:=.agg #[.bool b9,.slice a9 l9 c9]) (by simp [results,Tryz.results135,go_sem,hd0,hd1]) rfl ⟨_,rfl,by have h:=Hs5.out;rw [Hval.out] at h;exact h,Hx5.out⟩
  ·have hab1:=Hab.out V (Ext.refl V);have hoz:0≤znS x.natAbs y.natAbs:=by unfold znS;rw [if_neg (by omega)];split <;> omega
   generalize znS x.natAbs y.natAbs=oz at *;have Hg:=hid (show y.natAbs≤x.natAbs from g);have hval:zjD false (x.natAbs - y.natAbs)=x+y:=(by unfold zjD;simp;omega);have Hval:=hid hval;have Hab1:=hid hab1;clear hval hsx hsy g hab1;go_enter Tryz.func135,Tryz.ntmps135
   go_wp2_with (rw [← HV.out])
   refine Hab1.out.mono ?_;rintro e7 w1 ⟨rfl,hx1⟩;have r0:=HS.out w1 hx1;obtain ⟨r0,r1,r2,r3⟩:=r0;have Hx0:=hid hx1;clear hx1 q0 q1 q2 q3;go_wp2_with fail
   go_region_held3 (fun w'=>w'.cell? ⟨w.heap.size,0,none⟩=some (.bool false)∧w'.cell? ⟨w.heap.size,1,none⟩=some (.slice ap lx cp)∧w'.cell? ⟨w.heap.size+1,0,none⟩=some (.bool true)∧w'.cell? ⟨w.heap.size+1,1,none⟩=some (.slice aq ly cq))
    (first | (with_reducible assumption) | exact HS.out _ (Ext.refl V).drew | exact HS.out _ (Hx0.out).drew)
    (first
     | (go_at_call 179
        refine (Hmn.out _ Hx0.out.drew Hg.out).mono ?_
        rintro e9 VA ⟨⟨o,hs,hv,hl,va,rfl,ho⟩,hxa⟩
        have hEA:Ext V VA:=Hx0.out.drew.trans hxa
        have hSA:=HS.out VA hEA
        have htrA:=Htr.out false o va VA _ ho hs hl
        rw [hv] at htrA
        obtain ⟨a8,c8,rfl⟩:=zfl ho
        have HtrA:=hid htrA
        have HEA:=hid hEA
        generalize o.length=lo at *
        clear hs hv hl ho hxa hEA htrA)
     | (go_at_call 111
        refine HtrA.out.mono ?_
        rintro e8 W9 ⟨v9,rfl,hw9,hx9⟩
        obtain ⟨b9,a9,l9,c9,rfl,hw9,_⟩:=hw9.letl
        have hE9:=HEA.out.trans hx9
        have hS9:=HS.out W9 hE9
        have hr9:=Kr.out.ext hE9
        have hS5:=HT.out W9 (.bool b9) (.slice a9 l9 c9) hE9
        have k0:=hr9.c0
        have k1:=hr9.c1
        have z0:=hr9.fz 0
        have z1:=hr9.fz 1
        have hb5:=hr9.put (.bool b9) (.slice a9 l9 c9)
        have hs5:=hw9.past hr9 (by simp) (by simp) (.bool b9) (.slice a9 l9 c9)
        have hx5:Ext w ((W9.setCell ⟨w.heap.size+1+1,0,none⟩ (.bool b9)).setCell ⟨w.heap.size+1+1,1,none⟩ (.slice a9 l9 c9)):=((Kx.out.trans hE9).setCell (by dsimp only;omega) _).setCell (by dsimp only;omega) _
        have Hb5:=hid hb5
        have Hx5:=hid hx5
        have Hs5:=hid hs5
        clear hb5 hx5 hs5 hr9 hx9 hw9 hE9))
   all_goals
    clear k0 k1 z0 z1 hS5 hS9 hSA;go_wp2_with fail
    have hd0:=Hb5.out.c0;have hd1:=Hb5.out.c1;exact bodyPost_ret (v:=.agg #[.bool b9,.slice a9 l9 c9]) (by simp [results,Tryz.results135,go_sem,hd0,hd1]) rfl ⟨_,rfl,by have h:=Hs5.out;rw [Hval.out] at h;exact h,Hx5.out⟩
 ·have hsx:x<0:=by have h:=Hbx.out;exact of_decide_eq_true h.symm
  have hsy:0≤y:=by have h:=Hby.out;exact Int.not_lt.1 (of_decide_eq_false h.symm)
  rcases Nat.lt_or_ge x.natAbs y.natAbs with g | g
  ·have hab1:=Hab.out V (Ext.refl V);rw [znT g] at hab1;have Hg:=hid (Nat.le_of_lt g);have hval:zjD false (y.natAbs - x.natAbs)=x+y:=(by unfold zjD;simp;omega);have Hval:=hid hval;have Hab1:=hid hab1;clear hval hsx hsy g hab1;go_enter Tryz.func135,Tryz.ntmps135
   go_wp2_with (rw [← HV.out])
   refine Hab1.out.mono ?_;rintro e7 w1 ⟨rfl,hx1⟩;have r0:=HS.out w1 hx1;obtain ⟨r0,r1,r2,r3⟩:=r0;have Hx0:=hid hx1;clear hx1 q0 q1 q2 q3;go_wp2_with fail
   go_region_held3 (fun w'=>w'.cell? ⟨w.heap.size,0,none⟩=some (.bool true)∧w'.cell? ⟨w.heap.size,1,none⟩=some (.slice ap lx cp)∧w'.cell? ⟨w.heap.size+1,0,none⟩=some (.bool false)∧w'.cell? ⟨w.heap.size+1,1,none⟩=some (.slice aq ly cq))
    (first | (with_reducible assumption) | exact HS.out _ (Ext.refl V).drew | exact HS.out _ (Hx0.out).drew)
    (first
     | (go_at_call 179
        refine (Hnm.out _ Hx0.out.drew Hg.out).mono ?_
        rintro e9 VA ⟨⟨o,hs,hv,hl,va,rfl,ho⟩,hxa⟩
        have hEA:Ext V VA:=Hx0.out.drew.trans hxa
        have hSA:=HS.out VA hEA
        have htrA:=Htr.out false o va VA _ ho hs hl
        rw [hv] at htrA
        obtain ⟨a8,c8,rfl⟩:=zfl ho
        have HtrA:=hid htrA
        have HEA:=hid hEA
        generalize o.length=lo at *
        clear hs hv hl ho hxa hEA htrA)
     | (go_at_call 111
        refine HtrA.out.mono ?_
        rintro e8 W9 ⟨v9,rfl,hw9,hx9⟩
        obtain ⟨b9,a9,l9,c9,rfl,hw9,_⟩:=hw9.letl
        have hE9:=HEA.out.trans hx9
        have hS9:=HS.out W9 hE9
        have hr9:=Kr.out.ext hE9
        have hS5:=HT.out W9 (.bool b9) (.slice a9 l9 c9) hE9
        have k0:=hr9.c0
        have k1:=hr9.c1
        have z0:=hr9.fz 0
        have z1:=hr9.fz 1
        have hb5:=hr9.put (.bool b9) (.slice a9 l9 c9)
        have hs5:=hw9.past hr9 (by simp) (by simp) (.bool b9) (.slice a9 l9 c9)
        have hx5:Ext w ((W9.setCell ⟨w.heap.size+1+1,0,none⟩ (.bool b9)).setCell ⟨w.heap.size+1+1,1,none⟩ (.slice a9 l9 c9)):=((Kx.out.trans hE9).setCell (by dsimp only;omega) _).setCell (by dsimp only;omega) _
        have Hb5:=hid hb5
        have Hx5:=hid hx5
        have Hs5:=hid hs5
        clear hb5 hx5 hs5 hr9 hx9 hw9 hE9))
   all_goals
    clear k0 k1 z0 z1 hS5 hS9 hSA;go_wp2_with fail
    have hd0:=Hb5.out.c0;have hd1:=Hb5.out.c1;exact bodyPost_ret (v:=.agg #[.bool b9,.slice a9 l9 c9]) (by simp [results,Tryz.results135,go_sem,hd0,hd1]) rfl ⟨_,rfl,by have h:=Hs5.out;rw [Hval.out] at h;exact h,Hx5.out⟩
  ·have hab1:=Hab.out V (Ext.refl V);have hoz:0≤znS x.natAbs y.natAbs:=by unfold znS;rw [if_neg (by omega)];split <;> omega
   generalize znS x.natAbs y.natAbs=oz at *;have Hg:=hid (show y.natAbs≤x.natAbs from g);have hval:zjD true (x.natAbs - y.natAbs)=x+y:=(by unfold zjD;simp;omega);have Hval:=hid hval;have Hab1:=hid hab1;clear hval hsx hsy g hab1;go_enter Tryz.func135,Tryz.ntmps135
   go_wp2_with (rw [← HV.out])
   refine Hab1.out.mono ?_;rintro e7 w1 ⟨rfl,hx1⟩;have r0:=HS.out w1 hx1;obtain ⟨r0,r1,r2,r3⟩:=r0;have Hx0:=hid hx1;clear hx1 q0 q1 q2 q3;go_wp2_with fail
   go_region_held3 (fun w'=>w'.cell? ⟨w.heap.size,0,none⟩=some (.bool true)∧w'.cell? ⟨w.heap.size,1,none⟩=some (.slice ap lx cp)∧w'.cell? ⟨w.heap.size+1,0,none⟩=some (.bool false)∧w'.cell? ⟨w.heap.size+1,1,none⟩=some (.slice aq ly cq))
    (first | (with_reducible assumption) | exact HS.out _ (Ext.refl V).drew | exact HS.out _ (Hx0.out).drew)
    (first
     | (go_at_call 179
        refine (Hmn.out _ Hx0.out.drew Hg.out).mono ?_
        rintro e9 VA ⟨⟨o,hs,hv,hl,va,rfl,ho⟩,hxa⟩
        have hEA:Ext V VA:=Hx0.out.drew.trans hxa
        have hSA:=HS.out VA hEA
        have htrA:=Htr.out true o va VA _ ho hs hl
        rw [hv] at htrA
        obtain ⟨a8,c8,rfl⟩:=zfl ho
        have HtrA:=hid htrA
        have HEA:=hid hEA
        generalize o.length=lo at *
        clear hs hv hl ho hxa hEA htrA)
     | (go_at_call 111
        refine HtrA.out.mono ?_
        rintro e8 W9 ⟨v9,rfl,hw9,hx9⟩
        obtain ⟨b9,a9,l9,c9,rfl,hw9,_⟩:=hw9.letl
        have hE9:=HEA.out.trans hx9
        have hS9:=HS.out W9 hE9
        have hr9:=Kr.out.ext hE9
        have hS5:=HT.out W9 (.bool b9) (.slice a9 l9 c9) hE9
        have k0:=hr9.c0
        have k1:=hr9.c1
        have z0:=hr9.fz 0
        have z1:=hr9.fz 1
        have hb5:=hr9.put (.bool b9) (.slice a9 l9 c9)
        have hs5:=hw9.past hr9 (by simp) (by simp) (.bool b9) (.slice a9 l9 c9)
        have hx5:Ext w ((W9.setCell ⟨w.heap.size+1+1,0,none⟩ (.bool b9)).setCell ⟨w.heap.size+1+1,1,none⟩ (.slice a9 l9 c9)):=((Kx.out.trans hE9).setCell (by dsimp only;omega) _).setCell (by dsimp only;omega) _
        have Hb5:=hid hb5
        have Hx5:=hid hx5
        have Hs5:=hid hs5
        clear hb5 hx5 hs5 hr9 hx9 hw9 hE9))
   all_goals
    clear k0 k1 z0 z1 hS5 hS9 hSA;go_wp2_with fail
    have hd0:=Hb5.out.c0;have hd1:=Hb5.out.c1;exact bodyPost_ret (v:=.agg #[.bool b9,.slice a9 l9 c9]) (by simp [results,Tryz.results135,go_sem,hd0,hd1]) rfl ⟨_,rfl,by have h:=Hs5.out;rw [Hval.out] at h;exact h,Hx5.out⟩
 ·have hsx:x<0:=by have h:=Hbx.out;exact of_decide_eq_true h.symm
  have hsy:y<0:=by have h:=Hby.out;exact of_decide_eq_true h.symm
  have hval:zjD true (x.natAbs+y.natAbs)=x+y:=by unfold zjD;simp;omega
  have Hval:=hid hval;clear hval hsx hsy;have Hx0:=hid (Ext.refl V);go_enter Tryz.func135,Tryz.ntmps135
  go_wp2_with (rw [← HV.out])
  go_region_held3 (fun w'=>w'.cell? ⟨w.heap.size,0,none⟩=some (.bool true)∧w'.cell? ⟨w.heap.size,1,none⟩=some (.slice ap lx cp)∧w'.cell? ⟨w.heap.size+1,0,none⟩=some (.bool true)∧w'.cell? ⟨w.heap.size+1,1,none⟩=some (.slice aq ly cq))
   (first | (with_reducible assumption) | exact HS.out _ (Ext.refl V).drew | exact HS.out _ (Hx0.out).drew)
   (first
    | (go_at_call 177
       refine (Hpl.out _ Hx0.out.drew).mono ?_
       rintro e9 VA ⟨⟨o,hs,hv,hl,va,rfl,ho⟩,hxa⟩
       have hEA:Ext V VA:=Hx0.out.drew.trans hxa
       have hSA:=HS.out VA hEA
       have htrA:=Htr.out true o va VA _ ho hs hl
       rw [hv] at htrA
       obtain ⟨a8,c8,rfl⟩:=zfl ho
       have HtrA:=hid htrA
       have HEA:=hid hEA
       generalize o.length=lo at *
       clear hs hv hl ho hxa hEA htrA)
    | (go_at_call 111
       refine HtrA.out.mono ?_
       rintro e8 W9 ⟨v9,rfl,hw9,hx9⟩
       obtain ⟨b9,a9,l9,c9,rfl,hw9,_⟩:=hw9.letl
       have hE9:=HEA.out.trans hx9
       have hS9:=HS.out W9 hE9
       have hr9:=Kr.out.ext hE9
       have hS5:=HT.out W9 (.bool b9) (.slice a9 l9 c9) hE9
       have k0:=hr9.c0
       have k1:=hr9.c1
       have z0:=hr9.fz 0
       have z1:=hr9.fz 1
       have hb5:=hr9.put (.bool b9) (.slice a9 l9 c9)
       have hs5:=hw9.past hr9 (by simp) (by simp) (.bool b9) (.slice a9 l9 c9)
       have hx5:Ext w ((W9.setCell ⟨w.heap.size+1+1,0,none⟩ (.bool b9)).setCell ⟨w.heap.size+1+1,1,none⟩ (.slice a9 l9 c9)):=((Kx.out.trans hE9).setCell (by dsimp only;omega) _).setCell (by dsimp only;omega) _
       have Hb5:=hid hb5
       have Hx5:=hid hx5
       have Hs5:=hid hs5
       clear hb5 hx5 hs5 hr9 hx9 hw9 hE9))
  all_goals
   clear k0 k1 z0 z1 hS5 hS9 hSA;go_wp2_with fail
   have hd0:=Hb5.out.c0;have hd1:=Hb5.out.c1;exact bodyPost_ret (v:=.agg #[.bool b9,.slice a9 l9 c9]) (by simp [results,Tryz.results135,go_sem,hd0,hd1]) rfl ⟨_,rfl,by have h:=Hs5.out;rw [Hval.out] at h;exact h,Hx5.out⟩
end
section
open Go.RowKit Go.Lib Go.Shelf
theorem zoX (l:List UInt8)(hd:Dec.Dig l)(hne:l ≠ [])(hv:Dec.val 0 l<1000000000000000000):Lib.atoiAll l=.ok (Dec.val 0 l:Nat):=by
 have key:∀ (l:List UInt8)(acc:Nat),Dec.Dig l→Dec.val acc l<18446744073709551616→parseUint10 acc l=.ok (Dec.val acc l):=by
  intro l;induction l with
  | nil=>intro acc _ _;rw [Dec.val_nil];rfl
  | cons c r ih =>
   intro acc hd hv
   have hc:=hd c (List.mem_cons_self ..)
   have hr:Dec.Dig r:=fun x hx=>hd x (List.mem_cons_of_mem _ hx)
   rw [Dec.val_cons] at hv ⊢
   have hmono:10 * acc+Dec.dv c≤Dec.val (10 * acc+Dec.dv c) r:=by
    rw [Dec.val_acc];have:1≤10 ^ r.length:=Nat.one_le_pow _ _ (by decide);have:=Nat.mul_le_mul_left (10 * acc+Dec.dv c) this;omega
   have hdv:c.toNat - 48=Dec.dv c:=rfl
   simp only [parseUint10]
   rw [if_pos hc,if_neg (by omega),hdv,if_neg (by omega),Nat.mul_comm acc 10,ih _ hr hv]
 have mag:parseMag l=.ok (Dec.val 0 l):=by
  unfold parseMag;rw [if_neg hne,key l 0 hd (by omega)]
 cases l with
 | nil=>exact absurd rfl hne
 | cons c r =>
  have hc:=hd c (List.mem_cons_self ..)
  unfold atoiAll
  simp only
  rw [if_neg (by omega),mag]
  simp only
  have h45:¬ c.toNat=45:=by omega
  simp only [h45,not_false_eq_true,true_and,false_and,if_false]
  rw [if_neg (by omega)]
theorem zoY (l:List UInt8)(hd:Dec.Dig l)(hne:l ≠ [])(hl:l.length≤18)(w:World) :
  Calls Tryz.prog 63 #[.string ⟨l.toArray⟩] w fun e w'=>e=.returned (.tuple #[.int .i64 (Dec.val 0 l:Nat),.nilIface])∧Ext w w':=by
 have hv:Dec.val 0 l<1000000000000000000:=by
  have h1:=Dec.val_lt l hd;have h2:10 ^ l.length≤10 ^ 18:=Nat.pow_le_pow_right (by decide) hl;omega
 have hs:(⟨l.toArray⟩:ByteArray).size≤9223372036854775806:=by
  show l.toArray.size≤_;rw [List.size_toArray];omega
 refine (Any.strconv_Atoi_ok Tryz.lAtoi ⟨l.toArray⟩ hs _ (zoX l hd hne hv) w).mono fun e w' ⟨h,hw⟩=>⟨h,?_⟩;rcases hw with rfl | ⟨t,rfl⟩
 ·exact Ext.refl _
 ·exact Ext.bytes _ _ _
end
end Go.Proofs.YtbkfhacmekbniaaGreatDoor
