/- Walk: table.Rank where the plain one answers. (KEEPALL) Walk: Set.independent where the plain one answers. (KEEPALL) Walk: smith's sized at a right matrix and a right row. Walk: smith's Solve where the plain one answers. -/
import Derived.Test.YtipkdebkdnbieaaGreatDoorPe25
import Derived.Test.YtipkdebkdnbieaaGreatDoorPe19
import Derived.Test.YtipkdebkdnbieaaGreatDoorPe18
import Derived.Shelf.SlicesE.Clone
import Derived.Test.YtipkdebkdnbieaaGreatDoorPe23
import Derived.Test.YtipkdebkdnbieaaGreatDoorPe22
set_option maxRecDepth 100000
set_option maxHeartbeats 4000000
namespace Go.Proofs.YtipkdebkdnbieaaGreatDoor
open Go.RowKit Go.Lib Go.Shelf
theorem znC (vm:Value)(m:List (List Int))(n k r:Nat)(w:World)(he:Env w)(hm:Mat w vm m)(hk:m.length=k)(hk0:0<k)(hk9:k≤1000)(hn0:0<n)(hn9:n≤1000)(hrec:∀ r∈m,r.length=n)(hb:∀ r∈m,∀ z∈r,-9223372036854775808≤z∧z≤9223372036854775807)(ht:zkA m=0)(hrun:ziB m=some r) :
  Calls Tryz.prog 74 #[vm] w fun e w'=>e=.returned (.tuple #[.int .i64 r,.int .i64 0])∧Ext w w':=by
 have hg0:(m.getD 0 []).length=n:=by
  rw [List.getD_eq_getElem?_getD,List.getElem?_eq_getElem (by omega)];exact hrec _ (List.getElem_mem _)
 have hrow:∀ i,(m.getD i []).length≤1000000:=fun i=>by
  rw [List.getD_eq_getElem?_getD]
  cases h:m[i]? with
  | none=>exact Nat.zero_le _
  | some r=>have:=hrec r (List.mem_of_getElem? h);simp only [Option.getD_some];omega
 have htc:=zkC vm m w hm hrow (by omega);rw [ht] at htc;have hco:=fun W (hE:Ext w W)=>zm8 vm m n W (hE.mat hm) (by omega) hg0 (by omega);have hro:=fun W (hE:Ext w W)=>zmO vm m n W (he.ext hE) (hE.mat hm) hrec hn0 (by omega) (by omega) hb;obtain ⟨sF,hsF,hrF⟩:∃ s,zi9 (List.range n) ⟨m.map ziA,[],1⟩=some s∧s.ld.length=r:=by
  unfold ziB at hrun;rw [hg0] at hrun
  cases h:zi9 (List.range n) ⟨m.map ziA,[],1⟩ with
  | none=>rw [h] at hrun;cases hrun
  | some s=>rw [h] at hrun;exact ⟨s,rfl,Option.some.inj hrun⟩
 have hrq:zmW (m.map ziA) n:=fun x hx=>by
  obtain ⟨y,hy,rfl⟩:=List.mem_map.1 hx;unfold ziA;rw [List.length_map];exact hrec y hy
 obtain ⟨vs,hvl,hvs,_⟩:=hm;obtain ⟨am,cm,rfl,_,_,_⟩:=hvs.parts;rw [hvl,hk] at htc hco hro ⊢;have Htc:=hid htc;have Hco:=hid hco;have Hro:=hid hro;have HsF:=hid hsF;have HrF:=hid hrF;have Hrq:=hid hrq;have Hk:=hid hk;have He:=hid he;clear htc hco hro hsF hrF hrq hk hvl hvs hrow hg0 ht hrun hrec hb he;go_enter Tryz.func74,Tryz.ntmps74
 go_wp2_with fail
 refine Htc.out.mono ?_;rintro e w1 ⟨rfl,hx1⟩;have Hx1:=hid hx1;clear hx1;go_wp2_with fail
 refine (Hro.out w1 Hx1.out).mono ?_;rintro e w2 ⟨v2,rfl,ls,hG,hlx,hx2⟩;have hll:ls.length=k:=by
  have:=congrArg List.length hlx;rw [List.length_map,List.length_map,Hk.out] at this;exact this
 obtain ⟨gs,cap,e2,hgd⟩:=hG.gd (by omega);subst e2;rw [hll];have Hgd:=hid hgd;have Hlx:=hid hlx;have Hx2:=hid (Hx1.out.trans hx2);clear hG hgd hlx hx2 hll;go_wp2_with fail
 refine (Hco.out w2 Hx2.out).mono ?_;rintro e w3 ⟨rfl,hx3⟩;have hg3:=Hgd.out.ext hx3;have hgq:GQ w w1.heap.size w3.heap.size gs cap (m.map ziA) w3:=⟨ls,hg3,Hlx.out,fun e he=>(hg3.rowB he).2,hg3.gsB.2,Hx1.out.size,Hx2.out.trans hx3⟩;have hrd:=znB w w3 w1.heap.size gs cap k n (m.map ziA) sF He.out hgq (by rw [List.length_map];exact Hk.out) Hrq.out hn9 hk9 hn0 (Hx2.out.trans hx3).size HsF.out;have Hrd:=hid hrd;clear hg3 hgq hrd hx3;go_wp2_with fail
 refine Hrd.out.mono ?_;rintro e w4 ⟨v,s1,s2,rfl,du,dv,hrs⟩;obtain ⟨a,c,ev⟩:=zc3 hrs.l;subst ev;have Hx4:=hid hrs.x;rw [HrF.out];clear hrs;have hb5:=zes.new w4 (.string ⟨#[]⟩) (.string ⟨#[]⟩);have z0:=hb5.fz 0;have z1:=hb5.fz 1;have c0:=hb5.c0;have c1:=hb5.c1;clear hb5;go_wp2
 go_ret2
 exact ⟨rfl,Hx4.out.alloc _⟩
theorem znD {c:Nat}{s s':RdS}(h:zi8 c s=some s'):s'.ld.length≤s.ld.length+1:=by
 unfold zi8 at h;split at h
 ·dsimp only at h;split at h
  ·obtain rfl:=Option.some.inj h;exact Nat.le_succ _
  ·obtain rfl:=Option.some.inj h;show (s.ld++[c]).length≤_;rw [List.length_append];exact Nat.le_refl _
 ·cases h
theorem znE : ∀ {cs:List Nat}{s s':RdS},zi9 cs s=some s'→s'.ld.length≤s.ld.length+cs.length
 | [],s,s',h=>by
  obtain rfl:=Option.some.inj h;exact Nat.le_refl _
 | c::cs,s,s',h=>by
  rw [zi9] at h
  cases hs:zi8 c s with
  | none=>rw [hs] at h;cases h
  | some t =>
   rw [hs] at h
   have:=znD hs
   have:=znE h
   rw [List.length_cons]
   omega
theorem znF {m:List (List Int)}{r:Nat}(h:ziB m=some r):r≤(m.getD 0 []).length:=by
 unfold ziB at h
 cases hr:zi9 (List.range (m.getD 0 []).length) ⟨m.map ziA,[],1⟩ with
 | none=>rw [hr] at h;cases h
 | some s =>
  rw [hr] at h
  obtain rfl:=Option.some.inj h
  have:=znE hr
  rw [List.length_range] at this
  simpa using this
theorem znG {x:List Int}{l m:List (List Int)}{i:Nat}{a:List Int}{R:List (List Int) × List Int}(h:ziR (x::l) i m a=some R) :
  ∃ r,ziB (m++[x])=some r∧(r=(m++[x]).length→ziR l (i+1) (m++[x]) (a++[((i+1:Nat):Int)])=some R)∧(r ≠ (m++[x]).length→ziR l (i+1) m a=some R):=by
 rw [ziR] at h
 cases hr:ziB (m++[x]) with
 | none=>rw [hr] at h;cases h
 | some r =>
  rw [hr] at h
  dsimp only at h
  refine ⟨r,rfl,fun e=>?_,fun e=>?_⟩
  ·rwa [if_pos e] at h
  ·rwa [if_neg e] at h
theorem znH {n:Nat}(hn:n≤12):∀ {m:List (List Int)},(∀ r∈m,r.length=n)→(∀ r∈m,∀ z∈r,-1000000000≤z∧z≤1000000000)→zk9 n m=0
 | [],_,_=>rfl
 | x::m,h1,h2=>by
  have hx:zk8 n x=0:=by
   unfold zk8;have:=h1 x (List.mem_cons_self ..);rw [if_neg (by omega),if_neg (by omega),if_neg];intro q;obtain ⟨z,hz,hf⟩:=List.any_eq_true.1 q;have:=h2 x (List.mem_cons_self ..) z hz;unfold zgA at hf;rw [decide_eq_true this] at hf
   cases hf
  rw [zk9,hx];simp only [ne_eq,not_true_eq_false,if_false];exact znH hn (fun r hr=>h1 r (List.mem_cons_of_mem _ hr)) fun r hr=>h2 r (List.mem_cons_of_mem _ hr)
theorem znI {n:Nat}{m:List (List Int)}(hn:n≤12)(hm:m.length≤12)(h0:0<m.length)(h1:∀ r∈m,r.length=n)(h2:∀ r∈m,∀ z∈r,-1000000000≤z∧z≤1000000000):zkA m=0:=by
 unfold zkA;have hg:(m.getD 0 []).length=n:=by
  rw [List.getD_eq_getElem?_getD,List.getElem?_eq_getElem h0];exact h1 _ (List.getElem_mem _)
 rw [if_neg (by omega),hg];exact znH hn h1 h2
theorem znJ {B:Nat}(v:Value)(us:List Value)(w:World)(hx:w.ownsRow B 33 1 v us.length us)(hl:us.length≤1000)(h1:∀ u∈us,u.oneCell'=true) :
  Calls Tryz.prog 73 #[v] w fun e w'=>∃ v',e=.returned v'∧w'.ownsRow w.heap.size 33 1 v' us.length us∧Ext w w':=by
 obtain ⟨j0,hj,hy0,hy1,hy2⟩:=info_parts zmu;rcases hx.2 with ⟨rfl,h0⟩ | ⟨g,cap,cur,rfl,hb,hg,g1,g2,g3,g4⟩
 ·refine (AnyE.slices_Clone_nil Tryz.lCloneMx 0 0 w).mono fun e w' ⟨he,hw⟩=>⟨_,he,?_,by rw [hw];exact Ext.refl w⟩;have:us=[]:=List.eq_nil_of_length_eq_zero (by omega);rw [hw,this];exact World.ownsRow_nil w _ _ 1
 ·have hc:∀ i u,us[i]?=some u→w.cell? ⟨g,0+i,none⟩=some u:=fun i u hu=>by
   have:=World.ownsRow.cells hx (g:=g) rfl i u hu;rwa [show ((⟨g,0,none⟩:Addr).add i)=⟨g,0+i,none⟩ by unfold Addr.add;split <;> simp_all] at this
  refine (AnyE.slices_Clone Tryz.lCloneMx j0 (.slice none 0 0) 1 24 hj hy0 hy1 hy2 rfl (by decide) Tryz.sizeOf33 g 0 us.length cap us w (by omega) (by unfold maxLen;omega) (by omega) hc h1).mono fun e w' ⟨v',he,ho,_,hb⟩=>⟨v',he,ho,hb⟩
structure znK (w:World)(l:List (List Int))(n:Nat)(us:List Value)(m:List (List Int))(a:List Int)(v5 v6:Value)(wr:World):Prop where
 ul:us.length=m.length
 rd:∀ j u,us[j]?=some u→Sl w u (zap (m.getD j []))
 o5:wr.ownsRow w.heap.size 33 1 v5 us.length us
 o6:zc2 wr w.heap.size v6 a
 mem:∀ r∈m,r∈l
 few:m.length≤n
 al:a.length=m.length
 x:Ext w wr
section
variable {w wr V : World} {l m : List (List Int)} {n : Nat} {us : List Value} {a : List Int} {v5 v6 : Value}
theorem znK.ext (h:znK w l n us m a v5 v6 wr)(hx:Ext wr V):znK w l n us m a v5 v6 V:=⟨h.ul,h.rd,hx.own h.o5,hx.ownI h.o6,h.mem,h.few,h.al,h.x.trans hx⟩
theorem znK.mat (h:znK w l n us m a v5 v6 wr):Mat wr v5 m:=⟨us,h.ul,zan h.o5,fun j u hu=>h.x.sl (h.rd j u hu)⟩
theorem znK.one (h:znK w l n us m a v5 v6 wr):∀ u∈us,u.oneCell'=true:=fun u hu=>by
 obtain ⟨j,hj⟩:=List.mem_iff_getElem?.1 hu;obtain ⟨_,_,rfl,_,_,_⟩:=(h.rd j u hj).parts;rfl
theorem znK.next {B:Nat}{u v7:Value}{x:List Int}(h:znK w l n us m a v5 v6 wr)(hu:Sl w u (zap x))(hE:Ext w V)(ho:V.ownsRow B 33 1 v7 (us.length+1) (us++[u])):Mat V v7 (m++[x]):=by
 refine ⟨us++[u],by rw [List.length_append,List.length_append,h.ul];rfl,zan ho,fun j z hz=>hE.sl ?_⟩;rcases Nat.lt_or_ge j us.length with g | g
 ·rw [List.getElem?_append_left g] at hz;have:=h.rd j z hz;rwa [show (m++[x]).getD j []=m.getD j [] by rw [List.getD_eq_getElem?_getD,List.getD_eq_getElem?_getD,List.getElem?_append_left (by rw [← h.ul];exact g)]]
 ·rw [List.getElem?_append_right g] at hz;have hl:=(List.getElem?_eq_some_iff.1 hz).1;simp only [List.length_singleton] at hl;have hi:j=us.length:=by omega
  subst hi;rw [Nat.sub_self] at hz;obtain rfl:=Option.some.inj hz;rwa [show (m++[x]).getD us.length []=x by rw [List.getD_eq_getElem?_getD,h.ul,List.getElem?_append_right (Nat.le_refl _),Nat.sub_self];rfl]
theorem znK.nextRd {u:Value}{x:List Int}(h:znK w l n us m a v5 v6 wr)(hu:Sl w u (zap x)):∀ j z,(us++[u])[j]?=some z→Sl w z (zap ((m++[x]).getD j [])):=fun j z hz=>by
 rcases Nat.lt_or_ge j us.length with g | g
 ·rw [List.getElem?_append_left g] at hz;have:=h.rd j z hz;rwa [show (m++[x]).getD j []=m.getD j [] by rw [List.getD_eq_getElem?_getD,List.getD_eq_getElem?_getD,List.getElem?_append_left (by rw [← h.ul];exact g)]]
 ·rw [List.getElem?_append_right g] at hz;have hl:=(List.getElem?_eq_some_iff.1 hz).1;simp only [List.length_singleton] at hl;have hi:j=us.length:=by omega
  subst hi;rw [Nat.sub_self] at hz;obtain rfl:=Option.some.inj hz;rwa [show (m++[x]).getD us.length []=x by rw [List.getD_eq_getElem?_getD,h.ul,List.getElem?_append_right (Nat.le_refl _),Nat.sub_self];rfl]
end
theorem znL (a:List Int)(z:Int):zap (a++[z])=zap a++[.int .i64 z]:=by unfold zap;rw [List.map_append];rfl
theorem znM (vp vl:Value)(l mF:List (List Int))(aF:List Int)(n L:Nat)(w:World)(he:Env w)(hl:Mat w vl l)(hL:l.length=L)(hL9:L≤1000)(hn0:0<n)(hn:n≤11)(hrec:∀ r∈l,r.length=n)(hfit:∀ r∈l,∀ z∈r,-1000000000≤z∧z≤1000000000)
  (hrun:ziR l 0 [] []=some (mF,aF)) (hm0:0<mF.length) :
  Calls Tryz.prog 33 #[.agg #[vp,vl]] w fun e w'=>∃ vt va,e=.returned (.tuple #[vt,va,.int .i64 0])∧Mat w' vt (ziS mF)∧Sl w' va (zap aF)∧mF.length≤n∧aF.length=mF.length∧(∀ r∈mF,r∈l)∧Ext w w':=by
 obtain ⟨i0,hi,hz0,hz1,hz2⟩:=info_parts zc1;obtain ⟨j0,hj,hy0,hy1,hy2⟩:=info_parts zmu;obtain ⟨vs,hvl,hvs,hrows⟩:=hl;obtain ⟨am,cm,rfl,_,_,hcm⟩:=hvs.parts;rw [hvl,hL];have hbox:=zki w vp (.slice am L cm) 31;have hE0:Ext w (w.alloc (.cells #[vp,.slice am L cm] 31)):=(Ext.refl w).alloc _;have hck:∀ m:List (List Int),(∀ r∈m,r∈l)→0<m.length→m.length≤12→zkA m=0:=fun m h h0 h9=>znI (by omega) h9 h0 (fun r hr=>hrec r (h r hr)) fun r hr=>hfit r (h r hr);have hrk:∀ (vm:Value)(m:List (List Int))(r:Nat) W,Ext w W→Mat W vm m→(∀ r∈m,r∈l)→0<m.length→m.length≤12→ziB m=some r→Calls Tryz.prog 74 #[vm] W fun e w'=>e=.returned (.tuple #[.int .i64 r,.int .i64 0])∧Ext W w':=fun vm m r W hE hm h h0 h9 hr =>
  znC vm m n m.length r W (he.ext hE) hm rfl h0 (by omega) hn0 (by omega) (fun r hr=>hrec r (h r hr)) (fun r hr z hz=>by have:=hfit r (h r hr) z hz;omega) (hck m h h0 h9) hr
 have hg0:∀ m:List (List Int),(∀ r∈m,r∈l)→0<m.length→(m.getD 0 []).length=n:=fun m h h0=>by
  rw [List.getD_eq_getElem?_getD,List.getElem?_eq_getElem h0];exact hrec _ (h _ (List.getElem_mem _))
 have htr:∀ (vm:Value)(m:List (List Int)) W,Mat W vm m→(∀ r∈m,r∈l)→0<m.length→m.length≤12→Calls Tryz.prog 75 #[vm] W fun e w'=>∃ v,e=.returned (.tuple #[v,.int .i64 0])∧∃ ls,GdM zm9 3 33 1 w' W.heap.size v ls∧ls.map GR.x=ziS m∧Ext W w':=fun vm m W hm h h0 h9 =>
  zmF vm m n m.length W hm rfl h0 (by omega) hn0 (by omega) (fun r hr=>hrec r (h r hr)) (hck m h h0 h9)
 obtain ⟨q0,q1⟩:=hbox _ (Ext.refl _);have hS0:znK w l n [] [] [] (.slice none 0 0) (.slice none 0 0) (w.alloc (.cells #[vp,.slice am L cm] 31)):=⟨rfl,fun j u h=>by simp at h,World.ownsRow_nil _ _ _ 1,World.ownsRow_nil _ _ _ 1,fun r h=>by simp at h,Nat.zero_le _,rfl,hE0⟩;clear hvs hck;have Hbox:=hid hbox;have HE0:=hid hE0;have Hcm:=hid hcm;have Hrows:=hid hrows;have Hvl:=hid hvl;have Hrk:=hid hrk;have Htr:=hid htr;have Hg0:=hid hg0;have HS0:=hid hS0;have Hrun:=hid hrun;have HL:=hid hL;have Hrec:=hid hrec;clear hbox hE0 hcm hrows hvl hrk htr hg0 hS0 hrun hL hrec;clear hfit he;go_enter Tryz.func33,Tryz.ntmps33
 go_wp2_with fail
 clear q0 q1;go_loopw [5,6,17] (fun v5 v6 v17 wr=>∃ (i:Nat)(us:List Value)(m:List (List Int))(a:List Int),v17=.int .i64 i∧i≤L∧Hid (znK w l n us m a v5 v6 wr)∧Hid (ziR (l.drop i) i m a=some (mF,aF))) (fun _ _ v17 _=>L - (zal v17).toNat)
 case atStart=>exact ⟨0,[],[],[],rfl,Nat.zero_le _,HS0,Hrun⟩
 case round =>
  clear HS0 Hrun;obtain ⟨i,us,m,a,rfl,hiL,HS,HR⟩:=hrel;obtain ⟨a5,c5,e5⟩:=zc3 HS.out.o5;obtain ⟨a6,c6,e6⟩:=zc3 HS.out.o6;subst e5 e6;by_cases hin:i<L
  ·obtain ⟨x,hx⟩:∃ x,l[i]?=some x:=⟨_,List.getElem?_eq_getElem (by have:=HL.out;omega)⟩;obtain ⟨u,hu⟩:∃ u,vs[i]?=some u:=⟨_,List.getElem?_eq_getElem (by rw [Hvl.out,HL.out];exact hin)⟩;obtain ⟨bl,off,rfl,hcu⟩:=Hcm.out i u hu;have hru:=Hrows.out i u hu;rw [List.getD_eq_getElem?_getD,hx] at hru;simp only [Option.getD_some] at hru;have hmx:x∈l:=List.mem_of_getElem? hx;have hdr:l.drop i=x::l.drop (i+1):=by
    obtain ⟨h1,h2⟩:=List.getElem?_eq_some_iff.1 hx;rw [← h2];exact List.drop_eq_getElem_cons h1
   have hrr:=HR.out;rw [hdr] at hrr;obtain ⟨r,hr1,hr2,hr3⟩:=znG hrr;have hmm:∀ r∈m++[x],r∈l:=fun r hr=>by
    rcases List.mem_append.1 hr with q | q
    ·exact HS.out.mem r q
    ·rw [List.mem_singleton.1 q];exact hmx
   have hml:(m++[x]).length=m.length+1:=(by rw [List.length_append];rfl);have hrl:=znF hr1;rw [Hg0.out _ hmm (by omega)] at hrl;have hfew:=HS.out.few;have hul:=HS.out.ul;have hrank:=fun v W (hE:Ext w W)(hm:Mat W v (m++[x]))=>Hrk.out v (m++[x]) r W hE hm hmm (by omega) (by omega) hr1;have hcl:=znJ (.slice a5 us.length c5) us wr HS.out.o5 (by omega) HS.out.one;have hcw:=HS.out.x.cell hcu;obtain ⟨ax,cx,eu,_,_,_⟩:=hru.parts;rw [zar,Hrec.out x hmx] at eu;have hk1:(0:Int)≤(i:Int):=(by omega);have hk2:(i:Int)<(L:Int):=(by omega);rw [hml] at hr2 hr3;have Hru:=hid hru;have Hrank:=hid hrank;have Hcl:=hid hcl;have Hr2:=hid hr2;have Hr3:=hid hr3;have Hmm:=hid hmm;have Hul:=hid hul;have Hml:=hid hml;clear hru hrank hcl hr2 hr3 hmm hul hml;clear hx hu hcu hrr hdr hmx hr1 HR;subst eu;go_wp2_with fail
   refine Hcl.out.mono ?_;rintro e w1 ⟨v1,rfl,ho1,hx1⟩;obtain ⟨a1,c1,e1⟩:=zc3 ho1;subst e1;have hm3:us.length+1≤maxLen:=(by unfold maxLen;have:=Hul.out;omega);have hm4:(us.length+1) * 24≤140737488355328:=(by have:=Hul.out;omega);have hbase:=hx1.size;have Ho1:=hid ho1;have Hx1:=hid hx1;clear ho1 hx1;go_wp2_with (at_builtin;refine wpList_append_own _ rfl _ _ 78 rfl wr.heap.size 33 j0 (.slice none 0 0) 1 24 Tryz.underlying78 hj hy0 hy1 hy2 rfl (by decide) _ _ _ rfl (Ho1.out.alloc _) ⟨w1.heap.size,0,none⟩ 1 1 [.slice ax n cx] rfl rfl (cell_one_new _ _ _) (by simp [Value.oneCell']) hm3 hm4 (by rw [World.size_alloc];omega) ?_;intro v7 V7 hown7 hgrow7 _)
   have hE7:Ext wr V7:=(Hx1.out.alloc _).grown hgrow7 fun q hq=>(World.ownsRow.lt Ho1.out q hq).1;have hmat7:Mat V7 v7 (m++[x]):=HS.out.next Hru.out (HS.out.x.trans hE7) hown7;obtain ⟨a7,c7,e7⟩:=zc3 hown7;subst e7;have hown7':=zam hown7 HS.out.x.size;have hrk7:=Hrank.out _ V7 (HS.out.x.trans hE7) hmat7;have HE7:=hid hE7;have Hmat7:=hid hmat7;have Hown7':=hid hown7';have Hrk7:=hid hrk7;clear hE7 hmat7 hown7' hrk7;clear hown7 hgrow7 hm3 hm4 hbase;go_wp2_with fail
   refine Hrk7.out.mono ?_;rintro e w8 ⟨rfl,hx8⟩;have HS8:=hid (HS.out.ext (HE7.out.trans hx8));have Ho8:=hid (hx8.own Hown7'.out);clear hx8;by_cases hreq:r=m.length+1
   ·have hbe:((r:Int) == ((us.length+1:Nat):Int))=true:=(by rw [hreq,← Hul.out];exact beq_self_eq_true _);have hbe2:((r:Int) == (us.length:Int)+1)=true:=(by rw [hreq,← Hul.out];exact beq_iff_eq.2 (by omega));have hr9:=Hr2.out hreq;have Hr9:=hid hr9;clear hr9;have hal:=HS8.out.al;have hqo:w8.ownsRow w.heap.size 3 1 (.slice a6 a.length c6) a.length (zap a):=HS8.out.o6;have hm3:a.length+1≤maxLen:=(by unfold maxLen;omega);have hm4:(a.length+1) * 8≤140737488355328:=(by omega);have hbase:=HS8.out.x.size;have hfw:m.length+1≤n:=(by omega);have Hal:=hid hal;have Hfw:=hid hfw;clear hal hfw;clear hreq hrl;go_wp2_with (at_builtin;refine wpList_append_own _ rfl _ _ 33 rfl w.heap.size 3 i0 (.int .i64 0) 1 8 Tryz.underlying33 hi hz0 hz1 hz2 rfl (by decide) _ _ _ rfl (hqo.alloc _) ⟨w8.heap.size,0,none⟩ 1 1 [.int .i64 ((i:Int)+1)] rfl rfl (cell_one_new _ _ _) (by simp [Value.oneCell']) hm3 hm4 (by rw [World.size_alloc];omega) ?_;intro v9 V9 hown9 hgrow9 _)
    go_roundw
    case rel =>
     have hne:=zc5 Ho8.out hqo (fun q=>zmB q.symm);have hk9:V9.ownsRow w.heap.size 33 1 (.slice a7 (us.length+1) c7) (us.length+1) (us++[.slice ax n cx]):=World.ownsRow.kept (Ho8.out.alloc _) hgrow9 hne;have hX9:Ext w V9:=(HS8.out.x.alloc _).grown hgrow9 fun q hq=>(World.ownsRow.lt hqo q hq).1;refine ⟨i+1,us++[.slice ax n cx],m++[x],a++[((i+1:Nat):Int)],by go_num,hin,hid ⟨?_,HS.out.nextRd Hru.out,?_,?_,Hmm.out,?_,?_,hX9⟩,Hr9⟩
     ·rw [List.length_append,List.length_append,Hul.out];rfl
     ·rw [List.length_append];exact hk9
     ·unfold zc2;rw [List.length_append,znL];exact hown9
     ·have:=Hml.out;have:=Hfw.out;omega
     ·rw [List.length_append,List.length_append,Hal.out];rfl
    case measure=>simp [zal];omega
   ·have hbe:((r:Int) == ((us.length+1:Nat):Int))=false:=beq_eq_false_iff_ne.2 (by have:=Hul.out;omega);have hbe2:((r:Int) == (us.length:Int)+1)=false:=beq_eq_false_iff_ne.2 (by have:=Hul.out;omega);have hr9:=Hr3.out hreq;have Hr9:=hid hr9;clear hr9;clear hreq hrl;go_wp2_with fail
    go_roundw
    case rel=>exact ⟨i+1,us,m,a,by go_num,hin,HS8,Hr9⟩
    case measure=>simp [zal];omega
  ·have hiL2:i=L:=(by omega);have hni:¬ (i:Int)<(L:Int):=(by omega);have hrr:=HR.out;rw [List.drop_eq_nil_of_le (by have:=HL.out;omega),ziR] at hrr;obtain ⟨rfl,rfl⟩:=Prod.mk.inj (Option.some.inj hrr);have hfew:=HS.out.few;have htp:=Htr.out _ m wr HS.out.mat HS.out.mem hm0 (by omega);have Htp:=hid htp;clear htp;clear hrr hiL2;go_wp2_with fail
   refine Htp.out.mono ?_;rintro e w9 ⟨vt,rfl,ls,hgd,hls,hx9⟩;have hmt:=hgd.mat;rw [hls] at hmt;have HS9:=hid (HS.out.ext hx9);have Hmt:=hid hmt;clear hmt;clear hgd hls hx9;go_wp2
   go_ret3
   exact ⟨_,_,rfl,Hmt.out,HS9.out.o6.sl,HS9.out.few,HS9.out.al,HS9.out.mem,HS9.out.x⟩
theorem znN (vm vb:Value)(m:List (List Int))(b:List Int)(n k:Nat)(w:World)(hm:Mat w vm m)(hb:Sl w vb (zap b))(hk:m.length=k)(hk0:0<k)(hk9:k≤1000)(hn9:n≤1000)(hrec:∀ r∈m,r.length=n)(hbn:b.length=n)(ht:zkA m=0)(hbc:zgF b=0) :
  Calls Tryz.prog 76 #[vm,vb] w fun e w'=>e=.returned (.int .i64 0)∧Ext w w':=by
 have hrow:∀ i,(m.getD i []).length≤1000000:=fun i=>by
  rw [List.getD_eq_getElem?_getD]
  cases h:m[i]? with
  | none=>exact Nat.zero_le _
  | some r=>have:=hrec r (List.mem_of_getElem? h);simp only [Option.getD_some];omega
 have htc:=fun W (hE:Ext w W)=>zkC vm m W (hE.mat hm) hrow (by omega);have hrc:=fun W (hE:Ext w W)=>zgH vb b W (hE.sl hb) (by omega);rw [ht] at htc;rw [hbc] at hrc;obtain ⟨vs,hvl,hvs,hrows⟩:=hm;obtain ⟨am,cm,rfl,_,_,hc⟩:=hvs.parts;obtain ⟨r0,hr0⟩:∃ r,m[0]?=some r:=⟨_,List.getElem?_eq_getElem (by omega)⟩;obtain ⟨u0,hu0⟩:∃ u,vs[0]?=some u:=⟨_,List.getElem?_eq_getElem (by omega)⟩;obtain ⟨b0,off,rfl,hcu⟩:=hc 0 u0 hu0;have hru:=hrows 0 u0 hu0;rw [List.getD_eq_getElem?_getD,hr0] at hru;simp only [Option.getD_some] at hru;obtain ⟨ar,cr,rfl,_,_,_⟩:=hru.parts;obtain ⟨ab,cb,rfl,_,_,_⟩:=hb.parts;have hr0l:=hrec r0 (List.mem_of_getElem? hr0);rw [show (zap r0).length=n by rw [zar];exact hr0l,Nat.add_zero] at hcu;rw [hvl,hk,show (zap b).length=n by rw [zar];exact hbn] at *;have Htc:=hid htc;have Hrc:=hid hrc;have Hcu:=hid hcu;clear htc hrc hrec hr0 hu0 hru hr0l ht hbc hb hvs hrows hc hrow hvl hcu;have hk1:(0:Int)<(k:Int):=by omega
 go_enter Tryz.func76,Tryz.ntmps76
 go_wp2_with fail
 refine (Htc.out w (Ext.refl w)).mono ?_;rintro e w1 ⟨rfl,hx1⟩;have Hx1:=hid hx1;clear hx1;go_wp2_with fail
 refine (Hrc.out w1 Hx1.out).mono ?_;rintro e w2 ⟨rfl,hx2⟩;have Hx2:=hid (Hx1.out.trans hx2);have hcu2:=Hx2.out.cell Hcu.out;clear hx2;go_wp2
 go_ret
 exact ⟨rfl,Hx2.out⟩
theorem znO {w:World}{B E s:Nat}{g n c:Nat}{xs:List Value}(h:w.ownsRow B E s (.slice (some ⟨g,0,none⟩) n c) n xs):n≤c∧c≤maxLen:=by
 rcases h.2 with ⟨h0,_⟩ | ⟨g',c',cur,h0,_,_,h1,h2,_,_⟩
 ·cases h0
 ·simp only [Value.slice.injEq,Option.some.injEq,Addr.mk.injEq,and_true,true_and] at h0;rw [h0.2];exact ⟨h1,h2⟩
theorem znP {gs:Nat}{u:Value}{V:World}(h:V.cell? ⟨gs,0,none⟩=some u)(o:Obj):(V.alloc o).cell? ⟨gs,0,none⟩=some u:=((Ext.refl V).alloc o).cell h
theorem znQ (w:World)(v:Value)(t:TypeId):(w.alloc (.cells #[v] t)).cell? ⟨w.heap.size,0,none⟩=some v:=by
 have h:=World.alloc_heap_new w (.cells #[v] t);unfold World.cell?;rw [h];rfl
theorem znR (w:World)(v:Value)(t:TypeId):(w.alloc (.cells #[v] t)).drew.cell? ⟨w.heap.size,0,none⟩=some v:=znQ w v t
theorem znS (w:World)(v:Value)(t:TypeId)(o:Obj):((w.alloc (.cells #[v] t)).alloc o).drew.cell? ⟨w.heap.size,0,none⟩=some v:=((Ext.refl _).alloc o).cell (znQ w v t)
theorem znT (w:World)(v:Value)(t:TypeId)(o:Obj):((w.alloc o).alloc (.cells #[v] t)).drew.cell? ⟨w.heap.size+1,0,none⟩=some v:=by
 have:=znQ (w.alloc o) v t;rw [World.size_alloc] at this;exact this
theorem znU (w:World)(o:Obj):Ext w (w.alloc o).drew:=((Ext.refl w).alloc o).drew
theorem znV (w:World)(o p:Obj):Ext w ((w.alloc o).alloc p).drew:=(((Ext.refl w).alloc o).alloc p).drew
def upZ (f:List (List Int))(n:Nat):List (List Int):=f.filter fun l=>ziM l<n
theorem znW (f:List (List Int))(n:Nat)(r:List Int):upZ (f++[r]) n=upZ f n++(if ziM r<n then [r] else []):=by
 unfold upZ;rw [List.filter_append];by_cases h:ziM r<n
 ·rw [if_pos h];simp [h]
 ·rw [if_neg h];simp [h]
theorem znX (vm vb:Value)(m gF:List (List Int))(b lF xF:List Int)(n k tF:Nat)(w:World)(he:Env w)(hm:Mat w vm m)(hb:Sl w vb (zap b))(hk:m.length=k)(hrec:∀ r∈m,r.length=n)(hbn:b.length=n)(hn0:0<n)(hn:n+k≤1000)(hk0:0<k)
  (hmi:∀ r∈m,∀ z∈r,-9223372036854775808≤z∧z≤9223372036854775807) (hbi:∀ z∈b,-9223372036854775808≤z∧z≤9223372036854775807) (ht:zkA m=0) (hbc:zgF b=0)
  (hrun:ziI 100 (List.zipWith (fun r u=>r++u) m (ziK k)) 0 0 (n+k)=some (gF,tF)) (hred:ziP ((gF.take tF).filter fun l=>ziM l<n) (b++List.replicate k 0)=some lF) (hfit:∀ z∈lF,Fit z)
  (hsol:¬ ziM lF<n→ziP (ziN (gF.take tF) n) (ziD (lF.drop n))=some xF∧∀ z∈xF,z.natAbs≤1000000000) :
  Calls Tryz.prog 34 #[vm,vb] w fun e w'=>∃ v,e=.returned (.tuple #[v,.bool (decide (¬ ziM lF<n)),.int .i64 0])∧(ziM lF<n→v=.slice none 0 0)∧(¬ ziM lF<n→Sl w' v (zap xF)∧xF.length=k)∧Ext w w':=by
 obtain ⟨i0,hi,hz0,hz1,hz2⟩:=info_parts zf3;obtain ⟨j0,hj,hy0,hy1,hy2⟩:=info_parts zlY;have hsz:=znN vm vb m b n k w hm hb hk hk0 (by omega) (by omega) hrec hbn ht hbc;have hwd:=fun W (hE:Ext w W)=>zm7 vm m gF n k tF W (he.ext hE) (hE.mat hm) hk hrec hn0 hn hk0 hmi hrun;have hbig:∀ (w6:World)(q:Nat)(W:World),Ext w w6→Ext w6 W→W.cell? ⟨q,0,none⟩=some vb→Calls Tryz.prog 78 #[.slice (some ⟨q,0,none⟩) 1 1] W fun e w'=>∃ gs cg g c,e=.returned (.slice (some ⟨gs,0,none⟩) 1 cg)∧w'.cell? ⟨gs,0,none⟩=some (.slice (some ⟨g,0,none⟩) n c)∧w'.ownsRow w6.heap.size 100 1 (.slice (some ⟨g,0,none⟩) n c) n (zf1 b)∧Ext W w':=fun w6 q W h6 hW hc=>by
  have hmat:Mat W (.slice (some ⟨q,0,none⟩) 1 1) [b]:=⟨[vb],rfl,.inr ⟨q,0,1,rfl,by simp,by decide,fun i u hu=>by
   have hl:=(List.getElem?_eq_some_iff.1 hu).1;simp only [List.length_singleton] at hl;obtain rfl:i=0:=by omega
   obtain rfl:vb=u:=by simpa using hu
   simpa using hc⟩,fun i u hu=>by
   have hl:=(List.getElem?_eq_some_iff.1 hu).1;simp only [List.length_singleton] at hl;obtain rfl:i=0:=by omega
   obtain rfl:vb=u:=by simpa using hu
   exact (h6.trans hW).sl hb⟩
  refine (zmb _ [b] n W (he.ext (h6.trans hW)) hmat (by simpa using hbn) hn0 (by omega) (by simp) (by simpa using hbi)).mono ?_;rintro e w' ⟨v,rfl,ls,hG,hx,hE⟩;obtain ⟨r,rfl⟩:∃ r,ls=[r]:=by
   have:=congrArg List.length hx;rw [List.length_map] at this;exact List.length_eq_one_iff.1 this
  obtain ⟨gs,cg,rfl,hgd⟩:=hG.gd (by simp);have hrx:r.x=b:=by simpa using hx
  have h1:=hgd.at (i:=0) rfl;have h2:=hgd.rows r (by simp);unfold GR.u at h1 h2;rw [zlt] at h2;rw [hrx,hbn] at h1 h2;exact ⟨gs,cg,r.g,r.c,rfl,h1,zam h2 hW.size,hE⟩
 have hrep:∀ (q:Nat)(W:World),W.cell? ⟨q,0,none⟩=some (.string ⟨#[48]⟩)→Calls Tryz.prog 79 #[.slice (some ⟨q,0,none⟩) 1 1,.int .i64 k] W fun e w'=>∃ g,e=.returned (.slice (some ⟨g,0,none⟩) k k)∧(∀ j u,(zf1 (List.replicate k 0))[j]?=some u→w'.cell? ((⟨g,0,none⟩:Addr).add j)=some u)∧Ext W w':=fun q W hc=>by
  refine (zkK q (.string ⟨#[48]⟩) (.string ByteArray.empty) rfl rfl k W (by omega) hk0 hc).mono ?_;rintro e w' ⟨rfl,hh,hx⟩;have ho:=zmc (B:=0) (Nat.zero_le _) hh (by omega);rw [zmf,← zmd] at ho;refine ⟨_,rfl,fun j u hj=>?_,hx⟩;rw [show (⟨W.heap.size,0,none⟩:Addr).add j=⟨W.heap.size,j,none⟩ by unfold Addr.add;split <;> simp_all]
  exact zkR ho hj
 obtain ⟨vs,hvl,hvs,hrows⟩:=hm;obtain ⟨am,cm,rfl,_,_,_⟩:=hvs.parts;obtain ⟨ab,cb,rfl,_,_,_⟩:=hb.parts;rw [hvl,hk] at hsz hwd ⊢;rw [show (zap b).length=n by rw [zar];exact hbn] at hsz hbig ⊢;have Hsz:=hid hsz;have Hwd:=hid hwd;have Hbig:=hid hbig;have Hrep:=hid hrep;have Hred:=hid hred;have Hfit:=hid hfit;have Hsol:=hid hsol;have Hbn:=hid hbn;have He:=hid he;clear hsz hwd hbig hrep hvl hvs hrows hk hrec hbn hmi hbi ht hbc hrun hred hfit hsol he hb;have hkz:((k:Int) == 0)=false:=beq_eq_false_iff_ne.2 (by omega);go_enter Tryz.func34,Tryz.ntmps34
 go_wp2_with fail
 refine Hsz.out.mono ?_;rintro e w1 ⟨rfl,hx1⟩;have Hx1:=hid hx1;clear hx1;go_wp2_with fail
 refine (Hwd.out w1 Hx1.out).mono ?_;rintro e w6 ⟨v8,rfl,hf8,hfr,htk,hx6⟩;have Hf8:=hid hf8;have Hfr:=hid hfr;have Hx6:=hid (Hx1.out.trans hx6);clear hf8 hfr hx6;go_upto_region 7 with (fail)
 go_cut [10] (fun v10 wx=>∃ g c,v10=.slice (some ⟨g,0,none⟩) (n+k) c∧Hid (wx.ownsRow w6.heap.size 100 1 (.slice (some ⟨g,0,none⟩) (n+k) c) (n+k) (zf1 (b++List.replicate k 0)))∧Hid (Ext w6 wx))
 case first =>
  have hnl:(zf1 (List.replicate k 0)).length=k * 1:=by rw [zf2,List.length_replicate,Nat.mul_one]
  have hone:∀ u∈zf1 (List.replicate k 0),u.oneCell'=true:=fun u hu=>by
   unfold zf1 at hu;obtain ⟨z,_,rfl⟩:=List.mem_map.1 hu;rfl
  have hb3:n+k≤maxLen:=by unfold maxLen;omega
  have hb4:(n+k) * 16≤140737488355328:=by omega
  have Hnl:=hid hnl;have Hone:=hid hone;clear hnl hone;go_region_law (first
   | (go_simp
      go_at_call 78
      refine (Hbig.out w6 _ _ Hx6.out ?_ ?_).mono ?_
      · first | exact znV w6 _ _ | exact znU w6 _
      · first | exact znR w6 _ _ | exact znS w6 _ _ _ | exact znT w6 _ _ _
      rintro e V1 ⟨gs,cg,gr,cr,rfl,hc1,ho1,hxb⟩
      have hc2:=znP hc1 (.cells #[.string ⟨#[48]⟩] 100)
      first
        | (have hxx:Ext ((w6.alloc (.cells #[.slice ab n cb] 33)).alloc (.cells #[.string ⟨#[48]⟩] 100)).drew V1:=(by with_reducible exact hxb);have HcB:=hid (hxx.cell (znT _ _ _ _));have HE1:=hid ((znV _ _ _).trans hxx))
        | (have hxx:Ext ((w6.alloc (.cells #[.string ⟨#[48]⟩] 100)).alloc (.cells #[.slice ab n cb] 33)).drew V1:=(by with_reducible exact hxb);have HcB:=hid (hxx.cell (znS _ _ _ _));have HE1:=hid ((znV _ _ _).trans hxx))
        | (have HE1:=hid ((znU _ _).trans hxb))
      have Ho1:=hid ho1;have Hc1:=hid hc1
      try clear hxx
      clear hxb ho1)
   | (go_simp
      go_at_call 79
      first
        | refine (Hrep.out _ _ HcB.out).mono ?_
        | refine (Hrep.out _ _ (znQ V1 _ _)).mono ?_
      rintro e V2 ⟨g2,rfl,hn2,hx2⟩
      first
        | (have HX2:Hid (Ext V1 V2):=(by with_reducible exact hid hx2))
        | have HX2:=hid (((Ext.refl V1).alloc (.cells #[.string ⟨#[48]⟩] 100)).trans hx2)
      have hc3:=HX2.out.cell Hc1.out
      have Ho2:=hid (HX2.out.own Ho1.out);have HE2:=hid (HE1.out.trans HX2.out);have Hn2:=hid hn2
      have hbs:=HE2.out.size
      clear hx2 hn2)
   | (refine step_append_lies _ rfl (.tmp 36) (.tmp 40) 129 rfl w6.heap.size 100 i0 (.string ByteArray.empty) 1 16 Tryz.underlying129 hi hz0 hz1 hz2 rfl (by decide) (.slice (some ⟨gr,0,none⟩) n cr) n (zf1 b) (by simp [Act.eval]) Ho2.out ⟨g2,0,none⟩ k k (zf1 (List.replicate k 0)) (by simp [Act.eval]) Hnl.out Hn2.out Hone.out (by omega) hb3 hb4 hbs _ rfl ?_;intro g3 c3 V3 hown3 hgrow3 hat3 hlt3;have Hown3:=hid hown3;have HE3:=hid (HE2.out.grown hgrow3 fun q hq=>(World.ownsRow.lt Ho2.out q hq).1);clear hown3 hgrow3 hat3 hlt3))
  all_goals
   have ho3:=Hown3.out;rw [← zm2] at ho3;have Ho3:=hid ho3;clear ho3;go_wp2_with fail
   go_meet
   exact ⟨g3,c3,rfl,Ho3,HE3⟩
 case rest =>
  obtain ⟨g3,c3,rfl,Ho3,HE3⟩:=hcut;have hms8:=Hf8.out.ext HE3.out;obtain ⟨vf,hvl,hvf,hrf⟩:=hms8;obtain ⟨af,cf,rfl,_,_,hcf⟩:=hvf.parts;have hms8:=Hf8.out.ext HE3.out;rw [hvl] at hms8;have Hms8:=hid hms8;clear hms8;have hfl:(gF.take tF).length≤1000:=by rw [List.length_take];omega
  rw [hvl];generalize hfm:gF.take tF=f at *;generalize hM:f.length=M at *;have Hcf:=hid hcf;have Hrf:=hid hrf;have HM:=hid hM;have Hvl:=hid hvl;clear hcf hrf hM hvl hvf hfm;go_wp2_with fail
  go_loopw [44,11] (fun v44 v11 wr=>∃ i:Nat,v44=.int .i64 i∧i≤M∧Hid (∃ us:List Value,us.length=(upZ (f.take i) n).length∧wr.ownsRow wc.heap.size 129 1 v11 us.length us∧∀ j u,us[j]?=some u→∀ W,Ext wc W→Sl W u (zf1 ((upZ (f.take i) n).getD j [])))∧Hid (Ext wc wr)) (fun v44 _ _=>M - (zal v44).toNat)
  case atStart=>exact ⟨0,rfl,Nat.zero_le _,hid ⟨[],rfl,World.ownsRow_nil _ _ _ 1,fun i u h=>by simp at h⟩,hid (Ext.refl _)⟩
  case round =>
   obtain ⟨i,rfl,hiM,HU,HE⟩:=hrel;obtain ⟨us,hul,huo,hur⟩:=HU.out;obtain ⟨a5,c5,e5⟩:=zc3 huo;subst e5;have Hul:=hid hul;have Huo:=hid huo;have Hur:=hid hur;clear HU hul huo hur;by_cases hil:i<M
   ·obtain ⟨r,hr⟩:∃ r,f[i]?=some r:=⟨_,List.getElem?_eq_getElem (by have:=HM.out;omega)⟩;obtain ⟨u,hu⟩:∃ u,vf[i]?=some u:=⟨_,List.getElem?_eq_getElem (by rw [Hvl.out];exact hil)⟩;obtain ⟨b8,off,rfl,hcu⟩:=Hcf.out i u hu;have hru:=Hrf.out i u hu;rw [List.getD_eq_getElem?_getD,hr] at hru;simp only [Option.getD_some] at hru;have hrl:=Hfr.out r (List.mem_of_getElem? hr);have htk2:upZ (f.take (i+1)) n=upZ (f.take i) n++(if ziM r<n then [r] else []):=by
     obtain ⟨h1,h2⟩:=List.getElem?_eq_some_iff.1 hr;rw [List.take_succ_eq_append_getElem h1,h2,znW]
    have hld:=fun W (hE:Ext wc W)=>zmo u r W (hE.sl hru) (by omega);have hrs:=fun W (hE:Ext wc W)=>hE.sl hru;obtain ⟨ar,cr,hue,_,_,_⟩:=hru.parts;rw [zf2,hrl] at hue;have hcw:=HE.out.cell hcu;have hk1:(0:Int)≤(i:Int):=(by omega);have hk2:(i:Int)<(M:Int):=(by omega);have HL:=hid (hld wr HE.out);have Htk:=hid htk2;have Hrs:=hid hrs;clear htk2 hrs hld hr hu hru hcu hrl;subst hue;go_wp2_with fail
    refine HL.out.mono ?_;rintro e w2 ⟨rfl,hx2⟩;have HE2:=hid (HE.out.trans hx2);have Hx2':=hid hx2;clear hx2 hcw;by_cases hlt:ziM r<n
    ·have hc1:(ziM r:Int)<(n:Int):=(by omega);have hqo:=Hx2'.out.own Huo.out;have hus:us.length≤1000:=by
      rw [Hul.out];have:=List.length_filter_le (fun l=>decide (ziM l<n)) (f.take i);rw [List.length_take,HM.out] at this;unfold upZ;omega
     have hm3:us.length+1≤maxLen:=(by unfold maxLen;omega);have hm4:(us.length+1) * 24≤140737488355328:=(by omega);have hbase:wc.heap.size≤w2.heap.size:=HE2.out.size;go_wp2_with (at_builtin;refine wpList_append_own _ rfl _ _ 126 rfl wc.heap.size 129 j0 (.slice none 0 0) 1 24 Tryz.underlying126 hj hy0 hy1 hy2 rfl (by decide) _ _ _ rfl (hqo.alloc _) ⟨w2.heap.size,0,none⟩ 1 1 [.slice ar (n+k) cr] rfl rfl (cell_one_new _ _ _) (by simp [Value.oneCell']) hm3 hm4 (by rw [World.size_alloc];omega) ?_;intro v7 V7 hown7 hgrow7 _)
     go_roundw
     case rel =>
      have htk:=Htk.out;rw [if_pos hlt] at htk;refine ⟨i+1,by go_num,hil,hid ⟨us++[_],by rw [htk,List.length_append,List.length_append,Hul.out];rfl,by rw [List.length_append];exact hown7,fun j x hx W hW=>?_⟩,hid ((HE2.out.alloc _).grown hgrow7 fun q hq=>(World.ownsRow.lt hqo q hq).1)⟩;rw [htk];rcases Nat.lt_or_ge j us.length with g | g
      ·rw [List.getElem?_append_left g] at hx;have:=Hur.out j x hx W hW;rwa [show (upZ (f.take i) n++[r]).getD j []=(upZ (f.take i) n).getD j [] by rw [List.getD_eq_getElem?_getD,List.getD_eq_getElem?_getD,List.getElem?_append_left (by rw [← Hul.out];exact g)]]
      ·rw [List.getElem?_append_right g] at hx;have hl:=(List.getElem?_eq_some_iff.1 hx).1;simp only [List.length_singleton] at hl;have hi:j=us.length:=(by omega);subst hi;rw [Nat.sub_self] at hx;obtain rfl:=Option.some.inj hx;rw [show (upZ (f.take i) n++[r]).getD us.length []=r by rw [List.getD_eq_getElem?_getD,Hul.out,List.getElem?_append_right (Nat.le_refl _),Nat.sub_self];rfl];exact Hrs.out W hW
     case measure=>simp [zal];omega
    ·have hc1:¬ (ziM r:Int)<(n:Int):=(by omega);have htk:=Htk.out;rw [if_neg hlt,List.append_nil] at htk;have Htk2:=hid htk;clear htk;go_wp2_with fail
     go_roundw
     case rel=>exact ⟨i+1,by go_num,hil,hid ⟨us,by rw [Htk2.out];exact Hul.out,Hx2'.out.own Huo.out,by rw [Htk2.out];exact Hur.out⟩,HE2⟩
     case measure=>simp [zal];omega
   ·have hkk:¬ (i:Int)<(M:Int):=(by omega);have hft:f.take i=f:=List.take_of_length_le (by rw [HM.out];omega);have hul:=Hul.out;have hur:=Hur.out;rw [hft] at hul hur;have hms:zmq wr (.slice a5 us.length c5) (upZ f n):=⟨us,hul,zan Huo.out,fun j u hu=>hur j u hu _ HE.out⟩;have hul9:(upZ f n).length≤1000:=by
     have:=List.length_filter_le (fun l=>decide (ziM l<n)) f;unfold upZ;rw [HM.out] at this;omega
    have hrow:∀ r∈upZ f n,n+k≤r.length∧r.length≤1000:=fun r hr=>by
     have:=Hfr.out r ((List.mem_filter.1 hr).1);omega
    have hbk:(b++List.replicate k 0).length=n+k:=(by rw [List.length_append,Hbn.out,List.length_replicate]);have hrd:=zmt _ (.slice (some ⟨g3,0,none⟩) (n+k) c3) (upZ f n) (b++List.replicate k 0) lF (n+k) wr (He.out.ext (Hx6.out.trans (HE3.out.trans HE.out))) hms (HE.out.sl (zan Ho3.out)) hbk (by omega) hn hul9 hrow Hred.out;have Hrd:=hid hrd;clear hrd hms hul9 hrow hbk hft hul hur;go_wp2_with fail
    refine Hrd.out.mono ?_;rintro e w8 ⟨u,rfl,hou,hll,hx8⟩;obtain ⟨g8,cu,eu,hg8,_⟩:=World.ownsRow.form hou (by omega);subst eu;have hg9:wc.heap.size≤g8:=Nat.le_trans HE.out.size hg8;have hcap8:=znO hou;have hld:=zmo _ lF w8 (zan hou) (by omega);have Hou:=hid hou;have Hll:=hid hll;have HE8:=hid (HE.out.trans hx8);have Hld:=hid hld;clear hou hll hx8 hld;go_wp2_with fail
    refine Hld.out.mono ?_;rintro e w9 ⟨rfl,hx9⟩;have Hou9:=hid (hx9.own Hou.out);have HE9:=hid (HE8.out.trans hx9);clear hx9;by_cases hlF:ziM lF<n
    ·have hc1:(ziM lF:Int)<(n:Int):=(by omega);go_wp2
     go_ret3
     exact ⟨_,by rw [decide_eq_false (not_not_intro hlF)] <;> rfl,fun _=>rfl,fun h=>absurd hlF h,Hx6.out.trans (HE3.out.trans HE9.out)⟩
    ·have hc1:¬ (ziM lF:Int)<(n:Int):=(by omega);have hcc1:(n:Int)≤((n+k:Nat):Int):=(by omega);have hcc2:(0:Int)≤(n:Int):=(by omega);have htu:=zl3 g8 n k (n+k) cu (cu - n) lF w9 wr.heap.size Hll.out rfl hn Hou9.out Hfit.out;have Htu:=hid htu;clear htu;go_wp2_with fail
     refine Htu.out.mono ?_;rintro e wt ⟨rfl,hot,hgt⟩;have hEt:Ext wc wt:=zlq hgt HE9.out hg9;have hst:∀ W,Ext wt W→Sl W (.slice (some ⟨g8,n,none⟩) k (cu - n)) (zf1 (ziD (lF.drop n))):=fun W hW=>by
      have hlen:(zf1 (ziD (lF.drop n))).length=k:=(by rw [zf2];unfold ziD;rw [List.length_map,List.length_drop,Hll.out];omega);have hcw:=hcap8;rw [show (Value.slice (some ⟨g8,n,none⟩) k (cu - n))=.slice (some ⟨g8,n,none⟩) (zf1 (ziD (lF.drop n))).length (cu - n) by rw [hlen]];refine .inr ⟨g8,n,cu - n,rfl,by rw [hlen];omega,by omega,fun j x hx=>?_⟩;rw [← zl2 (off:=n) (n:=k) (by rw [Hll.out])] at hx;have hx2:(zf1 (zlw lF n k))[n+j]?=some x:=by
       unfold zf1 at hx ⊢;rw [List.map_drop,List.getElem?_drop] at hx;exact hx
      exact hW.cell (zkR hot hx2)
     obtain ⟨hr3,hsm⟩:=Hsol.out hlF;have hke:=zmz (.slice af M cf) f n (n+k) wt (Hms8.out.ext hEt) hn (by rw [HM.out];omega) Hfr.out (by omega);have Hke:=hid hke;have HEt:=hid hEt;have Hst:=hid hst;have Hr3:=hid hr3;have Hsm:=hid hsm;clear hke hEt hst hr3 hsm hot hgt;go_wp2_with fail
     refine Hke.out.mono ?_;rintro e wk ⟨vk,rfl,hmk,hxk⟩;have hkl:(ziN f n).length≤1000:=by
      unfold ziN;rw [List.length_map];have:=List.length_filter_le (fun l=>decide (n≤ziM l)) f;rw [HM.out] at this;omega
     have hkr:∀ r∈ziN f n,k≤r.length∧r.length≤1000:=fun r hr=>by
      unfold ziN at hr;obtain ⟨q,hq,rfl⟩:=List.mem_map.1 hr;have:=Hfr.out q (List.mem_filter.1 hq).1;rw [List.length_drop];omega
     have hnl:(ziD (lF.drop n)).length=k:=(by unfold ziD;rw [List.length_map,List.length_drop,Hll.out];omega);have hEw:=Hx6.out.trans (HE3.out.trans (HEt.out.trans hxk));have hr2:=zmt vk (.slice (some ⟨g8,n,none⟩) k (cu - n)) (ziN f n) (ziD (lF.drop n)) xF k wk (He.out.ext hEw) hmk (Hst.out wk hxk) hnl hk0 (by omega) hkl hkr Hr3.out;have Hr2:=hid hr2;have HEw:=hid hEw;clear hr2 hEw hmk hxk hkl hkr hnl;go_wp2_with fail
     refine Hr2.out.mono ?_;rintro e wn ⟨u,rfl,hou,hxl,hxn⟩;obtain ⟨au,cuu,eu⟩:=zc3 hou;subst eu;have hsl1:Sl (wn.alloc (.cells #[.slice au k cuu] 129)) (.slice au k cuu) (zf1 xF):=((Ext.refl wn).alloc _).sl (zan hou);have hmx:zmq (wn.alloc (.cells #[.slice au k cuu] 129)) (.slice (some ⟨wn.heap.size,0,none⟩) 1 1) [xF]:=⟨[.slice au k cuu],rfl,.inr ⟨wn.heap.size,0,1,rfl,by simp,by decide,fun j x hx=>by
      have hl:=(List.getElem?_eq_some_iff.1 hx).1;simp only [List.length_singleton] at hl;obtain rfl:j=0:=by omega
      obtain rfl:Value.slice au k cuu=x:=by simpa using hx
      exact znQ wn _ _⟩,fun j x hx=>by
      have hl:=(List.getElem?_eq_some_iff.1 hx).1;simp only [List.length_singleton] at hl;obtain rfl:j=0:=by omega
      obtain rfl:Value.slice au k cuu=x:=by simpa using hx
      exact hsl1⟩
     have hs1:=zmx _ xF k _ hmx hxl (by omega) Hsm.out;have Hs1:=hid hs1;have Hxl:=hid hxl;have HEn:=hid ((HEw.out.trans hxn).alloc (.cells #[.slice au k cuu] 129));clear hs1 hmx hsl1 hou hxl hxn;go_wp2_with fail
     refine Hs1.out.mono ?_;rintro e wz ⟨vz,rfl,uz,hoz,hiz,hxz⟩;obtain ⟨gz,cz,ez,_,_⟩:=World.ownsRow.form hoz (by omega);subst ez;have hcz:wz.cell? ⟨gz,0,none⟩=some uz:=zkR hoz rfl;obtain ⟨az,czz,ezz⟩:=zc3 hiz;subst ezz;have Hiz:=hid hiz;have HEz:=hid (HEn.out.trans hxz);clear hiz hxz hoz;go_wp2
     go_ret3
     exact ⟨_,by rw [decide_eq_true hlF] <;> rfl,fun h=>absurd h hlF,fun _=>⟨Hiz.out.sl,Hxl.out⟩,HEz.out⟩
end Go.Proofs.YtipkdebkdnbieaaGreatDoor
