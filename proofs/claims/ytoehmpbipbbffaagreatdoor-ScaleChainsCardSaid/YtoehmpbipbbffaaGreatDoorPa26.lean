/- Walks: law 31's primes of a world. Walk: schismaref02's divide. Walk: schismaref03's divide at any length. (Printed by wip/r3d.py.) Walk: schismaref03's GcdW at any length. Walks: schismaref03's SignW and NegW at any length. strconv.Atoi at a piece of digits (leading noughts too). -/
import Derived.Test.YtoehmpbipbbffaaGreatDoorPa18
import Derived.Test.YtoehmpbipbbffaaGreatDoorPa25
import Derived.Laws.AppendOwnNone
import Derived.Test.YtoehmpbipbbffaaGreatDoorPa10
import Derived.Deep.RegionHeld3
import Derived.Test.YtoehmpbipbbffaaGreatDoorPa01
set_option maxRecDepth 100000
set_option maxHeartbeats 4000000
namespace Go.Proofs.YtoehmpbipbbffaaGreatDoor
section
open Go.RowKit Go.Lib Go.Shelf
attribute [local go_sem] Oper.semAt_some
def Wl.cs (a:Wl):Array Value:=#[.bool a.three,.int .u8 a.kind,.int .u8 a.num,.int .i8 (a.xs 0).a,.int .i8 (a.xs 0).b,.int .i8 (a.xs 0).c,.int .i8 (a.xs 1).a,.int .i8 (a.xs 1).b,.int .i8 (a.xs 1).c,.int .i8 (a.xs 2).a,.int .i8 (a.xs 2).b,.int .i8 (a.xs 2).c,.int .i8 (a.xs 3).a,.int .i8 (a.xs 3).b,.int .i8 (a.xs 3).c,.int .i8 (a.xs 4).a,.int .i8 (a.xs 4).b,.int .i8 (a.xs 4).c,.int .i8 (a.xs 5).a,.int .i8 (a.xs 5).b,.int .i8 (a.xs 5).c,.int .i8 (a.xs 6).a,.int .i8 (a.xs 6).b,.int .i8 (a.xs 6).c,.int .i8 (a.xs 7).a,.int .i8 (a.xs 7).b,.int .i8 (a.xs 7).c]
def Wl.v (a:Wl):Value:=.agg a.cs
theorem znq {w:World}{B:Nat}(T:TypeId)(xs:Array Value)(hB:B≤w.heap.size)(hm:xs.size≤maxLen):(w.alloc (.cells xs T)).ownsRow B T 1 (.slice (some ⟨w.heap.size,0,none⟩) xs.size xs.size) xs.size xs.toList :=
 ⟨by simp,.inr ⟨w.heap.size,xs.size,xs,rfl,hB,World.alloc_heap_new w _,Nat.le_refl _,hm,by simp,by rw [Nat.mul_one,← Array.length_toList,List.take_length]⟩⟩
theorem znr (a:Wl)(w:World) :
  Calls Tryz.prog 5 #[a.v] w fun e w'=>∃ u,e=.returned u∧w'.ownsRow w.heap.size 3 1 u a.p.length (zak a.p)∧Ext w w':=by
 obtain ⟨W1,hW1⟩:∃ W1,W1=w.alloc (.cells a.cs 26):=⟨_,rfl⟩;have hE:Ext w W1:=by rw [hW1];exact (Ext.refl w).alloc _
 have hc:W1.cell? ⟨w.heap.size,0,none⟩=some (.bool a.three):=by
  unfold World.cell?;rw [hW1];dsimp only;rw [World.alloc_heap_new w _];rfl
 have HE:=Lib.hid hE;unfold Wl.v;unfold Wl.p;clear hE
 cases h3:a.three
 ·rw [h3] at hc;unfold Wl.cs at hW1 ⊢;rw [h3] at hW1 ⊢;clear h3;go_enter Tryz.func5,Tryz.ntmps5
  go_wp2_with fail
  go_ret
  rw [← hW1];have hon:=znq (w:=W1) (B:=w.heap.size) 3 #[.int .i64 2,.int .i64 3] HE.out.size (by unfold maxLen;simp);have hsz:W1.heap.size=w.heap.size+1:=by rw [hW1,World.size_alloc]
  rw [hsz] at hon;exact ⟨_,rfl,hon,HE.out.alloc _⟩
 ·rw [h3] at hc;unfold Wl.cs at hW1 ⊢;rw [h3] at hW1 ⊢;clear h3;go_enter Tryz.func5,Tryz.ntmps5
  go_wp2_with fail
  go_ret
  rw [← hW1];have hon:=znq (w:=W1) (B:=w.heap.size) 3 #[.int .i64 2,.int .i64 3,.int .i64 5] HE.out.size (by unfold maxLen;simp);have hsz:W1.heap.size=w.heap.size+1:=by rw [hW1,World.size_alloc]
  rw [hsz] at hon;exact ⟨_,rfl,hon,HE.out.alloc _⟩
structure zns (p:List Nat)(b:Nat)(w0:World)(k R Q:Nat)(o:List Nat)(v7:Value)(wr:World):Prop where
 n:o.length=p.length
 sm:Dec.Small o
 q:Dec.pv (o.drop k)=Q
 e:Dec.pv (p.drop k)=Q * b+R
 lt:R<b
 out:zmQ wr w0.heap.size (.slice (some ⟨w0.heap.size,0,none⟩) p.length p.length) o
 rest:zmQ wr (w0.heap.size+1) v7 (Dec.P R)
 x:Ext w0 wr
theorem znt {w:World}{B:Nat}:zmQ w B (.slice none 0 0) []:=⟨rfl,.inl ⟨rfl,rfl⟩⟩
theorem znu {w:World}{g B cap n:Nat}{v:Value}{o l:List Nat}(hn:o.length=n)(h:zmQ w g (.slice (some ⟨g,0,none⟩) n cap) o)(hr:zmQ w B v l)(hB:g<B)(j:Nat)(x:Value):zmQ (w.setCell ⟨g,j,none⟩ x) B v l:=by
 subst hn;refine World.ownsRow.kept hr (World.ownsRow.stored h j x).2 ?_
 cases hv:v.ownBlock with
 | none=>exact .inl rfl
 | some r =>
  right
  intro e
  have e2:r=g:=by simpa [Value.ownBlock] using e
  have:=(World.ownsRow.lt hr r hv).1
  omega
theorem znv {o:List Nat}{m d:Nat}(h:m<o.length):(o.set m d).drop m=d::o.drop (m+1):=by
 rw [List.drop_eq_getElem_cons (by rw [List.length_set];exact h),List.getElem_set_self];congr 1
 first | exact List.drop_set_of_lt (Nat.lt_succ_self m) | (rw [List.drop_set];simp)
theorem znw {T b x:Nat}(hb:0<b):zmG (b * x) T≤0 ↔ x≤T / b:=by
 rw [zmK,Nat.le_div_iff_mul_le hb,Nat.mul_comm]
theorem znx {W:World}{B bt ot c n x:Nat}{l:List Nat}(hl:l=[x])(h:zmQ W B (.slice (some ⟨bt,ot,none⟩) n c) l):W.cell? ⟨bt,ot,none⟩=some (.int .i64 (x:Int)):=by
 subst hl;obtain ⟨b,off,e,hc⟩:=zmW h.sl 0 (by simp);injection e with e;injection e with e1 e2;subst e1;subst e2;exact hc
structure zny (p:List Nat)(b:Nat)(w0:World)(k R Q:Nat)(o:List Nat)(v7:Value)(wr:World):Prop where
 d:zns p b w0 k R Q o v7 wr
 z:∀ j,j<k→nth o j=0
theorem zny.skip {p:List Nat}{b:Nat}{w0 wr V:World}{m R Q T:Nat}{o:List Nat}{v7 u:Value}(h:zny p b w0 (m+1) R Q o v7 wr)(hm:m<p.length)(he:Dec.pv (p.drop m)=(Q * Dec.B+T / b) * b+T % b)(hT:T<b)
  (ho:zmQ V w0.heap.size (.slice (some ⟨w0.heap.size,0,none⟩) p.length p.length) o) (hu:zmQ V (w0.heap.size+1) u (Dec.P T)) (hx:Ext w0 V):zny p b w0 m T (Q * Dec.B) o u V:=by
 refine ⟨⟨h.d.n,h.d.sm,?_,?_,hT,ho,hu,hx⟩,fun j hj=>h.z j (by omega)⟩
 ·rw [zcp (by rw [h.d.n];exact hm),h.z m (by omega),h.d.q,Nat.zero_add,Nat.mul_comm]
 ·rw [he,Nat.div_eq_of_lt hT,Nat.mod_eq_of_lt hT,Nat.add_zero]
theorem zny.put {p:List Nat}{b:Nat}{w0 wr V:World}{m R Q T d:Nat}{o:List Nat}{v7 u:Value}(h:zny p b w0 (m+1) R Q o v7 wr)(hm:m<p.length)(he:Dec.pv (p.drop m)=(Q * Dec.B+T / b) * b+T % b)(hd:d=T / b)(hdB:d<Dec.B)(hb:0<b)
  (ho:zmQ V w0.heap.size (.slice (some ⟨w0.heap.size,0,none⟩) p.length p.length) o) (hu:zmQ V (w0.heap.size+1) u (Dec.P (T % b))) (hx:Ext w0 V):zny p b w0 m (T % b) (Q * Dec.B+d) (o.set m d) u (V.setCell ⟨w0.heap.size,m,none⟩ (.int .i64 (d:Int))):=by
 have hn:=h.d.n;refine ⟨⟨by rw [List.length_set];exact hn,Dec.small_set h.d.sm hdB,?_,by rw [hd];exact he,Nat.mod_lt _ hb,zmT hn ho m d,znu hn ho hu (Nat.lt_succ_self _) m _,hx.setCell (Nat.le_refl _) _⟩,fun j hj=>?_⟩
 ·rw [znv (by omega)];show d+Dec.B * Dec.pv (o.drop (m+1))=_;rw [h.d.q,Nat.mul_comm,Nat.add_comm]
 ·have:=h.z j (by omega);unfold nth at *;rw [Dec.nthD_set _ _ _ _ (by omega),if_neg (by omega)];exact this
theorem znz (vp vq:Value)(a b:Nat)(w:World)(hp:Sl w vp (nis (Dec.P a)))(hq:Sl w vq (nis (Dec.P b)))(hb:0<b)(hla:(Dec.P a).length≤200)(hlb:(Dec.P b).length≤200) :
  Calls Tryz.prog 104 #[vp,vq] w fun e w'=>∃ u r,e=.returned (.tuple #[u,r])∧zmQ w' w.heap.size u (Dec.P (a / b))∧zmQ w' w.heap.size r (Dec.P (a % b))∧Ext w w':=by
 have hsa:=Dec.small_P a;have hpv:=Dec.pv_P a;generalize Dec.P a=p at *;obtain ⟨ap,cp,rfl,_,_,_⟩:=hp.parts;obtain ⟨aq,cq,rfl,_,_,_⟩:=hq.parts;rw [zmO] at *;rw [zmO] at *;have htm:=fun W (x:Nat)(hE:Ext w W)(hB:x<1000000000)=>zng (.slice aq (Dec.P b).length cq) b x W (hE.sl hq) (by omega) hB;have hbl:∀ n,n=b→(Dec.P n).length≤200:=fun n h=>by rw [h];exact hlb
 have Hbl:=Lib.hid hbl;clear hbl;have hqw:=fun W (hE:Ext w W)=>hE.sl hq;have hRb:∀ R,R<b→(Dec.P R).length≤(Dec.P b).length:=fun R h=>by
  rcases Nat.lt_or_ge (Dec.P b).length (Dec.P R).length with g | g
  ·have:=zmF g;omega
  ·exact g
 generalize (Dec.P b).length=lb at *;obtain ⟨i0,hj,hz0,hz1,hz2⟩:=info_parts zej;have Hp:=Lib.hid hp;have Hsa:=Lib.hid hsa;have Hpv:=Lib.hid hpv;have Htm:=Lib.hid htm;have Hqw:=Lib.hid hqw;have Hbp:=Lib.hid hb;have HRb:=Lib.hid hRb;clear hRb hp hq hsa hpv htm hqw;go_enter Tryz.func104,Tryz.ntmps104
 go_wp2_with (at_make;refine wpList_make_full _ rfl _ _ 28 rfl w.heap.size 3 i0 (.int .i64 0) 1 Tryz.underlying28 hj hz0 hz1 _ _ _ _ p.length rfl rfl ?hL ?hC ?b2 ?b3 (Nat.le_refl _) ?_)
 case hL=>simp
 case hC=>simp
 case b2=>rw [hz2];omega
 case b3=>unfold maxLen;omega
 intro w1 hown hgrow;have h0:zny p b w p.length 0 0 (List.replicate p.length 0) (.slice none 0 0) w1:=by
  refine ⟨⟨List.length_replicate ..,Dec.small_zeros _,?_,?_,hb,?_,?_,(Ext.refl w).grown hgrow (by simp)⟩,fun j hj=>by unfold nth;rw [List.getD_eq_getElem?_getD,List.getElem?_replicate];split <;> rfl⟩
  ·rw [List.drop_of_length_le (by rw [List.length_replicate];exact Nat.le_refl _)];rfl
  ·rw [List.drop_length];simp [Dec.pv]
  ·unfold zmQ;rw [List.length_replicate];have e:nis (List.replicate p.length 0)=(madeCells #[Value.int .i64 0] p.length).toList:=by
    rw [toList_madeCells_one];simp [nis]
   rw [e];exact hown
  ·rw [Dec.P_zero];exact znt
 have H0:=Lib.hid h0;clear h0 hown hgrow hb;go_wp2_with fail
 go_loopw [5,6] (fun v7 v8 wr=>∃ (k R Q:Nat)(o:List Nat),v8=.int .i64 ((k:Int) - 1)∧k≤p.length∧Hid (zny p b w k R Q o v7 wr)) (fun _ v8 _=>(zag v8+1).toNat)
 case atStart=>exact ⟨p.length,0,0,_,by first | rfl | go_num,Nat.le_refl _,H0⟩
 case round =>
  obtain ⟨k,R,Q,o,rfl,hk,HR3⟩:=hrel;have HR:=Lib.hid HR3.out.d;rcases Nat.eq_zero_or_pos k with hk0 | hk0
  ·subst hk0;have hdm:Dec.pv o=a / b∧R=a % b:=by
    have he:=HR.out.e;have hq:=HR.out.q;rw [List.drop_zero] at he hq;rw [Hpv.out] at he;have hlt:=HR.out.lt;subst hq;have h1:a / b=Dec.pv o:=by
     rw [he,Nat.add_comm,Nat.add_mul_div_right _ _ Hbp.out,Nat.div_eq_of_lt hlt,Nat.zero_add]
    have h2:a % b=R:=by
     rw [he,Nat.add_comm,Nat.add_mul_mod_self_right,Nat.mod_eq_of_lt hlt]
    exact ⟨h1.symm,h2.symm⟩
   have htr:=znc w.heap.size _ false o wr HR.out.out HR.out.sm (by rw [HR.out.n];omega);rw [hdm.1] at htr;have Htr:=Lib.hid htr;have Hdm:=Lib.hid hdm.2;clear htr hdm;have hrst:=HR.out.rest;obtain ⟨a7,c7,rfl⟩:=zel hrst;have Hrst:=Lib.hid hrst;clear hrst;have hfield:∀ (u v:Value) W,(Instr.field 97 (.agg #[u,v]) 1).run Tryz.prog W=.ok v W:=fun u v W=>rfl;go_wp2_with fail
   refine Htr.out.mono ?_;rintro e w' ⟨v,rfl,hv,hx⟩;rw [Bool.false_and];have Hv:=Lib.hid hv;have Hx:=Lib.hid hx;clear hv hx;go_wp2_with fail
   go_ret2
   refine ⟨v,_,rfl,Hv.out,?_,HR.out.x.trans Hx.out⟩;rw [← Hdm.out];exact Hx.out.ownN (zah Hrst.out (Nat.le_succ _))
  ·obtain ⟨m,rfl⟩:∃ m,k=m+1:=⟨k - 1,by omega⟩;have hkm:((m+1:Nat):Int) - 1=(m:Int):=(by omega);rw [hkm];obtain ⟨bp,op,rfl,hcp⟩:=zmW (HR.out.x.sl Hp.out) m (by omega);obtain ⟨hTb,hnx⟩:=zmN (i:=m) (by omega) Hsa.out HR.out.lt HR.out.e;have hxB:nth p m<Dec.B:=Dec.small_getD Hsa.out m;generalize nth p m=X at *;obtain ⟨T,hT⟩:∃ T,T=X+Dec.B * R:=⟨_,rfl⟩;rw [← hT] at hTb hnx;obtain ⟨d,hd⟩:∃ d,d=T / b:=⟨_,rfl⟩;have hdB:d<Dec.B:=by
    rw [hd,Nat.div_lt_iff_lt_mul Hbp.out,Nat.mul_comm];exact hTb
   unfold Dec.B at hdB;have hpT:Dec.pv (X::Dec.P R)=T:=(by rw [hT];simp [Dec.pv,Dec.pv_P]);have hsX:Dec.Small (X::Dec.P R):=zmL hxB (Dec.small_P R);have hwr:=HR.out.x.size;have hRl:(Dec.P R).length≤200:=Nat.le_trans (HRb.out R HR.out.lt) hlb;have hTl:(Dec.P T).length≤201:=by
    have h1:=Dec.P_length_lt _ _ (Dec.pv_lt _ hsX);rw [hpT,List.length_cons] at h1;omega
   have hwr1:w.heap.size+1≤wr.heap.size:=by
    have:=(World.ownsRow.lt HR.out.out w.heap.size rfl).2;omega
   have hX1:=HR.out.x.alloc (.cells #[.int .i64 (X:Int)] 3);have hlit:(wr.alloc (.cells #[.int .i64 (X:Int)] 3)).ownsRow (w.heap.size+1) 3 1 (.slice (some ⟨wr.heap.size,0,none⟩) 1 1) 1 [Value.int .i64 (X:Int)]:=znq 3 #[.int .i64 (X:Int)] hwr1 (by unfold maxLen;simp);have hrs:=((Ext.refl wr).alloc (.cells #[.int .i64 (X:Int)] 3)).ownN HR.out.rest;have hou:=((Ext.refl wr).alloc (.cells #[.int .i64 (X:Int)] 3)).ownN HR.out.out;have htr:=fun W u (ho:zmQ W (w.heap.size+1) u (X::Dec.P R))=>znc (w.heap.size+1) u false _ W ho hsX (by rw [List.length_cons];omega);rw [hpT] at htr;simp only [Bool.false_and] at htr;have Htr:=Lib.hid htr;have Hnx:=Lib.hid hnx;have Hd:=Lib.hid hd;have HX1:=Lib.hid hX1;have Hlit:=Lib.hid hlit;have Hrs:=Lib.hid hrs;have Hou:=Lib.hid hou;have HT:=Lib.hid hT;have hm0:(0:Int)≤(m:Int):=(by omega);have hm1:(m:Int)<(p.length:Int):=(by omega);obtain ⟨a7,c7,rfl⟩:=zel hrs;clear htr hnx hd hX1 hlit hrs hou hT hpT hsX hxB hTb hkm;go_upto_region 5 with (fail)
   have hfield:∀ (u v:Value) W,(Instr.field 97 (.agg #[u,v]) 1).run Tryz.prog W=.ok v W:=fun u v W=>rfl;go_cut [5] (fun v7 wx=>zmQ wx (w.heap.size+1) v7 (Dec.P T)∧zmQ wx w.heap.size (.slice (some ⟨w.heap.size,0,none⟩) p.length p.length) o∧Ext w wx)
   case first =>
    cases a7 with
    | none =>
     have he:Value.slice none (Dec.P R).length c7=Value.slice none 0 0∧Dec.P R=[]:=by
      rcases Hrs.out.2 with ⟨h1,h2⟩ | ⟨g,cap,cur,h1,_⟩
      ·exact ⟨h1,List.eq_nil_of_length_eq_zero h2⟩
      ·simp at h1
     obtain ⟨he1,he2⟩:=he
     injection he1 with _ e2 e3
     rw [e2,e3]
     have H1:=Lib.hid (show zmQ (wr.alloc (.cells #[.int .i64 (X:Int)] 3)) (w.heap.size+1) (.slice (some ⟨wr.heap.size,0,none⟩) 1 1) (X::Dec.P R) by rw [he2];exact Hlit.out)
     clear he2 e2 e3
     go_wp2_with (at_builtin;refine wpList_append_own_none rfl _ _ 28 rfl (w.heap.size+1) 3 i0 1 Tryz.underlying28 hj _ 1 _ rfl Hlit.out rfl ?_)
     refine (Htr.out _ _ H1.out).mono ?_
     rintro e w' ⟨v,rfl,hv,hx⟩
     have Hv:=Lib.hid hv;have Hx:=Lib.hid hx
     clear hv hx
     go_wp2_with fail
     go_meet
     exact ⟨Hv.out,Hx.out.ownN Hou.out,HX1.out.trans Hx.out⟩
    | some ad =>
     obtain ⟨g7,rfl⟩:∃ g,ad=⟨g,0,none⟩:=by
      rcases Hrs.out.2 with ⟨h1,h2⟩ | ⟨g,cap,cur,h1,_⟩
      ·simp at h1
      ·injection h1 with e1 _ _;injection e1 with e1;exact ⟨g,e1⟩
     have hcl:∀ j u,(nis (Dec.P R))[j]?=some u→(wr.alloc (.cells #[.int .i64 (X:Int)] 3)).cell? ((⟨g7,0,none⟩:Addr).add j)=some u:=fun j u hu=>World.ownsRow.cells Hrs.out (g:=g7) rfl j u hu
     have Hcl:=Lib.hid hcl
     clear hcl
     have hn1:(nis (Dec.P R)).length=(Dec.P R).length * 1:=by rw [zmO,Nat.mul_one]
     have Hn1:=Lib.hid hn1
     clear hn1
     generalize hrl:(Dec.P R).length=rl at *
     have Hrl:=Lib.hid hrl
     clear hrl
     go_wp2_with (at_builtin;refine wpList_append_own _ rfl _ _ 28 rfl (w.heap.size+1) 3 i0 (.int .i64 0) 1 8 Tryz.underlying28 hj hz0 hz1 hz2 rfl (by decide) _ _ _ rfl Hlit.out ⟨g7,0,none⟩ rl c7 (nis (Dec.P R)) rfl Hn1.out Hcl.out (by intro u hu;obtain ⟨y,_,rfl⟩:=List.mem_map.1 hu;rfl) (by unfold maxLen;omega) (by omega) (by rw [World.size_alloc];omega) ?_;intro v7 V7 hown7 hgrow7 _;obtain ⟨a9,c9,rfl⟩:=zel hown7)
     have H1:=Lib.hid (show zmQ V7 (w.heap.size+1) (.slice a9 (1+rl) c9) (X::Dec.P R) by
      unfold zmQ;rw [List.length_cons,Hrl.out,Nat.add_comm rl 1];exact hown7)
     have hgrow8:(wr.alloc (.cells #[.int .i64 (X:Int)] 3)).grownBy V7 (some wr.heap.size):=hgrow7
     have hlt7:∀ k,(Value.slice (some ⟨wr.heap.size,0,none⟩) 1 1).ownBlock=some k→w.heap.size≤k:=fun k hk=>by
      have e:wr.heap.size=k:=(by simpa [Value.ownBlock] using hk);omega
     have H2:=Lib.hid (HX1.out.grown hgrow7 hlt7)
     have H3:=Lib.hid (show zmQ V7 w.heap.size (.slice (some ⟨w.heap.size,0,none⟩) p.length p.length) o from World.ownsRow.kept Hou.out hgrow8 (.inr (by
      intro e;have e2:w.heap.size=wr.heap.size:=(by simpa [Value.ownBlock] using e);omega)))
     clear hown7 hgrow7 hlt7 hgrow8
     go_wp2_with fail
     refine (Htr.out _ _ H1.out).mono ?_
     rintro e w' ⟨v,rfl,hv,hx⟩
     have Hv:=Lib.hid hv;have Hx:=Lib.hid hx
     clear hv hx
     go_wp2_with fail
     go_meet
     exact ⟨Hv.out,Hx.out.ownN H3.out,H2.out.trans Hx.out⟩
   case rest =>
    obtain ⟨hr7,ho7,hx7⟩:=hcut;obtain ⟨a8,c8,rfl⟩:=zel hr7;have hbl:=Hbl.out b rfl;have hab:=znk _ _ T b wc hr7.sl (Hqw.out wc hx7) (by omega);have hord:=fun W va (x:Nat)(hE:Ext wc W)(hs:Sl W va (nis (Dec.P (b * x))))=>znk va _ (b * x) T W hs (hE.sl hr7.sl) (by omega);have hput:=fun (u:Value)(V:World)(h1:zmQ V w.heap.size (.slice (some ⟨w.heap.size,0,none⟩) p.length p.length) o)(h2:zmQ V (w.heap.size+1) u (Dec.P (T % b)))(h3:Ext w V)=>HR3.out.put (T:=T) (by omega) Hnx.out Hd.out (by unfold Dec.B;exact hdB) Hbp.out h1 h2 h3;have Hput:=Lib.hid hput;have Hord:=Lib.hid hord;have Hr7:=Lib.hid hr7;have Ho7:=Lib.hid ho7;have Hx7:=Lib.hid hx7;clear hord hr7 ho7 hx7 hbl hput Htr Hlit Hrs Hou HX1;by_cases hTb:T<b
    ·rw [zmH hTb] at hab;have Hab:=Lib.hid hab;have HTb:=Lib.hid hTb;clear hab hTb;go_wp2_with fail
     refine Hab.out.mono ?_;rintro e w2 ⟨rfl,hx2⟩;have hfin:=HR3.out.skip (T:=T) (by omega) Hnx.out HTb.out (hx2.ownN Ho7.out) (hx2.ownN Hr7.out) (Hx7.out.trans hx2);have Hfin:=Lib.hid hfin;clear hfin hx2;go_wp2_with fail
     go_roundw
     case rel=>exact ⟨m,_,_,_,by go_num,by omega,Hfin⟩
     case measure=>simp [zag]
    ·have hge:¬ zmG T b<0:=by unfold zmG;rw [if_neg hTb];split <;> omega
     generalize zmG T b=oz at *;have Hab:=Lib.hid hab;have HbT:=Lib.hid (show b≤T by omega);clear hab hTb;by_cases hl1:(Dec.P T).length=1
     ·have hTB:T<Dec.B:=by
       have h:=Dec.pv_lt _ (Dec.small_P T);rw [Dec.pv_P,hl1,Nat.pow_one] at h;exact h
      have hbB:b<Dec.B:=Nat.lt_of_le_of_lt HbT.out hTB;have hPT:=zmM (m:=T) (Nat.lt_of_lt_of_le Hbp.out HbT.out) hTB;have hPb:=zmM Hbp.out hbB;have hs8:=Hr7.out.sl;rw [hPT] at hs8;obtain ⟨bt,ot,e8,hct⟩:=zmW hs8 0 (by simp);have hqb:=Hqw.out wc Hx7.out;rw [hPb] at hqb;obtain ⟨bb,ob,eb,_⟩:=zmW hqb 0 (by simp);have hq0:=Hqw.out w (Ext.refl w);rw [hPb] at hq0;obtain ⟨b2,o2,eb2,hcb⟩:=zmW hq0 0 (by simp);rw [eb] at eb2;injection eb2 with eb2;injection eb2 with eb3 eb4;subst eb3;subst eb4;have hlb1:lb=1:=by
       obtain ⟨a3,c3,e3,_,_,_⟩:=hqb.parts;injection e3
      have hct:wc.cell? ⟨bt,ot,none⟩=some (.int .i64 (T:Int)):=hct;have hcb:w.cell? ⟨bb,ob,none⟩=some (.int .i64 (b:Int)):=hcb;have hgo:∀ W,Ext wc W→W.cell? ⟨bt,ot,none⟩=some (.int .i64 (T:Int))∧W.cell? ⟨bb,ob,none⟩=some (.int .i64 (b:Int)):=fun W hE=>⟨hE.cell hct,(Hx7.out.trans hE).cell hcb⟩;have HS:=Lib.hid hgo;have HPT:=Lib.hid hPT;have Hcb:=Lib.hid hcb;clear hgo hct hcb hqb hq0 hs8 hPT hPb;subst e8;subst eb;subst hlb1;obtain ⟨r0,hr0⟩:∃ x,x=T % b:=⟨_,rfl⟩;have hr0B:r0<Dec.B:=(by rw [hr0];exact Nat.lt_trans (Nat.mod_lt _ Hbp.out) hbB);have hs0:Dec.Small [r0]:=zmL hr0B (fun y hy=>by cases hy);have hpv1:Dec.pv [r0]=r0:=(by simp [Dec.pv]);unfold Dec.B at hr0B;have hput3:=Hput.out;rw [← hr0] at hput3;have hbn:¬ (b:Int)=0:=(by have:=Hbp.out;omega);have hbm:¬ b=0:=(by have:=Hbp.out;omega);have hq1:(T:Int).tdiv (b:Int)=(d:Int):=(by rw [Hd.out];exact (Int.ofNat_tdiv T b).symm);have hq2:(T:Int).tmod (b:Int)=(r0:Int):=(by rw [hr0];exact (Int.ofNat_tmod T b).symm);have hw1:IntKind.i64.wrap (d:Int)=(d:Int):=IntWalk.i64_in _ (by omega);have hw2:IntKind.i64.wrap (r0:Int)=(r0:Int):=IntWalk.i64_in _ (by omega);have Hput3:=Lib.hid hput3;generalize (Dec.P T).length=lT at *;subst hl1;have hon:=HR.out.n;have Hon:=Lib.hid hon;have hmo:m<o.length:=(by omega);have Hmo:=Lib.hid hmo;have Hs0:=Lib.hid hs0;have Hpv1:=Lib.hid hpv1;clear hput3 hr0 hr0B hTB hbB hon hmo hs0 hpv1;go_wp2_with fail
      refine Hab.out.mono ?_;rintro e w2 ⟨rfl,hx2⟩;have hli:zmQ (w2.drew.alloc (.cells #[.int .i64 (r0:Int)] 3)) w2.heap.size (.slice (some ⟨w2.heap.size,0,none⟩) 1 1) [r0]:=znq 3 #[.int .i64 (r0:Int)] (Nat.le_refl _) (by unfold maxLen;simp);have htr3:=znc w2.heap.size _ false [r0] _ hli Hs0.out (by simp);rw [Hpv1.out,Bool.false_and] at htr3;have hge2:w.heap.size+1≤w2.heap.size:=by
       have h1:=(World.ownsRow.lt (hx2.ownN Ho7.out) w.heap.size rfl).2;omega
      have Hge2:=Lib.hid hge2;have Htr3:=Lib.hid htr3;have Hx2:=Lib.hid hx2;clear hge2 htr3 hx2 hli;go_wp2_with fail
      go_region_held3 (fun w'=>w'.cell? ⟨bt,ot,none⟩=some (.int .i64 (T:Int))∧w'.cell? ⟨bb,ob,none⟩=some (.int .i64 (b:Int)))
       (first | (with_reducible assumption) | exact HS.out _ Hx2.out.drew | exact HS.out _ (Hx2.out.drew.alloc _))
       (first
        | (go_at_call 85
           refine Htr3.out.mono ?_
           rintro e9 V5 ⟨u5,rfl,hu5,hx5⟩
           obtain ⟨a9,c9,rfl⟩:=zel hu5
           have hE5:Ext wc V5:=(Hx2.out.drew.alloc _).trans hx5
           have hS5:=HS.out V5 hE5
           have hq5:=hE5.ownN Ho7.out
           have hr5:=znu Hon.out hq5 (hE5.ownN Hr7.out) (Nat.lt_succ_self _) m (.int .i64 (d:Int))
           have hS6:(V5.setCell ⟨w.heap.size,m,none⟩ (.int .i64 (d:Int))).cell? ⟨bt,ot,none⟩=some (.int .i64 (T:Int))∧(V5.setCell ⟨w.heap.size,m,none⟩ (.int .i64 (d:Int))).cell? ⟨bb,ob,none⟩=some (.int .i64 (b:Int)):=⟨znx HPT.out hr5,((Hx7.out.trans hE5).setCell (p:=⟨w.heap.size,m,none⟩) (Nat.le_refl _) (.int .i64 (d:Int))).cell Hcb.out⟩
           have k5:=zmU Hon.out hq5 m Hmo.out
           have z5:=zmV Hon.out hq5 m
           have Hfin:=Lib.hid (Hput3.out _ V5 hq5 (zah hu5 Hge2.out) (Hx7.out.trans hE5))
           clear hu5 hx5 hE5 hq5 hr5))
      all_goals
       clear hS5 hS6 k5 z5;go_wp2_with fail
       go_roundw
       case rel=>exact ⟨m,_,_,_,by go_num,by omega,Hfin⟩
       case measure=>simp [zag]
     ·have hl1i:(((Dec.P T).length:Int) == 1)=false:=beq_eq_false_iff_ne.2 (by omega);clear hl1;have hmn:=fun (x:Nat)(hx:x≤T)(V:World)(vp va:Value)(h0:Sl V vp (nis (Dec.P T)))(h:Sl V va (nis (Dec.P x)))=>znl vp va T x V h0 h (by omega) hx;have Hmn:=Lib.hid hmn;clear hmn;generalize (Dec.P T).length=lT at *;go_wp2_with fail
      refine Hab.out.mono ?_;rintro e w2 ⟨rfl,hx2⟩;have Hx2:=Lib.hid hx2;clear hx2;go_wp2_with fail
      go_loopw [7,8] (fun v9 v10 wx=>∃ lo hi:Nat,v9=.int .i64 lo∧v10=.int .i64 hi∧lo≤d∧d<hi∧hi≤1000000000∧Ext wc wx) (fun v9 v10 _=>(zag v10 - zag v9).toNat)
      case atStart=>exact ⟨0,1000000000,rfl,rfl,Nat.zero_le _,hdB,Nat.le_refl _,Hx2.out⟩
      case round =>
       obtain ⟨lo,hi,rfl,rfl,hlo,hhi,hh9,hE⟩:=hrel;have HE:=Lib.hid hE;clear hE;by_cases hlh:1<hi - lo
       ·obtain ⟨mid,hmid⟩:∃ mid:Nat,mid=(lo+hi) / 2:=⟨_,rfl⟩;have hmi:((lo:Int)+(hi:Int)) / 2=(mid:Int):=(by omega);have hml:lo<mid:=(by omega);have hmh:mid<hi:=(by omega);have hlh1:(1:Int)<(hi:Int) - (lo:Int):=(by omega);have htm:=Htm.out wr mid (Hx7.out.trans HE.out) (by omega);have hdec:zmG (b * mid) T≤0 ↔ mid≤d:=(by rw [znw Hbp.out,Hd.out]);generalize hon:zmG (b * mid) T=z at *;have Htm1:=Lib.hid htm;have Hdec:=Lib.hid hdec;have Hon:=Lib.hid hon;clear htm hdec hmid hon hlh;go_wp2_with fail
        refine Htm1.out.mono ?_;rintro e w3 ⟨va,rfl,hva,hx3⟩;have ho:=Hord.out _ va mid (HE.out.trans hx3) hva;rw [Hon.out] at ho;have Ho:=Lib.hid ho;have HE2:=Lib.hid (HE.out.trans hx3);clear ho hva hx3;go_wp2_with fail
        refine Ho.out.mono ?_;rintro e w4 ⟨rfl,hx4⟩;have HE3:=Lib.hid (HE2.out.trans hx4);clear hx4;rcases Nat.lt_or_ge d mid with g | g
        ·have hz:¬ z≤0:=fun h=>by have:=Hdec.out.1 h;omega
         go_wp2_with fail
         go_roundw
         case rel=>exact ⟨lo,mid,rfl,rfl,hlo,g,by omega,HE3.out⟩
         case measure=>simp [zag];omega
        ·have hz:z≤0:=Hdec.out.2 g;go_wp2_with fail
         go_roundw
         case rel=>exact ⟨mid,hi,rfl,rfl,g,hhi,hh9,HE3.out⟩
         case measure=>simp [zag];omega
       ·obtain rfl:d=lo:=by omega
        have hdd:¬ (1:Int)<(hi:Int) - (d:Int):=(by omega);have hou:=HE.out.ownN Ho7.out;have hrt:=HE.out.ownN Hr7.out;have htm:=Htm.out wr d (Hx7.out.trans HE.out) (by omega);have hbd:b * d≤T:=by
         rw [Hd.out];exact Nat.mul_div_le T b
        have hTm:T - b * d=T % b:=(by rw [Hd.out];exact (Nat.mod_eq_sub T b).symm);have hmi:=fun V va (hE:Ext wr V)(h:Sl V va (nis (Dec.P (b * d))))=>Hmn.out (b * d) hbd V _ va (hE.sl hrt.sl) h;rw [hTm] at hmi;have hon:=HR.out.n;have Htm1:=Lib.hid htm;have Hmi:=Lib.hid hmi;have Hou:=Lib.hid hou;have Hon:=Lib.hid hon;clear htm hmi hou hrt hbd hTm hlh hon;go_wp2_with fail
        refine Htm1.out.mono ?_;rintro e w3 ⟨va,rfl,hva,hx3⟩;have hm1:=Hmi.out w3 va hx3 hva;have Hm:=Lib.hid hm1;have HX3:=Lib.hid hx3;clear hva hx3 hm1;go_wp2_with fail
        refine Hm.out.mono ?_;rintro e w4 ⟨⟨o',hs',hp',hl',v',rfl,hv'⟩,hx4⟩;have htr2:=znc w3.heap.size v' false o' w4 hv' hs' hl';rw [hp',Bool.false_and] at htr2;obtain ⟨a9,c9,rfl⟩:=zel hv';have Htr2:=Lib.hid htr2;have HX4:=Lib.hid (HX3.out.trans hx4);clear htr2 hv' hs' hp' hx4 hl';generalize o'.length=lo' at *;go_wp2_with fail
        refine Htr2.out.mono ?_;rintro e w5 ⟨u',rfl,hu',hx5⟩;have hX5:=HX4.out.trans hx5;have hq5:=hX5.ownN Hou.out;have hcq:=zmU Hon.out hq5 m (by have:=Hon.out;omega);have hfq:=zmV Hon.out hq5 m;have hge2:w.heap.size+1≤w3.heap.size:=by
         have h1:=(World.ownsRow.lt (HX3.out.ownN Hou.out) w.heap.size rfl).2;omega
        have hfin:=Hput.out u' w5 hq5 (zah hu' hge2) (Hx7.out.trans (HE.out.trans hX5));have Hfin:=Lib.hid hfin;clear hfin hu' hx5 hX5 hq5 hge2 hlo hhi;go_wp2_with fail
        go_roundw
        case rel=>exact ⟨m,_,_,_,by go_num,by omega,Hfin⟩
        case measure=>simp [zag]
theorem zn0 {W:World}{v:Value}{n m:Nat}(h:Sl W v (nis (Dec.P n)))(g:Sl W v (nis (Dec.P m))):n=m:=by
 obtain ⟨a,c,e,_,_,hc⟩:=h.parts;obtain ⟨a2,c2,e2,_,_,hc2⟩:=g.parts;rw [e] at e2;injection e2 with e3 e4 e5;subst e3;have hl:(Dec.P n).length=(Dec.P m).length:=by rw [zmO,zmO] at e4;exact e4
 have hP:Dec.P n=Dec.P m:=by
  apply List.ext_getElem hl;intro i h1 h2;have k1:(nis (Dec.P n))[i]?=some (.int .i64 ((Dec.P n)[i]:Nat)):=by unfold nis;rw [List.getElem?_map,List.getElem?_eq_getElem h1];rfl
  have k2:(nis (Dec.P m))[i]?=some (.int .i64 ((Dec.P m)[i]:Nat)):=by unfold nis;rw [List.getElem?_map,List.getElem?_eq_getElem h2];rfl
  obtain ⟨b1,o1,r1,q1⟩:=zmW (by rw [e,zmO] at h;exact h) i h1;obtain ⟨b2,o2,r2,q2⟩:=zmW (by rw [e,zmO,hl] at g;exact g) i h2;rw [r1] at r2;injection r2 with r2;injection r2 with r3 r4;subst r3;subst r4;rw [q1] at q2;injection q2 with q2;injection q2 with _ q2;have j1:nth (Dec.P n) i=(Dec.P n)[i]:=by unfold nth;rw [List.getD_eq_getElem?_getD,List.getElem?_eq_getElem h1];rfl
  have j2:nth (Dec.P m) i=(Dec.P m)[i]:=by unfold nth;rw [List.getD_eq_getElem?_getD,List.getElem?_eq_getElem h2];rfl
  omega
 rw [← Dec.pv_P n,hP,Dec.pv_P]
open Classical in
noncomputable def numAt (W : World) (v : Value) : Nat:=if h : ∃ n,Sl W v (nis (Dec.P n)) then Classical.choose h else 0
theorem zn1 {W:World}{v:Value}{n:Nat}(h:Sl W v (nis (Dec.P n))):numAt W v=n:=by
 have hx:∃ n,Sl W v (nis (Dec.P n)):=⟨n,h⟩;unfold numAt;rw [dif_pos hx];exact zn0 (Classical.choose_spec hx) h
structure zn2 (w:World)(G:Nat)(v5 v6:Value)(A B:Nat)(wr:World):Prop where
 p:Sl wr v5 (nis (Dec.P A))
 q:Sl wr v6 (nis (Dec.P B))
 g:Nat.gcd A B=G
 la:(Dec.P A).length≤200
 lb:(Dec.P B).length≤200
 x:Ext w wr
theorem zn3 (va vb:Value)(x y:Int)(w:World)(ha:WB w va x)(hb:WB w vb y)(hlx:(Dec.P x.natAbs).length≤200)(hly:(Dec.P y.natAbs).length≤200) :
  Calls Tryz.prog 103 #[va,vb] w fun e w'=>∃ v,e=.returned v∧WB w' v ((Nat.gcd x.natAbs y.natAbs:Nat):Int)∧Ext w w':=by
 obtain ⟨bx,ap,cp,rfl,hbx,hp⟩:=ha.let_;obtain ⟨by_,aq,cq,rfl,hby,hq⟩:=hb.let_;clear hbx hby ha hb;generalize x.natAbs=A at *;generalize y.natAbs=B at *;obtain ⟨V,hV⟩:∃ V,V=((w.alloc (.cells #[.bool bx,.slice ap (Dec.P A).length cp] 97)).alloc (.cells #[.bool by_,.slice aq (Dec.P B).length cq] 97)).alloc (.cells #[.bool false,.slice none 0 0] 97):=⟨_,rfl⟩;have hk2:=zdX 97 97 97 w (.bool bx) (.slice ap (Dec.P A).length cp) (.bool by_) (.slice aq (Dec.P B).length cq) (.bool false) (.slice none 0 0);rw [← hV] at hk2;obtain ⟨hk,hr⟩:=hk2;have hVs:V.heap.size=w.heap.size+3:=by rw [hV];simp
 have hI:zn2 V (Nat.gcd A B) (.slice ap (Dec.P A).length cp) (.slice aq (Dec.P B).length cq) A B V:=⟨hk.x.sl hp,hk.x.sl hq,rfl,hlx,hly,Ext.refl V⟩;have hpos:∀ n,0<n→0<(Dec.P n).length:=fun n h=>by
  rcases Nat.eq_zero_or_pos (Dec.P n).length with g | g
  ·have e:=Dec.pv_P n;rw [List.eq_nil_of_length_eq_zero g] at e;have:Dec.pv []=0:=rfl;omega
  ·exact g
 have HI:=Lib.hid hI;have HVs:=Lib.hid hVs;have Hpos:=Lib.hid hpos;have Kr:=Lib.hid hr;have Kx:=Lib.hid hk.x;have q0:=hk.a.c1;have q1:=hk.b.c1;generalize hG:Nat.gcd A B=G at *;generalize (Dec.P A).length=lA at *;generalize (Dec.P B).length=lB at *;have HV:=Lib.hid hV;clear hI hVs hp hq hk hr hlx hly hG hpos hV;go_enter Tryz.func103,Tryz.ntmps103
 go_wp2_with fail
 rw [← HV.out];go_quiet (fail)
 have hIq:zn2 V G (.slice ap lA cp) (.slice aq lB cq) A B (V.drewN nq):=⟨((Ext.refl V).drewN _).sl HI.out.p,((Ext.refl V).drewN _).sl HI.out.q,HI.out.g,HI.out.la,HI.out.lb,(Ext.refl V).drewN _⟩;have HIq:=Lib.hid hIq;clear hIq q0 q1;go_wp2_with fail
 go_loopw [5,6] (fun v5 v6 wr=>∃ (a b:Nat)(a5 a6:Option Addr)(l5 l6 c5 c6:Nat),v5=.slice a5 l5 c5∧v6=.slice a6 l6 c6∧Hid (zn2 V G v5 v6 a b wr)) (fun _ v6 wr=>numAt wr v6)
 case atStart=>exact ⟨A,B,_,_,_,_,_,_,rfl,rfl,HIq⟩
 case round =>
  obtain ⟨a,b,a5,a6,l5,l6,c5,c6,rfl,rfl,HR⟩:=hrel;have hl6:l6=(Dec.P b).length:=by
   obtain ⟨a3,c3,e3,_,_,_⟩:=HR.out.q.parts;injection e3 with _ e4 _;rw [e4,zmO]
  rcases Nat.eq_zero_or_pos b with hb0 | hb0
  ·subst hb0;have hl0:l6=0:=(by rw [hl6,Dec.P_zero];rfl);subst hl0;have hga:a=G:=(by rw [← HR.out.g,Nat.gcd_zero_right]);subst hga;have hw9:WB wr (.agg #[.bool false,.slice a5 l5 c5]) ((a:Nat):Int):=⟨_,by rw [decide_eq_false (by omega)],by rw [Int.natAbs_natCast];exact HR.out.p⟩;have hr9:=Kr.out.ext HR.out.x;have k0:=hr9.c0;have k1:=hr9.c1;have z0:=hr9.fz 0;have z1:=hr9.fz 1;have hb5:=hr9.put (.bool false) (.slice a5 l5 c5);have hs5:=hw9.past hr9 (by simp) (by simp) (.bool false) (.slice a5 l5 c5);have hx5:Ext w ((wr.setCell ⟨w.heap.size+1+1,0,none⟩ (.bool false)).setCell ⟨w.heap.size+1+1,1,none⟩ (.slice a5 l5 c5)):=((Kx.out.trans HR.out.x).setCell (by dsimp only;omega) _).setCell (by dsimp only;omega) _;have Hb5:=Lib.hid hb5;have Hx5:=Lib.hid hx5;have Hs5:=Lib.hid hs5;clear hb5 hx5 hs5 hr9 hw9 hl6;go_wp2_with fail
   have hd0:=Hb5.out.c0;have hd1:=Hb5.out.c1;exact bodyPost_ret (v:=.agg #[.bool false,.slice a5 l5 c5]) (by simp [results,Tryz.results103,go_sem,hd0,hd1]) rfl ⟨_,rfl,Hs5.out,Hx5.out⟩
  ·have hl0:0<l6:=(by rw [hl6];exact Hpos.out b hb0);have hl1:(0:Int)<(l6:Int):=(by omega);have hdv:=znz _ _ a b wr HR.out.p HR.out.q hb0 HR.out.la HR.out.lb;have hms:=zn1 HR.out.q;have hmod:=Nat.mod_lt a hb0;have hlen:(Dec.P (a % b)).length≤200:=by
    rcases Nat.lt_or_ge (Dec.P b).length (Dec.P (a % b)).length with g | g
    ·have:=zmF g;omega
    ·exact Nat.le_trans g HR.out.lb
   have hgg:Nat.gcd b (a % b)=G:=(by rw [← HR.out.g,Nat.gcd_comm a b,Nat.gcd_rec b a,Nat.gcd_comm]);have Hdv:=Lib.hid hdv;have Hms:=Lib.hid hms;have Hmod:=Lib.hid hmod;have Hlen:=Lib.hid hlen;have Hgg:=Lib.hid hgg;clear hdv hms hmod hlen hgg hl6;go_wp2_with fail
   refine Hdv.out.mono ?_;rintro e w3 ⟨u,r,rfl,hu,hr,hx⟩;obtain ⟨a8,c8,rfl⟩:=zel hr;have hn:zn2 V G (.slice a6 l6 c6) (.slice a8 (Dec.P (a % b)).length c8) b (a % b) w3:=⟨hx.sl HR.out.q,hr.sl,Hgg.out,HR.out.lb,Hlen.out,HR.out.x.trans hx⟩;have hms2:=zn1 hr.sl;have Hn:=Lib.hid hn;have Hms2:=Lib.hid hms2;clear hu hr hx hn hms2;go_wp2_with fail
   go_roundw
   case rel=>exact ⟨b,a % b,_,_,_,_,_,_,rfl,rfl,Hn⟩
   case measure=>rw [Hms.out,Hms2.out];exact Hmod.out
theorem zn4 (n:Nat)(h:0<n):0<(Dec.P n).length:=by
 rcases Nat.eq_zero_or_pos (Dec.P n).length with g | g
 ·have e:=Dec.pv_P n;rw [List.eq_nil_of_length_eq_zero g] at e;have:Dec.pv []=0:=rfl;omega
 ·exact g
theorem zn5 (v:Value)(z:Int)(w:World)(h:WB w v z) :
  Calls Tryz.prog 55 #[v] w fun e w'=>e=.returned (.int .i64 z.sign)∧Ext w w':=by
 obtain ⟨bx,ap,cp,rfl,hbx,hp⟩:=h.let_;have hE:Ext w (w.alloc (.cells #[.bool bx,.slice ap (Dec.P z.natAbs).length cp] 97)):=(Ext.refl w).alloc _;have b1:=zdV.new 97 w (.bool bx) (.slice ap (Dec.P z.natAbs).length cp);have q0:=b1.c0;have q1:=b1.c1;have HE:=Lib.hid hE;have hl0:z=0→(Dec.P z.natAbs).length=0:=fun h=>by rw [h];show (Dec.P 0).length=0;rw [Dec.P_zero];rfl
 have hl1:z ≠ 0→0<(Dec.P z.natAbs).length:=fun h=>zn4 _ (by omega);generalize (Dec.P z.natAbs).length=l at *;clear hE b1 h hp;rcases Int.lt_trichotomy z 0 with hz | hz | hz
 ·rw [decide_eq_true hz] at hbx;subst hbx;have hlp:=hl1 (by omega);have hlb:((l:Int) == 0)=false:=beq_eq_false_iff_ne.2 (by omega);rw [Int.sign_eq_neg_one_of_neg hz];clear hl0 hl1 hlp;go_enter Tryz.func55,Tryz.ntmps55
  go_wp2
  go_ret
  exact ⟨rfl,HE.out⟩
 ·have hlz:=hl0 hz;subst hlz;subst hz;clear hl0 hl1 hbx;go_enter Tryz.func55,Tryz.ntmps55
  go_wp2
  go_ret
  exact ⟨rfl,HE.out⟩
 ·rw [decide_eq_false (by omega)] at hbx;subst hbx;have hlp:=hl1 (by omega);have hlb:((l:Int) == 0)=false:=beq_eq_false_iff_ne.2 (by omega);rw [Int.sign_eq_one_of_pos hz];clear hl0 hl1 hlp;go_enter Tryz.func55,Tryz.ntmps55
  go_wp2
  go_ret
  exact ⟨rfl,HE.out⟩
end
section
open Go.RowKit Go.Lib Go.Shelf
theorem zn6 (l:List UInt8)(hd:Dec.Dig l)(hne:l ≠ [])(hv:Dec.val 0 l<1000000000000000000):Lib.atoiAll l=.ok (Dec.val 0 l:Nat):=by
 have key:∀ (l:List UInt8)(acc:Nat),Dec.Dig l→Dec.val acc l<18446744073709551616→parseUint10 acc l=.ok (Dec.val acc l):=by
  intro l;induction l with
  | nil=>intro acc _ _;rw [Dec.val_nil];rfl
  | cons c r ih =>
   intro acc hd hv
   have hc:=hd c (List.mem_cons_self ..)
   have hr:Dec.Dig r:=fun x hx=>hd x (List.mem_cons_of_mem _ hx)
   rw [Dec.val_cons] at hv ⊢
   have hmono:10 * acc+Dec.dv c≤Dec.val (10 * acc+Dec.dv c) r:=by
    rw [Dec.val_acc];have:1≤10 ^ r.length:=Nat.one_le_pow _ _ (by decide);have:=Nat.mul_le_mul_left (10 * acc+Dec.dv c) this;omega
   have hdv:c.toNat - 48=Dec.dv c:=rfl
   simp only [parseUint10]
   rw [if_pos hc,if_neg (by omega),hdv,if_neg (by omega),Nat.mul_comm acc 10,ih _ hr hv]
 have mag:parseMag l=.ok (Dec.val 0 l):=by
  unfold parseMag;rw [if_neg hne,key l 0 hd (by omega)]
 cases l with
 | nil=>exact absurd rfl hne
 | cons c r =>
  have hc:=hd c (List.mem_cons_self ..)
  unfold atoiAll
  simp only
  rw [if_neg (by omega),mag]
  simp only
  have h45:¬ c.toNat=45:=by omega
  simp only [h45,not_false_eq_true,true_and,false_and,if_false]
  rw [if_neg (by omega)]
theorem zn7 (l:List UInt8)(hd:Dec.Dig l)(hne:l ≠ [])(hl:l.length≤18)(w:World) :
  Calls Tryz.prog 84 #[.string ⟨l.toArray⟩] w fun e w'=>e=.returned (.tuple #[.int .i64 (Dec.val 0 l:Nat),.nilIface])∧Ext w w':=by
 have hv:Dec.val 0 l<1000000000000000000:=by
  have h1:=Dec.val_lt l hd;have h2:10 ^ l.length≤10 ^ 18:=Nat.pow_le_pow_right (by decide) hl;omega
 have hs:(⟨l.toArray⟩:ByteArray).size≤9223372036854775806:=by
  show l.toArray.size≤_;rw [List.size_toArray];omega
 refine (Any.strconv_Atoi_ok Tryz.lAtoi ⟨l.toArray⟩ hs _ (zn6 l hd hne hv) w).mono fun e w' ⟨h,hw⟩=>⟨h,?_⟩;rcases hw with rfl | ⟨t,rfl⟩
 ·exact Ext.refl _
 ·exact Ext.bytes _ _ _
end
end Go.Proofs.YtoehmpbipbbffaaGreatDoor
