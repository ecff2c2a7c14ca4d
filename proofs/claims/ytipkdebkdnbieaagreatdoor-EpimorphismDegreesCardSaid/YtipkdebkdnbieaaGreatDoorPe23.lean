/- Walk: smith's wide: the Hermite form of a matrix with the units at its right. Walk: table.Columns and table.Transpose at a right table. Walk: table.rows, table.nothing: a table as a grid of fractions. (KEEPALL) A grid of fractions in memory: its rows' cells; a fraction is set, rows change places; boxes of fractions beside it. (KEEPALL) -/
import Derived.Test.YtipkdebkdnbieaaGreatDoorPe21
import Derived.Test.YtipkdebkdnbieaaGreatDoorPe22
import Derived.Deep.AppendLies
import Derived.Test.YtipkdebkdnbieaaGreatDoorPe19
import Derived.Test.YtipkdebkdnbieaaGreatDoorPe08
set_option maxRecDepth 100000
set_option maxHeartbeats 4000000
namespace Go.Proofs.YtipkdebkdnbieaaGreatDoor
open Go.RowKit Go.Lib Go.Shelf
theorem zm2 (a b:List Int):zf1 (a++b)=zf1 a++zf1 b:=by unfold zf1;rw [List.map_append]
theorem Ext.mat {w w':World}(h:Ext w w'){v:Value}{l:List (List Int)}(hm:Mat w v l):Mat w' v l:=by
 obtain ⟨vs,h1,h2,h3⟩:=hm;exact ⟨vs,h1,h.sl h2,fun i u hu=>h.sl (h3 i u hu)⟩
theorem Gd.place {α:Type}{enc:α→List Value}{T TS s:Nat}{w V:World}{B gs cap:Nat}{ls:List (GR α)}(h:Gd enc T TS s w B gs cap ls)(hT:T ≠ TS){i:Nat}{e e':GR α}(he:ls[i]?=some e)(hd:w.grownBy V (some e.g))(hr:V.ownsRow B T s e'.u e'.x.length (e'.x.flatMap enc))(hg:e'.g=e.g∨w.heap.size≤e'.g) :
  Gd enc T TS s (V.setCell ⟨gs,i,none⟩ e'.u) B gs cap (ls.set i e')∧w.grownBy V (some e.g)∧V.grownBy (V.setCell ⟨gs,i,none⟩ e'.u) (some gs):=by
 have n1:=h.gs_ne hT (List.mem_of_getElem? he);have ho:=World.ownsRow.kept h.own hd (.inr fun q=>n1 (Option.some.inj q));have hst:=World.ownsRow.stored ho i e'.u;have hgs:gs ≠ e'.g:=by
  rcases zc5 hr ho hT with g | g
  ·cases g
  ·exact fun q=>g (by rw [q];rfl)
 have hat:∀ j f,(ls.set i e')[j]?=some f→(j=i∧f=e')∨(j ≠ i∧ls[j]?=some f):=fun j f hf=>by
  rw [List.getElem?_set] at hf;by_cases g:i=j
  ·rw [if_pos g] at hf;split at hf
   ·exact .inl ⟨g.symm,(Option.some.inj hf).symm⟩
   ·cases hf
  ·rw [if_neg g] at hf;exact .inr ⟨fun q=>g q.symm,hf⟩
 refine ⟨⟨?_,fun f hf=>?_,fun p q f k hf hk hne=>?_⟩,hd,hst.2⟩
 ·rw [List.length_set,List.map_set];exact hst.1
 ·obtain ⟨j,hj⟩:=List.mem_iff_getElem?.1 hf;rcases hat j f hj with ⟨_,rfl⟩ | ⟨hne,h1⟩
  ·exact World.ownsRow.kept hr hst.2 (.inr fun q=>hgs (Option.some.inj q).symm)
  ·have h2:=World.ownsRow.kept (h.rows f (List.mem_of_getElem? h1)) hd (.inr fun q=>h.apart j i f e h1 he hne (Option.some.inj q));exact World.ownsRow.kept h2 hst.2 (.inr fun q=>h.gs_ne hT (List.mem_of_getElem? h1) (Option.some.inj q).symm)
 ·have key:∀ j f,ls[j]?=some f→j ≠ i→f.g ≠ e'.g:=fun j f hj hji=>by
   rcases hg with g | g
   ·rw [g];exact h.apart j i f e hj he hji
   ·have:=(h.rowB (List.mem_of_getElem? hj)).2;omega
  rcases hat p f hf with ⟨h1,rfl⟩ | ⟨h1,h2⟩ <;> rcases hat q k hk with ⟨h3,rfl⟩ | ⟨h3,h4⟩
  ·omega
  ·exact (key q k h4 h3).symm
  ·exact key p f h2 h1
  ·exact h.apart p q f k h2 h4 hne
theorem Gd.far {α:Type}{enc:α→List Value}{T TS s:Nat}{w V:World}{B gs cap:Nat}{ls:List (GR α)}(h:Gd enc T TS s w B gs cap ls)(hT:T ≠ TS){i:Nat}{e:GR α}(he:ls[i]?=some e){b:Nat}(hb:e.g=b)(hd:w.grownBy V (some b)) :
  V.cell? ⟨gs,i,none⟩=some e.u∧V.frozen? ⟨gs,i,none⟩=false:=by
 subst hb;have ho:=World.ownsRow.kept h.own hd (.inr fun q=>h.gs_ne hT (List.mem_of_getElem? he) (Option.some.inj q));have:=World.ownsRow.cellAt ho i (by rw [Nat.mul_one];exact (List.getElem?_eq_some_iff.1 he).1);rw [List.getElem?_map,he] at this;exact ⟨this,World.ownsRow.frozenAt ho i⟩
theorem GdM.kept {α:Type}{enc:α→List Value}{T TS s:Nat}{w V:World}{B b:Nat}{v:Value}{ls:List (GR α)}(h:GdM enc T TS s w B v ls)(hd:w.grownBy V (some b))(hb:b<B):GdM enc T TS s V B v ls:=by
 have key:∀ {E n' s':Nat}{u:Value}{xs:List Value},w.ownsRow B E s' u n' xs→V.ownsRow B E s' u n' xs:=fun {E n' s' u xs} ho=>by
  refine World.ownsRow.kept ho hd ?_;rcases ho.2 with ⟨rfl,_⟩ | ⟨g,cap,cur,rfl,_⟩
  ·exact .inl rfl
  ·have:=(World.ownsRow.lt ho g rfl).1;exact .inr fun q=>by
    have:g=b:=Option.some.inj q;omega
 exact ⟨key h.own,fun e he=>key (h.rows e he),h.apart⟩
def zm3 (m u:List (List Int))(i:Nat):List (List Int):=m.mapIdx fun j r=>if j<i then r++u.getD j [] else r
theorem zm4 (m u:List (List Int)):zm3 m u 0=m:=by
 unfold zm3;apply List.ext_getElem?;intro i;rw [List.getElem?_mapIdx]
 cases m[i]? <;> rfl
theorem zm5 {m u:List (List Int)}{i:Nat}{r:List Int}(hr:m[i]?=some r):(zm3 m u i).set i (r++u.getD i [])=zm3 m u (i+1):=by
 have hi:=(List.getElem?_eq_some_iff.1 hr).1;apply List.ext_getElem?;intro j;unfold zm3;rw [List.getElem?_set,List.length_mapIdx,List.getElem?_mapIdx,List.getElem?_mapIdx];by_cases e:i=j
 ·subst e;rw [if_pos rfl,if_pos hi,hr];simp
 ·rw [if_neg e]
  cases m[j]? with
  | none=>rfl
  | some q=>simp only [Option.map_some];congr 1;by_cases g:j<i <;> simp [g] <;> omega
theorem zm6 {m u:List (List Int)}(h:m.length=u.length):zm3 m u m.length=List.zipWith (fun r s=>r++s) m u:=by
 apply List.ext_getElem?;intro j;unfold zm3;rw [List.getElem?_mapIdx,List.getElem?_zipWith];by_cases hj:j<m.length
 ·rw [List.getElem?_eq_getElem hj,List.getElem?_eq_getElem (by omega)];simp only [Option.map_some];rw [if_pos hj,List.getD_eq_getElem?_getD,List.getElem?_eq_getElem (by omega)];rfl
 ·rw [List.getElem?_eq_none (by omega)];simp
theorem Gd.capB {α:Type}{enc:α→List Value}{T TS s:Nat}{w:World}{B gs cap:Nat}{ls:List (GR α)}(h:Gd enc T TS s w B gs cap ls):ls.length≤cap∧cap≤maxLen:=by
 rcases h.own.2 with ⟨h0,_⟩ | ⟨g,c,cur,h0,_,_,h1,h2,_,_⟩
 ·cases h0
 ·simp only [Value.slice.injEq,Option.some.injEq,Addr.mk.injEq,and_true,true_and] at h0;rw [h0.2];exact ⟨h1,h2⟩
theorem GZ.mats {W0 w:World}{B gs cap:Nat}{g:List (List Int)}(h:GZ W0 B gs cap g w){t:Nat}(ht:t≤g.length):zmq w (.slice (some ⟨gs,0,none⟩) t cap) (g.take t):=by
 obtain ⟨ls,hd,rfl,hB,hx⟩:=h;rw [List.length_map] at ht;have hc:=hd.capB;have hl:((ls.take t).map GR.u).length=t:=by rw [List.length_map,List.length_take];omega
 refine ⟨(ls.take t).map GR.u,by rw [hl,List.length_take,List.length_map];omega,.inr ⟨gs,0,cap,by rw [hl],by rw [hl];omega,hc.2,fun i u hu=>?_⟩,fun i u hu=>?_⟩
 ·rw [List.getElem?_map] at hu
  cases he:(ls.take t)[i]? with
  | none=>rw [he] at hu;cases hu
  | some e =>
   rw [he] at hu
   obtain rfl:=Option.some.inj hu
   have hi:i<t:=by
    have:=(List.getElem?_eq_some_iff.1 he).1;rw [List.length_take] at this;omega
   rw [List.getElem?_take_of_lt hi] at he
   rw [Nat.zero_add]
   exact hd.at he
 ·rw [List.getElem?_map] at hu
  cases he:(ls.take t)[i]? with
  | none=>rw [he] at hu;cases hu
  | some e =>
   rw [he] at hu
   obtain rfl:=Option.some.inj hu
   rw [← List.map_take,List.getD_eq_getElem?_getD,List.getElem?_map,he]
   have:=zan (hd.rows e (List.mem_of_mem_take (List.mem_of_getElem? he)))
   rw [zlt] at this
   exact this
theorem zm7 (vm:Value)(m gF:List (List Int))(n k tF:Nat)(w:World)(he:Env w)(hm:Mat w vm m)(hk:m.length=k)(hrec:∀ r∈m,r.length=n)(hn0:0<n)(hn:n+k≤1000)(hk0:0<k)(hb:∀ r∈m,∀ z∈r,-9223372036854775808≤z∧z≤9223372036854775807)(hrun:ziI 100 (List.zipWith (fun r u=>r++u) m (ziK k)) 0 0 (n+k)=some (gF,tF)) :
  Calls Tryz.prog 77 #[vm] w fun e w'=>∃ v,e=.returned (.tuple #[v,.int .i64 n])∧zmq w' v (gF.take tF)∧(∀ r∈gF.take tF,r.length=n+k)∧tF≤k∧Ext w w':=by
 obtain ⟨i0,hi,hz0,hz1,hz2⟩:=info_parts zf3;have hbig:=fun W (hE:Ext w W)=>zmb vm m n W (he.ext hE) (hE.mat hm) hrec hn0 (by omega) (by omega) hb;have hun:=fun W=>zmg k W hk0 (by omega);obtain ⟨vs,hvl,hvs,hrows⟩:=hm;obtain ⟨am,cm,rfl,_,_,hc⟩:=hvs.parts;obtain ⟨r0,hr0⟩:∃ r,m[0]?=some r:=⟨_,List.getElem?_eq_getElem (by omega)⟩;obtain ⟨u0,hu0⟩:∃ u,vs[0]?=some u:=⟨_,List.getElem?_eq_getElem (by omega)⟩;obtain ⟨b,off,rfl,hcu⟩:=hc 0 u0 hu0;have hru:=hrows 0 u0 hu0;rw [List.getD_eq_getElem?_getD,hr0] at hru;simp only [Option.getD_some] at hru;obtain ⟨ar,cr,rfl,_,_,_⟩:=hru.parts;have hr0l:=hrec r0 (List.mem_of_getElem? hr0);rw [show (zap r0).length=n by unfold zap;rw [List.length_map];exact hr0l,Nat.add_zero] at hcu;rw [hvl,hk];rw [hvl,hk] at hbig;have Hbig:=hid hbig;have Hun:=hid hun;have He:=hid he;have Hk:=hid hk;have Hrec:=hid hrec;have Hrun:=hid hrun;clear hbig hun he hk hrec hrun hvl hvs hrows hc hr0 hu0 hru hr0l hb;have hkz:((k:Int) == 0)=false:=beq_eq_false_iff_ne.2 (by omega);have hk1:(0:Int)<(k:Int):=by omega
 go_enter Tryz.func77,Tryz.ntmps77
 go_wp2_with fail
 refine (Hbig.out w (Ext.refl w)).mono ?_;rintro e w1 ⟨v1,rfl,lg,hg1,hmx,hx1⟩;have Hg1:=hid hg1;have Hmx:=hid hmx;have Hx1:=hid hx1;clear hg1 hmx hx1 hcu;go_wp2_with fail
 refine (Hun.out w1).mono ?_;rintro e w2 ⟨v2,rfl,lu,hg2,hux,hx2⟩;have hlg:lg.length=k:=by have:=congrArg List.length Hmx.out;rw [List.length_map,Hk.out] at this;exact this
 have hlu:lu.length=k:=by have:=congrArg List.length hux;rw [List.length_map] at this;rw [this];unfold ziK;simp
 obtain ⟨gs,cg,e1,hG⟩:=(Hg1.out.ext hx2).gd (by omega);obtain ⟨us,cu,e2,_⟩:=hg2.gd (by omega);subst e1 e2;rw [hlg,hlu];have hgB:=hG.gsB;have hg1b:∀ e∈lg,e.g<w1.heap.size:=fun e he=>(World.ownsRow.lt (Hg1.out.rows e he) e.g rfl).2;have hgsb:gs<w1.heap.size:=(World.ownsRow.lt Hg1.out.own gs rfl).2;have Hlg:=hid hlg;have Hlu:=hid hlu;have HG:=hid hG;have Hg2:=hid hg2;have Hux:=hid hux;have Hx2:=hid (Hx1.out.trans hx2);have HgB:=hid hgB;have Hg1b:=hid hg1b;have Hgsb:=hid hgsb;clear hx2 hlg hlu hG hg2 hux hgB hg1b hgsb;go_wp2_with fail
 go_loopw [21] (fun v21 wr=>∃ i:Nat,v21=.int .i64 i∧i≤k∧Hid (∃ ls:List (GR Int),Gd zlr 100 129 1 wr w.heap.size gs cg ls∧ls.map GR.x=zm3 m (ziK k) i∧∀ j,i≤j→ls[j]?=lg[j]?)∧Hid (GdM zlr 100 129 1 wr w1.heap.size (.slice (some ⟨us,0,none⟩) k cu) lu)∧Hid (Ext w wr)) (fun v21 _=>k - (zal v21).toNat)
 case atStart=>exact ⟨0,rfl,Nat.zero_le _,hid ⟨lg,HG.out,by rw [zm4];exact Hmx.out,fun _ _=>rfl⟩,by rw [← Hlu.out];exact Hg2,Hx2⟩
 case round =>
  obtain ⟨i,rfl,hik,HL,HU,HE⟩:=hrel;obtain ⟨ls,hgd,hlx,hlt⟩:=HL.out;have hll:ls.length=k:=by
   have:=congrArg List.length hlx;unfold zm3 at this;rw [List.length_map,List.length_mapIdx,Hk.out] at this;exact this
  by_cases hil:i<k
  ·obtain ⟨e,hei⟩:∃ e,ls[i]?=some e:=⟨_,List.getElem?_eq_getElem (by omega)⟩;obtain ⟨f,hfi⟩:∃ f,lu[i]?=some f:=⟨_,List.getElem?_eq_getElem (by rw [Hlu.out];exact hil)⟩;have heg:lg[i]?=some e:=(by rw [← hlt i (Nat.le_refl _)];exact hei);have hem:m[i]?=some e.x:=(by rw [← Hmx.out,List.getElem?_map,heg];rfl);have hel:e.x.length=n:=Hrec.out e.x (List.mem_of_getElem? hem);have hfu:(ziK k)[i]?=some f.x:=(by rw [← Hux.out,List.getElem?_map,hfi];rfl);have hfl:f.x.length=k:=by
    unfold ziK at hfu;rw [List.getElem?_map,List.getElem?_range hil] at hfu;have:=Option.some.inj hfu;rw [← this,List.length_set,List.length_replicate]
   have heb:=Hg1b.out e (List.mem_of_getElem? heg);have hgd':=hgd.ext ((Ext.refl wr).drew);have hu':=HU.out.ext ((Ext.refl wr).drew);have ho1:=hgd'.rows e (List.mem_of_getElem? hei);have ho2:=hu'.rows f (List.mem_of_getElem? hfi);have ha1:=hgd'.at hei;obtain ⟨us',cu',eu',hGu⟩:=hu'.gd (by rw [Hlu.out];omega);have ha2:=hGu.at hfi;have eus:us=us':=by simpa using (congrArg (fun z=>match z with | Value.slice (some a) _ _=>a.block | _=>0) eu')
   subst eus;unfold GR.u at ha1 ha2 ho1 ho2;rw [zlt] at ho1 ho2;rw [hel] at ha1 ho1;rw [hfl] at ha2 ho2;have hnw:=fun j u (hj:(zf1 f.x)[j]?=some u)=>show wr.drew.cell? ((⟨f.g,0,none⟩:Addr).add j)=some u from by
    rw [show (⟨f.g,0,none⟩:Addr).add j=⟨f.g,j,none⟩ by unfold Addr.add;split <;> simp_all]
    exact zkR ho2 hj
   have hone:∀ u∈zf1 f.x,u.oneCell'=true:=fun u hu=>by
    unfold zf1 at hu;obtain ⟨z,_,rfl⟩:=List.mem_map.1 hu;rfl
   have hnl:(zf1 f.x).length=k * 1:=(by rw [zf2,hfl,Nat.mul_one]);have hb3:n+k≤maxLen:=(by unfold maxLen;omega);have hb4:(n+k) * 16≤140737488355328:=(by omega);have hbs:w.heap.size≤wr.drew.heap.size:=HE.out.drew.size;have hi1:(0:Int)≤(i:Int):=(by omega);have hi2:(i:Int)<(k:Int):=(by omega);have Hgd:=hid hgd';have Hlx:=hid hlx;have Hlt:=hid hlt;have Hei:=hid hei;have Hem:=hid hem;have Hel:=hid hel;have Hfu:=hid hfu;have Hfl:=hid hfl;have Heb:=hid heb;have HU':=hid hu';have Ho1:=hid ho1;have Hnw:=hid hnw;have Hone:=hid hone;have Hnl:=hid hnl;have HEd:=hid HE.out.drew;clear hgd hgd' hlx hlt hei hem hel hfu hfl heb hu' ho1 ho2 hnw hone hnl HL HU hll hfi heg eu' hGu;generalize hge:e.g=eg at *;generalize hce:e.c=ec at *;generalize hgf:f.g=fg at *;generalize hcf:f.c=fc at *;have Hge:=hid hge;have Hce:=hid hce;clear hge hce hgf hcf;go_wp2_with fail
   go_region_law (first
    | (refine step_append_lies _ rfl (.tmp 29) (.tmp 33) 129 rfl w.heap.size 100 i0 (.string ByteArray.empty) 1 16 Tryz.underlying129 hi hz0 hz1 hz2 rfl (by decide) (.slice (some ⟨eg,0,none⟩) n ec) n (zf1 e.x) (by simp [Act.eval]) Ho1.out ⟨fg,0,none⟩ k fc (zf1 f.x) (by simp [Act.eval]) Hnl.out Hnw.out Hone.out (by omega) hb3 hb4 hbs _ rfl ?_;intro g1 c1 V1 hown1 hgrow1 hat1 hlt1;obtain ⟨hcz,hfz⟩:=Hgd.out.far zl5 Hei.out Hge.out hgrow1;have Hown1:=hid hown1;have Hgrow1:=hid hgrow1;have Hat1:=hid hat1;clear hown1 hgrow1 hat1 hlt1))
   all_goals
    obtain ⟨h1,h2,h3⟩:=Hgd.out.place zl5 Hei.out (e':=⟨g1,c1,e.x++f.x⟩) (by rw [Hge.out];exact Hgrow1.out) (by
     show V1.ownsRow w.heap.size 100 1 (.slice (some ⟨g1,0,none⟩) (e.x++f.x).length c1) (e.x++f.x).length ((e.x++f.x).flatMap zlr);rw [zlt,zm2,List.length_append,Hel.out,Hfl.out];exact Hown1.out) (by
     rcases Hat1.out with g | g
     ·exact .inl (by rw [Hge.out];exact (Option.some.inj g).symm)
     ·exact .inr (by show wr.drew.heap.size≤g1;rw [g];exact Nat.le_refl _))
    rw [Hge.out] at h2;have hu2:=(HU'.out.kept h2 Heb.out).kept h3 Hgsb.out;have hex:=zlq h3 (zlq h2 HEd.out (by rw [← Hge.out];exact (Hgd.out.rowB (List.mem_of_getElem? Hei.out)).1)) Hgd.out.gsB.1;have hmap:(ls.set i ⟨g1,c1,e.x++f.x⟩).map GR.x=zm3 m (ziK k) (i+1):=by
     rw [List.map_set,Hlx.out,← zm5 Hem.out,List.getD_eq_getElem?_getD,Hfu.out];rfl
    have hltt:∀ j,i+1≤j→(ls.set i (⟨g1,c1,e.x++f.x⟩:GR Int))[j]?=lg[j]?:=fun j hj=>by
     rw [List.getElem?_set_ne (by omega)];exact Hlt.out j (by omega)
    have hue:(GR.mk g1 c1 (e.x++f.x)).u=.slice (some ⟨g1,0,none⟩) (n+k) c1:=by
     unfold GR.u;simp only [List.length_append,Hel.out,Hfl.out]
    rw [hue] at h1 hu2 hex;have H1:=hid h1;have Hu2:=hid hu2;have Hex:=hid hex;have Hmap:=hid hmap;have Hltt:=hid hltt;clear h1 h2 h3 hu2 hex hmap hltt hcz hfz hue;generalize V1.setCell ⟨gs,i,none⟩ (.slice (some ⟨g1,0,none⟩) (n+k) c1)=V3 at *;go_wp2_with fail
    go_roundw
    case rel=>exact ⟨i+1,by go_num,hil,hid ⟨_,H1.out,Hmap.out,Hltt.out⟩,Hu2,Hex⟩
    case measure=>simp [zal];omega
  ·have hie:i=k:=(by omega);subst hie;have hcap:=hgd.capB.1;rw [hll] at hcap;rw [← Hk.out,zm6 (by rw [Hk.out];unfold ziK;simp)] at hlx;have hgz:GZ w w.heap.size gs cg (List.zipWith (fun r u=>r++u) m (ziK i)) wr:=⟨ls,hgd,by rw [← Hk.out];exact hlx,Nat.le_refl _,HE.out⟩;have hzl:(List.zipWith (fun r u=>r++u) m (ziK i)).length=i:=(by rw [List.length_zipWith,Hk.out];unfold ziK;simp);have hzr:zlG (List.zipWith (fun r u=>r++u) m (ziK i)) (n+i):=fun r hr=>by
    obtain ⟨j,hj⟩:=List.mem_iff_getElem?.1 hr;rw [List.getElem?_zipWith] at hj
    cases h1:m[j]? with
    | none=>rw [h1] at hj;cases hj
    | some a =>
     cases h2:(ziK i)[j]? with
     | none=>rw [h1,h2] at hj;cases hj
     | some b =>
      rw [h1,h2] at hj
      obtain rfl:=Option.some.inj hj
      have hb:=List.mem_of_getElem? h2
      unfold ziK at hb
      obtain ⟨c,_,rfl⟩:=List.mem_map.1 hb
      rw [List.length_append,Hrec.out a (List.mem_of_getElem? h1),List.length_set,List.length_replicate]
   have hh:=zlX w wr w.heap.size gs cg i (n+i) (n+i) _ gF tF He.out hgz hzl hzr hn (by omega) (Nat.le_refl _) hcap Hrun.out;have Hh:=hid hh;have hsum:IntKind.i64.wrap ((n:Int)+(i:Int))=((n+i:Nat):Int):=(by rw [IntKind.wrap_i64];omega);clear hh hgd hlx hlt hll hgz hzl hzr hcap HL HU Hrun;go_wp2_with fail
   refine Hh.out.mono ?_;rintro e w5 ⟨rfl,hgz,ht,hgl,hrz⟩;have Hgz:=hid hgz;have Hgl:=hid hgl;have Hrz:=hid hrz;clear hgz hgl hrz;go_wp2
   go_ret2
   exact ⟨_,rfl,Hgz.out.mats (by rw [Hgl.out];exact ht),fun r hr=>Hrz.out r (List.mem_of_mem_take hr),ht,Hgz.out.x⟩
theorem zm8 (vm:Value)(m:List (List Int))(n:Nat)(w:World)(hm:Mat w vm m)(h0:0<m.length)(hn:(m.getD 0 []).length=n)(hml:m.length≤1000) :
  Calls Tryz.prog 108 #[vm] w fun e w'=>e=.returned (.int .i64 n)∧Ext w w':=by
 obtain ⟨vs,hvs,hsl,hrows⟩:=hm;obtain ⟨am,cm,rfl,_,_,hcm⟩:=hsl.parts;obtain ⟨u,hu⟩:∃ u,vs[0]?=some u:=⟨_,List.getElem?_eq_getElem (by omega)⟩;obtain ⟨b,off,e1,hcu⟩:=hcm 0 u hu;subst e1;obtain ⟨a0,c0,rfl,_,_,_⟩:=(hrows 0 u hu).parts;rw [zar,hn,Nat.add_zero] at hcu;rw [hvs];clear hsl hrows hcm hvs hu hn;have hi1:(0:Int)<(m.length:Int):=by omega
 have hne:((m.length:Int) == 0)=false:=beq_eq_false_iff_ne.2 (by omega);go_enter Tryz.func108,Tryz.ntmps108
 go_wp2
 go_ret
 exact ⟨rfl,Ext.refl _⟩
def zm9 (z:Int):List Value:=[.int .i64 z]
theorem zmA (l:List Int):l.flatMap zm9=zap l:=by
 induction l with
 | nil=>rfl
 | cons z l ih=>rw [List.flatMap_cons,ih];rfl
theorem zmB : 3 ≠ 33:=by decide
theorem GdM.mat {w:World}{B:Nat}{v:Value}{ls:List (GR Int)}(h:GdM zm9 3 33 1 w B v ls):Mat w v (ls.map GR.x):=by
 refine ⟨ls.map GR.u,by simp,zan h.own,fun i u hu=>?_⟩;rw [List.getElem?_map] at hu
 cases he:ls[i]? with
 | none=>rw [he] at hu;cases hu
 | some e =>
  rw [he] at hu
  obtain rfl:=Option.some.inj hu
  rw [List.getD_eq_getElem?_getD,List.getElem?_map,he]
  have:=zan (h.rows e (List.mem_of_getElem? he))
  rw [zmA] at this
  exact this
def zmC (m:List (List Int))(c j:Nat):List Int:=(m.take j).map fun r=>zas r c
theorem zmD {m:List (List Int)}{c j:Nat}{r:List Int}(h:m[j]?=some r):zap (zmC m c (j+1))=zap (zmC m c j)++[.int .i64 (zas r c)]:=by
 obtain ⟨h1,h2⟩:=List.getElem?_eq_some_iff.1 h;unfold zmC zap;rw [List.take_succ_eq_append_getElem h1,h2,List.map_append,List.map_append];rfl
theorem zmE {m:List (List Int)}{n c:Nat}(hn:(m.getD 0 []).length=n)(hc:c<n):(ziS m).take (c+1)=(ziS m).take c++[zmC m c m.length]:=by
 have hl:c<(ziS m).length:=by unfold ziS;rw [List.length_map,List.length_range,hn];exact hc
 rw [List.take_succ_eq_append_getElem hl];have:(ziS m)[c]=zmC m c m.length:=by
  have h2:(ziS m)[c]?=some (zmC m c m.length):=by
   unfold ziS zmC zas;rw [List.getElem?_map,List.getElem?_range (by rw [hn];exact hc),List.take_length];rfl
  exact (List.getElem?_eq_some_iff.1 h2).2
 rw [this]
theorem zmF (vm:Value)(m:List (List Int))(n k:Nat)(w:World)(hm:Mat w vm m)(hk:m.length=k)(hk0:0<k)(hk9:k≤1000)(hn0:0<n)(hn9:n≤1000)(hrec:∀ r∈m,r.length=n)(ht:zkA m=0) :
  Calls Tryz.prog 75 #[vm] w fun e w'=>∃ v,e=.returned (.tuple #[v,.int .i64 0])∧∃ ls,GdM zm9 3 33 1 w' w.heap.size v ls∧ls.map GR.x=ziS m∧Ext w w':=by
 obtain ⟨i0,hi,hz0,hz1,hz2⟩:=info_parts zc1;obtain ⟨j0,hj,hy0,hy1,hy2⟩:=info_parts zmu;have hg0:(m.getD 0 []).length=n:=by
  rw [List.getD_eq_getElem?_getD,List.getElem?_eq_getElem (by omega)];exact hrec _ (List.getElem_mem _)
 have hrow:∀ i,(m.getD i []).length≤1000000:=fun i=>by
  rw [List.getD_eq_getElem?_getD]
  cases h:m[i]? with
  | none=>exact Nat.zero_le _
  | some r=>have:=hrec r (List.mem_of_getElem? h);simp only [Option.getD_some];omega
 have htc:=zkC vm m w hm hrow (by omega);rw [ht] at htc;have hco:=fun W (hE:Ext w W)=>zm8 vm m n W (hE.mat hm) (by omega) hg0 (by omega);obtain ⟨vs,hvl,hvs,hrows⟩:=hm;obtain ⟨am,cm,rfl,_,_,hc⟩:=hvs.parts;rw [hvl,hk] at htc hco ⊢;have Htc:=hid htc;have Hco:=hid hco;have Hc:=hid hc;have Hrows:=hid hrows;have Hrec:=hid hrec;have Hk:=hid hk;have Hvl:=hid hvl;have Hg0:=hid hg0;clear htc hco hc hrows hrec hk hvl hvs hrow hg0 ht;go_enter Tryz.func75,Tryz.ntmps75
 go_wp2_with fail
 refine Htc.out.mono ?_;rintro e w1 ⟨rfl,hx1⟩;have Hx1:=hid hx1;clear hx1;go_wp2_with fail
 refine (Hco.out w1 Hx1.out).mono ?_;rintro e w2 ⟨rfl,hx2⟩;have Hx2:=hid (Hx1.out.trans hx2);clear hx2;go_wp2_with fail
 go_loopw [17,5] (fun v17 v5 wr=>∃ (c:Nat)(ls:List (GR Int)),v17=.int .i64 c∧c≤n∧Hid (GdM zm9 3 33 1 wr w.heap.size v5 ls)∧Hid (ls.map GR.x=(ziS m).take c)∧Hid (Ext w wr)) (fun v17 _ _=>n - (zal v17).toNat)
 case atStart=>exact ⟨0,[],rfl,Nat.zero_le _,hid (GdM.nil _ _),hid rfl,Hx2⟩
 case round =>
  obtain ⟨c,ls,rfl,hcn,HG,HM,HE⟩:=hrel;by_cases hcc:c<n
  ·have hk1:(0:Int)≤(c:Int):=(by omega);have hk2:(c:Int)<(n:Int):=(by omega);have hll:ls.length=c:=by
    have:=congrArg List.length HM.out;rw [List.length_map,List.length_take] at this;unfold ziS at this;rw [List.length_map,List.length_range,Hg0.out] at this;omega
   have Hll:=hid hll;clear hll;go_wp2_with fail
   obtain ⟨wb,hwb⟩:∃ wb,wb=wr:=⟨_,rfl⟩;subst hwb;go_loopw [22,7] (fun v22 v7 wj=>∃ j:Nat,v22=.int .i64 j∧j≤k∧wj.ownsRow wb.heap.size 3 1 v7 j (zap (zmC m c j))∧Ext wb wj) (fun v22 _ _=>k - (zal v22).toNat)
   case atStart=>exact ⟨0,rfl,Nat.zero_le _,World.ownsRow_nil _ _ _ 1,Ext.refl _⟩
   case round =>
    obtain ⟨j,rfl,hjk,ho,hE⟩:=hrel;obtain ⟨a6,c6,rfl⟩:=zc3 ho;have hEw:=HE.out.trans hE;by_cases hjj:j<k
    ·obtain ⟨r,hr⟩:∃ r,m[j]?=some r:=⟨_,List.getElem?_eq_getElem (by have:=Hk.out;omega)⟩;obtain ⟨u,hu⟩:∃ u,vs[j]?=some u:=⟨_,List.getElem?_eq_getElem (by rw [Hvl.out,Hk.out];exact hjj)⟩;obtain ⟨b,off,rfl,hcu⟩:=Hc.out j u hu;have hru:=Hrows.out j u hu;rw [List.getD_eq_getElem?_getD,hr] at hru;simp only [Option.getD_some] at hru;have hrl:=Hrec.out r (List.mem_of_getElem? hr);obtain ⟨ar,cr,rfl,_,_,hcr⟩:=hru.parts;have hil:(zap r).length=n:=(by rw [zar];exact hrl);rw [hil] at hcu;obtain ⟨b2,o2,rfl,hcj⟩:=hcr c (.int .i64 (zas r c)) (by unfold zap zas;rw [List.getElem?_map,List.getElem?_eq_getElem (by omega),List.getD_eq_getElem?_getD,List.getElem?_eq_getElem (by omega)];rfl);have hcw:=hEw.cell hcu;have hcj2:=hEw.cell hcj;have hst:=zmD (c:=c) hr;generalize zas r c=z at *;have hj1:(0:Int)≤(j:Int):=(by omega);have hj2:(j:Int)<(k:Int):=(by omega);have Hst:=hid hst;have Ho:=hid ho;have HE2:=hid hE;have hm3:j+1≤maxLen:=(by unfold maxLen;omega);have hm4:(j+1) * 8≤140737488355328:=(by omega);have hbase:=HE2.out.size;clear hst ho hE hEw hcu hcj hru hil hrl hr hu hcr;go_wp2_with (at_builtin;refine wpList_append_own _ rfl _ _ 33 rfl wb.heap.size 3 i0 (.int .i64 0) 1 8 Tryz.underlying33 hi hz0 hz1 hz2 rfl (by decide) _ _ _ rfl (Ho.out.alloc _) ⟨wr.heap.size,0,none⟩ 1 1 [.int .i64 z] rfl rfl (cell_one_new _ _ _) (by simp [Value.oneCell']) hm3 hm4 (by rw [World.size_alloc];omega) ?_;intro v7 V7 hown7 hgrow7 _)
     go_roundw
     case rel=>exact ⟨j+1,by go_num,hjj,by rw [Hst.out];exact hown7,(HE2.out.alloc _).grown hgrow7 fun q hq=>(World.ownsRow.lt Ho.out q hq).1⟩
     case measure=>simp [zal];omega
    ·have hjn2:j=k:=(by omega);subst hjn2;obtain ⟨g,cg,eg,hg1,hg2⟩:=zlZ ho hk0;injection eg with eg1 _ eg2;subst eg1 eg2;have hcl:(zmC m c j).length=j:=(by unfold zmC;rw [List.length_map,List.length_take,Hk.out,Nat.min_self]);have hG:=HG.out.ext hE;have hne:∀ f∈ls,f.g ≠ g:=fun f hf=>by
      have:=(HG.out.lt hf).2;omega
     have hrow:wr.ownsRow w.heap.size 3 1 (GR.u ⟨g,c6,zmC m c j⟩) (zmC m c j).length ((zmC m c j).flatMap zm9):=by
      unfold GR.u;rw [zmA,show (GR.mk g c6 (zmC m c j)).x=zmC m c j from rfl,hcl];exact zam ho HE.out.size
     obtain ⟨a3,c3,e3⟩:=zc3 hG.own;subst e3;have hm3:c+1≤maxLen:=(by unfold maxLen;omega);have hm4:(c+1) * 24≤140737488355328:=(by omega);have hqo:=hG.own;rw [Hll.out] at hqo ⊢;have hbase:w.heap.size≤wr.heap.size:=hEw.size;have HG2:=hid hG;have Hrow:=hid hrow;have Hne:=hid hne;have HEw:=hid hEw;have Hcl:=hid hcl;clear hG hrow hne hEw ho hE hcl;have hkk9:¬ (j:Int)<(j:Int):=(by omega);go_wp2_with (at_builtin;refine wpList_append_own _ rfl _ _ 78 rfl w.heap.size 33 j0 (.slice none 0 0) 1 24 Tryz.underlying78 hj hy0 hy1 hy2 rfl (by decide) _ _ _ rfl (hqo.alloc _) ⟨wr.heap.size,0,none⟩ 1 1 [.slice (some ⟨g,0,none⟩) j c6] rfl rfl (cell_one_new _ _ _) (by simp [Value.oneCell']) hm3 hm4 (by rw [World.size_alloc];omega) ?_;intro v7 V7 hown7 hgrow7 _)
     go_roundw
     case rel =>
      have hown7':V7.ownsRow w.heap.size 33 1 v7 (ls.length+1) (ls.map GR.u++[GR.u ⟨g,c6,zmC m c j⟩]):=by
       rw [Hll.out];unfold GR.u;rw [show (GR.mk g c6 (zmC m c j)).x=zmC m c j from rfl,Hcl.out];exact hown7
      have hmo:=HG2.out.more (e:=⟨g,c6,zmC m c j⟩) zmB Hrow.out Hne.out hown7' (by rw [Hll.out] <;> exact hgrow7)
      refine ⟨c+1,ls++[⟨g,c6,zmC m c j⟩],by go_num,hcc,hid hmo,hid ?_,hid ((HEw.out.alloc _).grown hgrow7 fun q hq=>(World.ownsRow.lt hqo q hq).1)⟩;rw [List.map_append,HM.out,zmE Hg0.out hcc,Hk.out];rfl
     case measure=>simp [zal];omega
  ·have hcl:c=n:=(by omega);have hkk2:¬ (c:Int)<(n:Int):=(by omega);have hM:=HM.out;rw [hcl,List.take_of_length_le (by unfold ziS;rw [List.length_map,List.length_range,Hg0.out];exact Nat.le_refl _)] at hM;have HM2:=hid hM;clear hM hcl;go_wp2
   go_ret2
   exact ⟨_,rfl,ls,HG.out,HM2.out,HE.out⟩
theorem zmG {P:Program}(w:World){ops:Array Oper}{rest:List Oper}{o:Oper}{a:Act}{Q:Exit→Act→World→Prop}
  (hg:o.guard=none) (s x:Operand) (t:TypeId) (hop:o.op=Op.call { callee:=Callee.builtin Builtin.append,args:=#[s,x],argTypes:=#[t,t] })
  (base:Nat) (e:TypeId) (i:TypeInfo) (size:Nat) (h1:P.underlying t=some (.slice e)) (h2:P.info? e=some i) (_h4:i.size=size)
  (g k cap:Nat) (xs:List Value) (hs:a.eval s=.slice (some ⟨g,0,none⟩) k cap) (hown:w.ownsRow base e size (.slice (some ⟨g,0,none⟩) k cap) k xs) (hx:a.eval x=.slice none 0 0)
  (hK:wpList P ops Q rest (a.put o.dst (.slice (some ⟨g,0,none⟩) k cap)) w) :
  wpList P ops Q (o::rest) a w:=by
 refine wpList_plain hg fun K hK'=>?_;have hrun:=run_append_owned_none (P:=P) w base t o.type e i size h1 h2 _ k xs hown;unfold Oper.wp;simp [execOp,hop,resolve,invoke,builtin,hs,hx,hrun,Result.andThen];exact hK' _ _ hK
theorem zmH : (Tryz.prog.info? 102).map (fun i=>(i.zero,i.size,i.bytes))=some (some (.agg #[.string ByteArray.empty,.string ByteArray.empty]),2,32):=by kernel_rfl
theorem zmI : (Tryz.prog.info? 64).map (fun i=>(i.zero,i.size,i.bytes))=some (some (.slice none 0 0),1,24):=by kernel_rfl
theorem zmJ : 102 ≠ 64:=by decide
theorem zmK (z:Int):zls (z:Rat)=[.string (I z),.string ⟨#[49]⟩]:=by
 unfold zls;rw [Rat.num_intCast,Rat.den_intCast,zme];rfl
theorem zmL {w:World}(x y:Value)(t:TypeId):∀ j u,[x,y][j]?=some u→(w.alloc (.cells #[x,y] t)).cell? ((⟨w.heap.size,0,none⟩:Addr).add j)=some u:=fun j u hj=>World.news_of_block (World.alloc_heap_new w (.cells #[x,y] t)) j u (by simpa using hj)
theorem zmM (i:Int)(w:World):Calls Tryz.prog 107 #[.int .i64 i] w fun e w'=>e=.returned (.slice none 0 0)∧w'=w:=by
 go_enter Tryz.func107,Tryz.ntmps107
 go_wp2
 go_ret
 exact ⟨rfl,rfl⟩
theorem zmN {r:List Int}{j:Nat}(h:j<r.length):(ziA (r.take (j+1))).flatMap zls=(ziA (r.take j)).flatMap zls++[.string (I (zas r j)),.string ⟨#[49]⟩]:=by
 rw [List.take_succ_eq_append_getElem h];unfold ziA zas;rw [List.map_append,List.flatMap_append,List.getD_eq_getElem?_getD,List.getElem?_eq_getElem h];simp only [List.map_cons,List.map_nil,List.flatMap_cons,List.flatMap_nil,List.append_nil,Option.getD_some];rw [zmK]
theorem zmO (vm:Value)(m:List (List Int))(n:Nat)(w:World)(he:Env w)(hm:Mat w vm m)(hrec:∀ r∈m,r.length=n)(hn0:0<n)(hn:n≤1000)(hml:m.length≤1000)(hb:∀ r∈m,∀ z∈r,-9223372036854775808≤z∧z≤9223372036854775807) :
  Calls Tryz.prog 106 #[vm,.func (.func 107) #[] #[]] w fun e w'=>∃ v,e=.returned v∧∃ ls,GdM zls 102 64 2 w' w.heap.size v ls∧ls.map GR.x=m.map ziA∧Ext w w':=by
 obtain ⟨i0,hi,hz0,hz1,hz2⟩:=info_parts zmH;obtain ⟨j0,hj,hy0,hy1,hy2⟩:=info_parts zmI;obtain ⟨vs,hvl,hvs,hrows⟩:=hm;have hof:=fun (z:Int)(h0:-9223372036854775808≤z)(h1:z≤9223372036854775807) W (hE:Ext w W)=>zaQ z h0 h1 W (he.ext hE);obtain ⟨am,cm,rfl,_,_,hc⟩:=hvs.parts;rw [hvl];generalize hl:m.length=k0 at *;have Hc:=hid hc;have Hrows:=hid hrows;have Hrec:=hid hrec;have Hb:=hid hb;have Hof:=hid hof;have Hl:=hid hl;have Hvl:=hid hvl;clear hc hrows hrec hb hof hl hvl hvs he;go_enter Tryz.func106,Tryz.ntmps106
 go_wp2_with fail
 go_loopw [13,5] (fun v13 v5 wr=>∃ (k:Nat)(ls:List (GR Rat)),v13=.int .i64 k∧k≤k0∧Hid (GdM zls 102 64 2 wr w.heap.size v5 ls)∧Hid (ls.map GR.x=(m.take k).map ziA)∧Hid (Ext w wr)) (fun v13 _ _=>k0 - (zal v13).toNat)
 case atStart=>exact ⟨0,[],rfl,Nat.zero_le _,hid (GdM.nil _ _),hid rfl,hid (Ext.refl _)⟩
 case round =>
  obtain ⟨k,ls,rfl,hk,HG,HM,HE⟩:=hrel;by_cases hkk:k<k0
  ·obtain ⟨r,hr⟩:∃ r,m[k]?=some r:=⟨_,List.getElem?_eq_getElem (by have:=Hl.out;omega)⟩;obtain ⟨u,hu⟩:∃ u,vs[k]?=some u:=⟨_,List.getElem?_eq_getElem (by rw [Hvl.out];exact hkk)⟩;obtain ⟨b,off,rfl,hcu⟩:=Hc.out k u hu;have hru:=Hrows.out k u hu;rw [List.getD_eq_getElem?_getD,hr] at hru;simp only [Option.getD_some] at hru;have hrl:=Hrec.out r (List.mem_of_getElem? hr);obtain ⟨ar,cr,rfl,_,_,hcr⟩:=hru.parts;have hil:(zap r).length=n:=(by unfold zap;rw [List.length_map];exact hrl);rw [hil] at hcu;have hcw:=HE.out.cell hcu;have hk1:(0:Int)≤(k:Int):=(by omega);have hk2:(k:Int)<(k0:Int):=(by omega);have hll:ls.length=k:=by
    have:=congrArg List.length HM.out;rw [List.length_map,List.length_map,List.length_take,Hl.out] at this;omega
   have Hcr:=hid hcr;have Hr:=hid hr;have Hrl:=hid hrl;have Hll:=hid hll;clear hcr hr hrl hll hcu hru hil hu;go_wp2_with fail
   obtain ⟨wb,hwb⟩:∃ wb,wb=wr:=⟨_,rfl⟩;subst hwb;go_loopw [20,8] (fun v20 v8 wj=>∃ j:Nat,v20=.int .i64 j∧j≤n∧wj.ownsRow wb.heap.size 102 2 v8 j ((ziA (r.take j)).flatMap zls)∧Ext wb wj) (fun v20 _ _=>n - (zal v20).toNat)
   case atStart=>exact ⟨0,rfl,Nat.zero_le _,World.ownsRow_nil _ _ _ 2,Ext.refl _⟩
   case round =>
    clear hcw;obtain ⟨j,rfl,hjn,ho,hE⟩:=hrel;obtain ⟨a6,c6,rfl⟩:=zc3 ho;have hEw:=HE.out.trans hE;by_cases hjj:j<n
    ·have hjr:j<r.length:=(by rw [Hrl.out];exact hjj);obtain ⟨b2,o2,rfl,hcj⟩:=Hcr.out j (.int .i64 (zas r j)) (by unfold zap zas;rw [List.getElem?_map,List.getElem?_eq_getElem hjr,List.getD_eq_getElem?_getD,List.getElem?_eq_getElem hjr];rfl);have hcj2:=hEw.cell hcj;have hzb:=Hb.out r (List.mem_of_getElem? Hr.out) (zas r j) (zc8 hjr);have hofj:=Hof.out (zas r j) hzb.1 hzb.2 wr hEw;have hst:=zmN hjr;generalize zas r j=z at *;have hj1:(0:Int)≤(j:Int):=(by omega);have hj2:(j:Int)<(n:Int):=(by omega);have Hofj:=hid hofj;have Hst:=hid hst;have Ho:=hid ho;have HE2:=hid hE;have hm3:j+1≤maxLen:=(by unfold maxLen;omega);have hm4:(j+1) * 32≤140737488355328:=(by omega);clear hofj hst ho hE hEw hzb hjr hcj;go_wp2_with fail
     refine Hofj.out.mono ?_;rintro e VB ⟨rfl,hxa⟩;have hqo:=hxa.own Ho.out;have hbase:=(HE2.out.trans hxa).size;have HEB:=hid (HE2.out.trans hxa);clear hxa;go_wp2_with (at_builtin;refine wpList_append_own _ rfl _ _ 64 rfl wb.heap.size 102 i0 (.agg #[.string ByteArray.empty,.string ByteArray.empty]) 2 32 Tryz.underlying64 hi hz0 hz1 hz2 rfl (by decide) _ _ _ rfl (hqo.alloc _) ⟨VB.heap.size,0,none⟩ 1 1 [.string (I z),.string ⟨#[49]⟩] rfl rfl (zmL _ _ _) (by simp [Value.oneCell']) hm3 hm4 (by rw [World.size_alloc];omega) ?_;intro v7 V7 hown7 hgrow7 _)
     go_roundw
     case rel=>exact ⟨j+1,by go_num,hjj,by rw [Hst.out];exact hown7,(HEB.out.alloc _).grown hgrow7 fun q hq=>(World.ownsRow.lt hqo q hq).1⟩
     case measure=>simp [zal];omega
    ·have hjn2:j=n:=(by omega);have ho2:=ho;rw [hjn2,show r.take n=r by rw [← Hrl.out];exact List.take_length] at ho2;obtain ⟨g,cg,eg,hg1,hg2⟩:=World.ownsRow.form ho2 hn0;injection eg with eg1 _ eg2;subst eg1 eg2;have hG:=HG.out.ext hE;have hne:∀ f∈ls,f.g ≠ g:=fun f hf=>by
      have:=(HG.out.lt hf).2;omega
     have hsz:=(HE.out).size;have hrq:(ziA r).length=n:=(by unfold ziA;rw [List.length_map];exact Hrl.out);have hrow:wr.ownsRow w.heap.size 102 2 (GR.u ⟨g,c6,ziA r⟩) (ziA r).length ((ziA r).flatMap zls):=by
      unfold GR.u;rw [show (GR.mk g c6 (ziA r)).x=ziA r from rfl,hrq];exact zam ho2 hsz
     obtain ⟨a3,c3,e3⟩:=zc3 hG.own;subst e3;have hm3:k+1≤maxLen:=(by unfold maxLen;omega);have hm4:(k+1) * 24≤140737488355328:=(by omega);have hqo:=hG.own;rw [Hll.out] at hqo ⊢;have hbase:w.heap.size≤wr.heap.size:=hEw.size;have hno:=zmM (k:Int) wr;have HG2:=hid hG;have Hrow:=hid hrow;have Hne:=hid hne;have HEw:=hid hEw;have Hrq:=hid hrq;have Hno:=hid hno;have Ho:=hid ho;have Hjn:=hid hjn2;clear hG hrow hne hEw ho ho2 hE hjn2 hrq hno;go_wp2_with fail
     refine Hno.out.mono ?_;rintro e V0 ⟨rfl,rfl⟩;go_wp2_with (first | (at_builtin;refine zmG _ rfl _ _ 64 rfl wb.heap.size 102 i0 2 Tryz.underlying64 hi hz1 g j c6 _ rfl Ho.out rfl ?_) | (at_builtin;refine wpList_append_own _ rfl _ _ 157 rfl w.heap.size 64 j0 (.slice none 0 0) 1 24 Tryz.underlying157 hj hy0 hy1 hy2 rfl (by decide) _ _ _ rfl (hqo.alloc _) ⟨V0.heap.size,0,none⟩ 1 1 [.slice (some ⟨g,0,none⟩) j c6] rfl rfl (cell_one_new _ _ _) (by simp [Value.oneCell']) hm3 hm4 (by rw [World.size_alloc];omega) ?_;intro v7 V7 hown7 hgrow7 _))
     go_roundw
     case rel =>
      have hown7':V7.ownsRow w.heap.size 64 1 v7 (ls.length+1) (ls.map GR.u++[GR.u ⟨g,c6,ziA r⟩]):=by
       rw [Hll.out];unfold GR.u;rw [show (GR.mk g c6 (ziA r)).x=ziA r from rfl,Hrq.out,← Hjn.out];exact hown7
      have hmo:=HG2.out.more (e:=⟨g,c6,ziA r⟩) zmJ Hrow.out Hne.out hown7' (by rw [Hll.out] <;> exact hgrow7)
      refine ⟨k+1,ls++[⟨g,c6,ziA r⟩],by go_num,hkk,hid hmo,hid ?_,hid ((HEw.out.alloc _).grown hgrow7 fun q hq=>(World.ownsRow.lt hqo q hq).1)⟩;obtain ⟨h1,h2⟩:=List.getElem?_eq_some_iff.1 Hr.out;rw [List.map_append,HM.out,List.take_succ_eq_append_getElem h1,h2,List.map_append];rfl
     case measure=>simp [zal];omega
  ·have hkl:k=k0:=(by omega);have hkk2:¬ (k:Int)<(k0:Int):=(by omega);have hM:=HM.out;rw [hkl,← Hl.out,List.take_length] at hM;have HM2:=hid hM;clear hM hkl;go_wp2
   go_ret
   exact ⟨_,rfl,ls,HG.out,HM2.out,HE.out⟩
theorem zmP {l:List Rat}{j:Nat}{q:Rat}(h:l[j]?=some q):(l.flatMap zls)[j * 2]?=some (.string (I q.num))∧(l.flatMap zls)[j * 2+1]?=some (.string (I (q.den:Int))):=by
 induction l generalizing j with
 | nil=>simp at h
 | cons x l ih =>
  rw [List.flatMap_cons]
  cases j with
  | zero =>
   obtain rfl:x=q:=by simpa using h
   exact ⟨rfl,rfl⟩
  | succ j =>
   rw [List.getElem?_cons_succ] at h
   obtain ⟨h1,h2⟩:=ih h
   have hl:(zls x).length=2:=rfl
   refine ⟨?_,?_⟩
   ·rw [List.getElem?_append_right (by rw [hl];omega),hl,show (j+1) * 2 - 2=j * 2 by omega];exact h1
   ·rw [List.getElem?_append_right (by rw [hl];omega),hl,show (j+1) * 2+1 - 2=j * 2+1 by omega];exact h2
theorem zmQ {l:List Rat}{j:Nat}(q:Rat)(h:j<l.length):((l.flatMap zls).set (j * 2) (.string (I q.num))).set (j * 2+1) (.string (I (q.den:Int)))=(l.set j q).flatMap zls:=by
 induction l generalizing j with
 | nil=>simp at h
 | cons x l ih =>
  cases j with
  | zero=>rfl
  | succ j =>
   rw [List.set_cons_succ,List.flatMap_cons,List.flatMap_cons]
   have hl:(zls x).length=2:=rfl
   rw [List.set_append_right _ _ (by rw [hl];omega),List.set_append_right _ _ (by rw [hl];omega),hl,show (j+1) * 2 - 2=j * 2 by omega,show (j+1) * 2+1 - 2=j * 2+1 by omega,ih (by simpa using h)]
def GQ (W0:World)(B H gs cap:Nat)(m:List (List Rat))(w:World):Prop :=
 ∃ ls:List (GR Rat),Gd zls 102 64 2 w B gs cap ls∧ls.map GR.x=m∧(∀ e∈ls,e.g<H)∧gs<H∧W0.heap.size≤B∧Ext W0 w
section
variable {W0 w : World} {B H gs cap : Nat} {m : List (List Rat)}
theorem GQ.ext {w':World}(h:GQ W0 B H gs cap m w)(hx:Ext w w'):GQ W0 B H gs cap m w':=by
 obtain ⟨ls,h1,h2,h3,h4,h5,h6⟩:=h;exact ⟨ls,h1.ext hx,h2,h3,h4,h5,h6.trans hx⟩
theorem GQ.x (h:GQ W0 B H gs cap m w):Ext W0 w:=by
 obtain ⟨_,_,_,_,_,_,h6⟩:=h;exact h6
theorem GQ.gsH (h:GQ W0 B H gs cap m w):gs<H:=by
 obtain ⟨_,_,_,_,h4,_,_⟩:=h;exact h4
theorem GQ.frozen (h:GQ W0 B H gs cap m w)(i:Nat):w.frozen? ⟨gs,i,none⟩=false:=by
 obtain ⟨ls,hd,_⟩:=h;exact World.ownsRow.frozenAt hd.own i
theorem zmR {ls:List (GR Rat)}{i:Nat}{r:List Rat}(h:(ls.map GR.x)[i]?=some r):∃ e,ls[i]?=some e∧e.x=r:=by
 rw [List.getElem?_map] at h
 cases hl:ls[i]? with
 | none=>rw [hl] at h;cases h
 | some e=>rw [hl] at h;exact ⟨e,rfl,Option.some.inj h⟩
theorem GQ.row (h:GQ W0 B H gs cap m w){i:Nat}{r:List Rat}(hr:m[i]?=some r) :
  ∃ gi ci,w.cell? ⟨gs,i,none⟩=some (.slice (some ⟨gi,0,none⟩) r.length ci)∧gi<H ∧
   ∀ V,Ext w V→V.cell? ⟨gs,i,none⟩=some (.slice (some ⟨gi,0,none⟩) r.length ci)∧(∀ j q,r[j]?=some q→V.cell? ⟨gi,j * 2,none⟩=some (.string (I q.num))∧V.cell? ⟨gi,j * 2+1,none⟩=some (.string (I (q.den:Int))))∧(∀ j,V.frozen? ⟨gi,j,none⟩=false) ∧
    ∀ j (q:Rat),j<r.length→GQ W0 B H gs cap (m.set i (r.set j q)) ((V.setCell ⟨gi,j * 2,none⟩ (.string (I q.num))).setCell ⟨gi,j * 2+1,none⟩ (.string (I (q.den:Int))))∧V.grownBy ((V.setCell ⟨gi,j * 2,none⟩ (.string (I q.num))).setCell ⟨gi,j * 2+1,none⟩ (.string (I (q.den:Int)))) (some gi):=by
 obtain ⟨ls,hd,rfl,hH,hgH,hB,hx⟩:=h;obtain ⟨e,hE,rfl⟩:=zmR hr;have hm:=List.mem_of_getElem? hE;refine ⟨e.g,e.c,hd.at hE,hH e hm,fun V hV=>⟨(hd.ext hV).at hE,fun j q hq=>?_,fun j=>World.ownsRow.frozenAt ((hd.ext hV).rows e hm) j,fun j q hj=>?_⟩⟩
 ·have ho:=(hd.ext hV).rows e hm;have hj:=(List.getElem?_eq_some_iff.1 hq).1;obtain ⟨h1,h2⟩:=zmP hq;have c0:=World.ownsRow.cellAt ho (j * 2) (by omega);have c1:=World.ownsRow.cellAt ho (j * 2+1) (by omega);rw [h1] at c0;rw [h2] at c1;exact ⟨c0,c1⟩
 ·have ho:=(hd.ext hV).rows e hm;have s1:=World.ownsRow.stored ho (j * 2) (.string (I q.num));have s2:=World.ownsRow.stored s1.1 (j * 2+1) (.string (I (q.den:Int)));have hg:=s1.2.trans s2.2;rw [zmQ q hj] at s2;have hup:=(hd.ext hV).upd zmJ hE hg (x:=e.x.set j q) (by rw [List.length_set]) s2.1;refine ⟨⟨_,hup,by rw [List.map_set],fun f hf=>?_,hgH,hB,zlq hg (hx.trans hV) (Nat.le_trans hB (hd.rowB hm).1)⟩,hg⟩;obtain ⟨k,hk⟩:=List.mem_iff_getElem?.1 hf;rw [List.getElem?_set] at hk;split at hk
  ·split at hk
   ·obtain rfl:=Option.some.inj hk;exact hH e hm
   ·cases hk
  ·exact hH f (List.mem_of_getElem? hk)
theorem GQ.swap (h:GQ W0 B H gs cap m w){i j:Nat}{r s:List Rat}(hr:m[i]?=some r)(hs:m[j]?=some s) :
  ∃ gi ci gj cj,w.cell? ⟨gs,i,none⟩=some (.slice (some ⟨gi,0,none⟩) r.length ci)∧w.cell? ⟨gs,j,none⟩=some (.slice (some ⟨gj,0,none⟩) s.length cj) ∧
   GQ W0 B H gs cap (swp m i j) ((w.setCell ⟨gs,i,none⟩ (.slice (some ⟨gj,0,none⟩) s.length cj)).setCell ⟨gs,j,none⟩ (.slice (some ⟨gi,0,none⟩) r.length ci))∧w.grownBy ((w.setCell ⟨gs,i,none⟩ (.slice (some ⟨gj,0,none⟩) s.length cj)).setCell ⟨gs,j,none⟩ (.slice (some ⟨gi,0,none⟩) r.length ci)) (some gs):=by
 obtain ⟨ls,hd,rfl,hH,hgH,hB,hx⟩:=h;obtain ⟨e,hE,rfl⟩:=zmR hr;obtain ⟨f,hF,rfl⟩:=zmR hs;obtain ⟨h1,h2⟩:=hd.swap zmJ hE hF;refine ⟨e.g,e.c,f.g,f.c,hd.at hE,hd.at hF,⟨(ls.set i f).set j e,h1,?_,fun k hk=>?_,hgH,hB,zlq h2 hx (Nat.le_trans hB hd.gsB.1)⟩,h2⟩
 ·rw [List.map_set,List.map_set];exact (zix hr hs).symm
 ·obtain ⟨z,hz⟩:=List.mem_iff_getElem?.1 hk;rw [zlp hE hF] at hz;exact hH k (List.mem_of_getElem? hz)
theorem zmS {V:World}{b gi H:Nat}{u v:Value}(h:zes w b u v)(hb:H≤b)(hg:w.grownBy V (some gi))(hi:gi<H):zes V b u v :=
 (hg.block b h.lt (fun q=>by have:=Option.some.inj q;omega)).trans h
theorem zmT {V:World}{E s n gi H:Nat}{v:Value}{xs:List Value}(h:w.ownsRow H E s v n xs)(hg:w.grownBy V (some gi))(hi:gi<H):V.ownsRow H E s v n xs:=by
 refine World.ownsRow.kept h hg ?_;rcases h.2 with ⟨rfl,_⟩ | ⟨g,cap,cur,rfl,hb,_⟩
 ·exact .inl rfl
 ·exact .inr fun q=>by
   have:g=gi:=Option.some.inj q;omega
theorem GQ.kept {V:World}{b:Nat}(h:GQ W0 B H gs cap m w)(hg:w.grownBy V (some b))(hb:H≤b)(hW:W0.heap.size≤H):GQ W0 B H gs cap m V:=by
 obtain ⟨ls,hd,rfl,hH,hgH,hB,hx⟩:=h;refine ⟨ls,⟨World.ownsRow.kept hd.own hg (.inr fun q=>by have:gs=b:=Option.some.inj q;omega),fun e he=>World.ownsRow.kept (hd.rows e he) hg (.inr fun q=>by have:e.g=b:=Option.some.inj q;have:=hH e he;omega),hd.apart⟩,rfl,hH,hgH,hB,hx.grown hg fun k hk=>by cases hk;omega⟩
end
end Go.Proofs.YtipkdebkdnbieaaGreatDoor
