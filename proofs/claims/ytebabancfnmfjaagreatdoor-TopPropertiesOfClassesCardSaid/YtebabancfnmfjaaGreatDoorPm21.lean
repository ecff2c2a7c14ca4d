/- Walk: scale.collect of at most nine sizes. Walk: scale.Chain of at most nine links. Walks: law 31's whole, octave, multiples. -/
import Derived.Test.YtebabancfnmfjaaGreatDoorPm19
import Derived.Test.YtebabancfnmfjaaGreatDoorPm14
import Derived.Test.YtebabancfnmfjaaGreatDoorPm15
import Derived.Test.YtebabancfnmfjaaGreatDoorPm20
set_option maxRecDepth 100000
set_option maxHeartbeats 800000
namespace Go.Proofs.YtebabancfnmfjaaGreatDoor
open Go.RowKit Go.Lib Go.Shelf
attribute [local go_sem] Oper.semAt_some
theorem zka (r:Rat):sgQ r<0 ↔ r<0:=by
 unfold sgQ;constructor
 ·intro h;by_cases g:r<0
  ·exact g
  ·rw [if_neg g] at h;split at h <;> omega
 ·intro h;rw [if_pos h];decide
theorem Lw.cmpb {p:List Int}{c:Int}{l N:List (List Rat)}(h:Lw p c l)(hN:∀ x∈N,x=zer p.length∨x=ov (p.length - 1)∨∃ z∈l,x=rst p z):zjs p N:=by
 obtain ⟨n,hn⟩:=h.play;have hlen:∀ x∈N,x.length=p.length:=fun x hx=>(hn x x (hN x hx) (hN x hx)).1;have hb:∀ x∈N,0≤sF p x∧sF p x≤67108864:=fun x hx=>by
  rcases hN x hx with e | e | ⟨z,hz,e⟩
  ·rw [e,ziR];exact ⟨Rat.le_refl,by decide⟩
  ·rw [e,sov h.pr];exact ⟨by decide,Rat.le_refl⟩
  ·rw [e];have:=h.range hz;exact ⟨this.1,Rat.le_of_lt this.2⟩
 have hpe:zfc p=0∧p.length≤100:=by rcases h.pr with ⟨e,_⟩ | ⟨e,_⟩ <;> rw [e] <;> decide
 have hpx:∀ x:List Rat,x.length=p.length→Pr p x.length:=fun x e=>by rw [e];exact h.pr
 have h1:((1 * 67108864:Int):Rat)=67108864:=rfl;refine ⟨hpe.1,hpe.2,hlen,fun x hx=>?_,fun x hx y hy=>?_,fun x hx y hy=>?_⟩
 ·have hz:=(hn x (zer p.length) (hN x hx) (.inl rfl)).2;rw [← hlen x hx,ziD] at hz;have b:=hb x hx;exact (ziA (c:=1) (hpx x (hlen x hx)) hz (by omega) (by omega) (by rw [h1];grind) (by rw [h1];exact b.2)).1
 ·have b1:=hb x hx;have b2:=hb y hy;have hl:=hlen x hx;have hl2:=hlen y hy;have hs:=zez p x y (hl.trans hl2.symm);exact ziA (c:=1) (hpx _ ((ziC (hl.trans hl2.symm)).trans hl)) (hn x y (hN x hx) (hN y hy)).2 (by omega) (by omega) (by rw [h1];grind) (by rw [h1];grind)
 ·have hl:=hlen x hx;have hl2:=hlen y hy;rw [zeP (hpx _ ((ziC (hl.trans hl2.symm)).trans hl)) (hn x y (hN x hx) (hN y hy)).2.nice,zka,zez p x y (hl.trans hl2.symm)];constructor <;> intro g <;> grind
def ScO (w:World)(B:Nat)(v:Value)(p:List Int)(rs:List Qw):Prop:=∃ vp vn,v=.agg #[vp,vn]∧zfi w B vp p∧QwM w B B vn rs
theorem ScO.ext {w w':World}{B:Nat}{v:Value}{p:List Int}{rs:List Qw}(hx:Ext w w')(h:ScO w B v p rs):ScO w' B v p rs:=by
 obtain ⟨vp,vn,e,a,b⟩:=h;exact ⟨vp,vn,e,hx.own a,hx.qwM b⟩
theorem ScO.scV {w:World}{B:Nat}{v:Value}{p:List Int}{rs:List Qw}(h:ScO w B v p rs):ScV w v p rs:=by
 obtain ⟨vp,vn,e,a,b⟩:=h;exact ⟨vp,vn,e,zao a,b.rd⟩
theorem ScO.mono {w:World}{B B':Nat}{v:Value}{p:List Int}{rs:List Qw}(h:ScO w B v p rs)(hB:B'≤B):ScO w B' v p rs:=by
 obtain ⟨vp,vn,e,a,b⟩:=h;exact ⟨vp,vn,e,zan a hB,b.mono hB hB⟩
theorem QwM.set {W:World}{b B:Nat}{v:Value}{rs:List Qw}(h:QwM W b B v rs){c:Nat}{cs:Array Value}(hc:W.heap[c]?=some (.cells cs 28 (0,0)))(k:Nat)(u:Value):QwM (W.setCell ⟨c,k,none⟩ u) b B v rs :=
 ⟨zgd hc h.1 (by decide) k u,fun r hr=>zgd hc (h.2 r hr) (by decide) k u⟩
theorem QwM.more2 {w0 W V:World}{b B:Nat}{o:Obj}{v v7:Value}{rs:List Qw}{r:Qw}(hE:Ext w0 W)(hB:w0.heap.size≤B)(h:QwM W b B v rs)(hr:zfx W b r.u r.x)
  (hown:V.ownsRow B 41 1 v7 (rs.length+1) (qwc rs++[r.u])) (hgrow:(W.alloc o).grownBy V v.ownBlock):QwM V b B v7 (rs++[r])∧Ext w0 V:=by
 have hal:=h.1.alloc o;have hkeep:∀ s:Qw,zfx W b s.u s.x→zfx V b s.u s.x:=fun s hs=>World.ownsRow.kept (World.ownsRow.alloc hs o) hgrow (zfm (World.ownsRow.alloc hs o) hal (by decide));refine ⟨⟨?_,fun s hs=>?_⟩,(hE.alloc o).grown hgrow fun k hk=>Nat.le_trans hB (World.ownsRow.lt hal k hk).1⟩
 ·rw [List.length_append,List.length_singleton,zjx];exact hown
 ·rcases List.mem_append.1 hs with g | g
  ·exact hkeep s (h.2 s g)
  ·rw [List.mem_singleton] at g;subst g;exact hkeep s hr
def NtR (b:Nat)(W6:World)(bs:Nat)(vp:Value)(xs:List (List Rat))(wr:World):Prop:=∃ (vn:Value)(nts:List Qw),zic 28 wr bs vp vn∧QwM wr b W6.heap.size vn nts∧nts.map Qw.x=xs∧Ext W6 wr
theorem NtR.more {b:Nat}{W6 W V:World}{bs:Nat}{vp vn v7 u:Value}{x:List Rat}{nts:List Qw}{xs:List (List Rat)}{o:Obj}(hbs:W6.heap.size≤bs)(hb:zic 28 W bs vp vn)(hq:QwM W b W6.heap.size vn nts)(hm:nts.map Qw.x=xs)(hE:Ext W6 W)(ho:zfx W b u x)
  (hown:V.ownsRow W6.heap.size 41 1 v7 (nts.length+1) (qwc nts++[u])) (hgrow:(W.alloc o).grownBy V vn.ownBlock):NtR b W6 bs vp (xs++[x]) (V.setCell ⟨bs,1,none⟩ v7):=by
 have h1:=QwM.more2 (r:=⟨_,u,zf1 ho.rd⟩) hE (Nat.le_refl _) hq ho hown hgrow;have hbV:zic 28 V bs vp vn:=zga (((Ext.refl W).alloc o).heap hb) (World.ownsRow.alloc hq.1 o) (by decide) hgrow;exact ⟨v7,_,hbV.put1 v7,h1.1.set hbV 1 v7,by rw [List.map_append,hm];rfl,h1.2.setCell hbs v7⟩
theorem NtR.ext {b:Nat}{W6 wr w':World}{bs:Nat}{vp:Value}{xs:List (List Rat)}(h:NtR b W6 bs vp xs wr)(hx:Ext wr w'):NtR b W6 bs vp xs w':=by
 obtain ⟨vn,nts,h1,h2,h3,h4⟩:=h;exact ⟨vn,nts,h1.ext hx,hx.qwM h2,h3,h4.trans hx⟩
theorem s6 {w6 w':World}{a:Addr}{u:Value}(h6:w6.cell? a=some u)(h:Ext w6 w'):Ext w6 w'∧w'.cell? a=some u:=⟨h,h.cell h6⟩
def CoR (W:World)(p:List Int)(l:List (List Rat))(k:Nat)(v:Value)(wr:World):Prop:=∃ out:List Qw,QwM wr W.heap.size W.heap.size v out∧out.map Qw.x=ziY p [] (l.take k)∧out.length≤k∧Ext W wr
theorem CoR.skip {W wr w':World}{p:List Int}{l:List (List Rat)}{k:Nat}{v:Value}{x:List Rat}{out:List Qw}(hq:QwM wr W.heap.size W.heap.size v out)(hm:out.map Qw.x=ziY p [] (l.take k))(hl:out.length≤k)(hE:Ext W wr)(hx:Ext wr w')(hr:l[k]?=some x)(hs:rst p x=zer p.length∨rst p x∈out.map Qw.x):CoR W p l (k+1) v w' :=
 ⟨out,hx.qwM hq,by rw [zja hr,ziX,if_pos (by rw [← hm];exact hs)];exact hm,by omega,hE.trans hx⟩
theorem CoR.more {W wr V:World}{p:List Int}{l:List (List Rat)}{k:Nat}{v v7 u:Value}{x:List Rat}{out:List Qw}{o:Obj}(hE:Ext W wr)(hq:QwM wr W.heap.size W.heap.size v out)(hm:out.map Qw.x=ziY p [] (l.take k))(hl:out.length≤k)(hr:l[k]?=some x)(hs:¬ (rst p x=zer p.length∨rst p x∈out.map Qw.x))(ho:zfx wr W.heap.size u (rst p x))
  (hown:V.ownsRow W.heap.size 41 1 v7 (out.length+1) (qwc out++[u])) (hgrow:(wr.alloc o).grownBy V v.ownBlock):CoR W p l (k+1) v7 V:=by
 have:=QwM.more (r:=⟨_,u,zf1 ho.rd⟩) hE hq ho hown hgrow;exact ⟨_,this.1,by rw [zja hr,ziX,if_neg (by rw [← hm];exact hs),List.map_append,hm];rfl,by rw [List.length_append];simp;omega,this.2⟩
theorem zkb {p:List Int}{c:Int}{l:List (List Rat)}{out:List Qw}{ord:List Nat}{getX:Nat→List Rat}(h:Lw p c l)(hperm:ord.Perm (List.range out.length))(hsort:ord.Pairwise fun i k=>zjt p out i≤zjt p out k)(hfull:out.map Qw.x=ziY p [] l)(hg:getX=fun i=>((out[i]?).map Qw.x).getD []):zjh p l (ord.map getX++[ov (p.length - 1)]):=by
 have e:(List.range out.length).map getX=out.map Qw.x:=by
  apply List.ext_getElem?;intro i;rw [List.getElem?_map,List.getElem?_map,hg];rcases Nat.lt_or_ge i out.length with g | g
  ·rw [List.getElem?_range g,List.getElem?_eq_getElem g];simp [g]
  ·rw [List.getElem?_eq_none (by simpa using g),List.getElem?_eq_none g];rfl
 refine zjn h ?_ ?_
 ·rw [← hfull,← e];exact hperm.map getX
 ·rw [List.pairwise_map];refine hsort.imp fun {a b} g=>?_;rw [hg];exact g
theorem zkc (vp vb vl:Value)(p:List Int)(c:Int)(rs:List Qw)(w:World)(he:Env w)(hp:Sl w vp (zaq p))(hb:Rd w vb (ov (p.length - 1)))(hl:RdM w vl rs)(hL:Lw p c (rs.map Qw.x))(hn9:rs.length≤9) :
  Calls Tryz.prog 141 #[vp,vb,vl] w fun e w'=>∃ v out,e=.returned (.tuple #[v,.int .i64 0])∧ScO w' w.heap.size v p out∧zjh p (rs.map Qw.x) (out.map Qw.x)∧Ext w w':=by
 obtain ⟨j0,hj,hy0,hy1,hy2⟩:=info_parts zfz;have hpe:zfc p=0∧p.length≤100∧0<p.length:=by rcases hL.pr with ⟨e,_⟩ | ⟨e,_⟩ <;> rw [e] <;> decide
 have hz:=fun W (hE:Ext w W)=>zhs vp p W (he.ext hE) (hE.sl hp) hpe.1;have hred:=fun (r:Qw)(hr:r∈rs) W (hE:Ext w W)=>(show Calls Tryz.prog 144 #[vp,vb,r.u] W fun e w'=>∃ g,e=.returned (.tuple #[.slice (some ⟨g,0,none⟩) p.length p.length,.string (I (flP p r.x)),.int .i64 0])∧zfx w' W.heap.size (.slice (some ⟨g,0,none⟩) p.length p.length) (rst p r.x)∧Ext W w' from by
  obtain ⟨a,tl,e,h⟩:=hL.red (List.mem_map_of_mem hr);have hrd:=hE.rd (hl.2 r hr);rw [e] at hrd ⊢;have hlt:tl.length=p.length - 1:=by have:=h.len;omega
  have:=zhR vp r.u vb p a tl W (he.ext hE) (hE.sl hp) hrd (hE.rd (by rw [hlt];exact hb)) hpe.1 h.pr h.ft h.qf h.fk h.fit (by rw [h.eq];exact h.res);rw [h.eq] at this;exact this)
 have hrl:∀ r∈rs,(rst p r.x).length=p.length:=fun r hr=>by unfold rst;rw [ziG];exact hL.len _ (List.mem_map_of_mem hr)
 have heq:=fun W va vb x y (ha:Rd W va x)(hb:Rd W vb y)(hx:x.length=p.length)(hy:y.length=p.length)=>zfK va vb x y W ha hb (by omega) (by omega);have hcon:=fun W bx va x v out (h0:W.cell? ⟨bx,0,none⟩=some va)(ha:Rd W va x)(hx:x.length=p.length)(hv:RdM W v out)(ho:out.length≤9)(hol:∀ r∈out,r.x.length=p.length)=>zj5 205 #[.pointer (some ⟨bx,0,none⟩)] v out (fun y=>decide (x=y)) W hv.1 (by omega) zjA (fun W2 hE r hr=>zj9 va r.u x r.x bx W2 (hE.cell h0) (hE.rd ha) (hE.rd (hv.2 r hr)) (by omega) (by have:=hol r hr;omega));have hone:=fun (r:Qw)(hr:r∈rs)=>(hl.2 r hr).parts;have hlen:=fun (r:Qw)(hr:r∈rs)=>hL.len _ (List.mem_map_of_mem (f:=Qw.x) hr);obtain ⟨ap,cp,rfl,_,_,_⟩:=hp.parts;obtain ⟨ab,cb,rfl,_,_,_⟩:=hb.parts;obtain ⟨al,cl,rfl,_,_,hc⟩:=hl.1.parts;rw [zas] at *;rw [zf0] at *;have hovl:(ov (p.length - 1)).length=p.length:=by rw [zhJ];omega
 simp only [hovl] at hred hb ⊢;generalize hn:rs.length=n at *;have Hn:=hid hn;have hE0:Ext w (w.alloc (.cells #[.slice none 0 0,.slice none 0 0] 28)):=(Ext.refl w).alloc _;have b0:=zic.new 28 w (.slice none 0 0) (.slice none 0 0);have Hp:=hid hp;have Hb:=hid hb;have Hl:=hid hl;have HL:=hid hL;have He:=hid he;have Hpe:=hid hpe;have Hz:=hid hz;have Hred:=hid hred;have Hrl:=hid hrl;have Heq:=hid heq;have Hcon:=hid hcon;have Hone:=hid hone;have Hlen:=hid hlen;have Hc:=hid hc;have HE0:=hid hE0;have B0:=hid b0;clear hp hb hl hL he hpe hz hred hrl heq hcon hone hlen hc hE0 b0 hovl hn;go_enter Tryz.func141,Tryz.ntmps141
 go_wp2_with fail
 refine (Hz.out _ HE0.out).mono ?_;rintro e w1 ⟨rfl,hoz,hx1⟩;obtain ⟨gz,hgz⟩:∃ g,g=(w.alloc (.cells #[.slice none 0 0,.slice none 0 0] 28)).heap.size:=⟨_,rfl⟩;rw [← hgz] at hoz ⊢;clear hgz;have Hoz:=hid hoz.rd;have Hx1:=hid hx1;have Hx1w:=hid hx1;clear hoz hx1;go_wp2_with fail
 go_loopw [10,12,13,14,15,28] (fun v10 v12 v13 v14 v15 v28 wr=>∃ k:Nat,v28=.int .i64 k∧k≤n∧CoR w1 p (rs.map Qw.x) k v10 wr) (fun _ _ _ _ _ v28 _=>n - (zam v28).toNat)
 case atStart=>exact ⟨0,rfl,Nat.zero_le _,⟨[],QwM.nil _ _ _,rfl,Nat.le_refl _,Ext.refl _⟩⟩
 case round =>
  obtain ⟨k,rfl,hk,⟨out,hq,hmq,hlq,hE⟩⟩:=hrel;obtain ⟨a10,c10,rfl⟩:=zfj hq.1;have hEw:=(HE0.out.trans Hx1.out).trans hE;by_cases hkn:k<n
  ·obtain ⟨r,hr⟩:∃ r,rs[k]?=some r:=⟨_,List.getElem?_eq_getElem (by rw [Hn.out];exact hkn)⟩;have hmem:=List.mem_of_getElem? hr;obtain ⟨b,off,rfl,hc0⟩:=Hc.out k r.u (by unfold qwc;rw [List.getElem?_map,hr];rfl);obtain ⟨ar,cr,hru,_,_,_⟩:=Hone.out r hmem;have hcu:=hEw.cell hc0;have hrl:r.x.length=p.length:=Hlen.out r hmem;rw [hru,hrl] at hcu;have hrd:=Hred.out r hmem wr hEw;rw [hru,hrl] at hrd;have hrrl:=Hrl.out r hmem;have hrx:(rs.map Qw.x)[k]?=some r.x:=(by rw [List.getElem?_map,hr];rfl);have hol:∀ s∈out,s.x.length=p.length:=fun s hs=>by
    have h1:=List.mem_map_of_mem (f:=Qw.x) hs;rw [hmq] at h1;rcases (zjc _ _ _).1 h1 with e | ⟨_,z,hz,e⟩
    ·cases e
    ·rw [e];unfold rst;rw [ziG];exact HL.out.len z (List.mem_of_mem_take hz)
   have hk0:(0:Int)≤(k:Int):=(by omega);have hk1:(k:Int)<(n:Int):=(by omega);generalize I (flP p r.x)=sfl at *;have Hrd:=hid hrd;have Hrrl:=hid hrrl;have Hrx:=hid hrx;have Hol:=hid hol;have Hq:=hid hq;have Hmq:=hid hmq;have Hlq:=hid hlq;have HE:=hid hE;have HEw:=hid hEw;clear hrd hrrl hrx hol hq hmq hE hEw hrl hru hc0 hmem hr;go_wp2_with fail
   refine Hrd.out.mono ?_;rintro e w3 ⟨g3,rfl,ho3,hx3⟩;have hbx:(w3.alloc (.cells #[.slice (some ⟨g3,0,none⟩) p.length p.length] 41)).cell? ⟨w3.heap.size,0,none⟩=some (.slice (some ⟨g3,0,none⟩) p.length p.length):=(by unfold World.cell?;rw [World.alloc_heap_new w3 _];rfl);have hE4:Ext wr (w3.alloc (.cells #[.slice (some ⟨g3,0,none⟩) p.length p.length] 41)):=hx3.alloc _;have ho4:zfx (w3.alloc (.cells #[.slice (some ⟨g3,0,none⟩) p.length p.length] 41)) w1.heap.size (.slice (some ⟨g3,0,none⟩) p.length p.length) (rst p r.x):=(((Ext.refl w3).alloc _).ownQ ho3).mono HE.out.size;have heq4:=Heq.out _ _ (.slice (some ⟨gz,0,none⟩) p.length p.length) _ _ ho4.rd ((HE.out.trans hE4).rd Hoz.out) Hrrl.out List.length_replicate;have Hbx:=hid hbx;have Ho4:=hid ho4;have HE4:=hid hE4;have Heq4:=hid heq4;clear hx3 ho3 hE4 hcu hbx ho4 heq4;go_wp2_with fail
   generalize hW4:w3.alloc (.cells #[.slice (some ⟨g3,0,none⟩) p.length p.length] 41)=W4 at *;refine Heq4.out.mono ?_;rintro e w5 ⟨rfl,hx5⟩;have hb5:=hx5.cell Hbx.out;have hE5:=HE4.out.trans hx5;have ho5:=hx5.ownQ Ho4.out;by_cases hzr:rst p r.x=List.replicate p.length 0
   ·rw [decide_eq_true hzr];have Hzr:=hid hzr;have HE5:=hid hE5;clear hzr hb5 hE5 ho5 hx5;go_wp2_with fail
    go_roundw
    case rel=>exact ⟨k+1,by go_num,by omega,CoR.skip Hq.out Hmq.out Hlq.out HE.out HE5.out Hrx.out (.inl Hzr.out)⟩
    case measure=>simp [zam];omega
   ·rw [decide_eq_false hzr];have hcn:=Hcon.out w5 w3.heap.size _ (rst p r.x) _ out hb5 ho5.rd Hrrl.out (hE5.rdM Hq.out.rd) (by omega) Hol.out;have Hzr:=hid hzr;have HE5:=hid hE5;have Ho5:=hid ho5;have Hcn:=hid hcn;have Hb5:=hid hb5;clear hzr hb5 hE5 ho5 hx5 hcn;go_wp2_with fail
    refine Hcn.out.mono ?_;rintro e w6 ⟨rfl,hx6⟩;have hE6:=HE5.out.trans hx6;have ho6:=hx6.ownQ Ho5.out;have hb6:=hx6.cell Hb5.out;have hany:(out.any fun y=>decide (rst p r.x=y.x))=decide (rst p r.x∈out.map Qw.x):=by
     rw [Bool.eq_iff_iff,List.any_eq_true,decide_eq_true_eq,List.mem_map];constructor
     ·rintro ⟨y,hy,e⟩;exact ⟨y,hy,(of_decide_eq_true e).symm⟩
     ·rintro ⟨y,hy,e⟩;exact ⟨y,hy,decide_eq_true e.symm⟩
    rw [hany];clear hany;by_cases hin:rst p r.x∈out.map Qw.x
    ·rw [decide_eq_true hin];have Hin:=hid hin;have HE6:=hid hE6;clear hin hb6 hE6 ho6 hx6;go_wp2_with fail
     go_roundw
     case rel=>exact ⟨k+1,by go_num,by omega,CoR.skip Hq.out Hmq.out Hlq.out HE.out HE6.out Hrx.out (.inr Hin.out)⟩
     case measure=>simp [zam];omega
    ·rw [decide_eq_false hin];have hq6:=hE6.qwM Hq.out;have hqo:=hq6.1;have hE16:=HE.out.trans hE6;have hbase:=hE16.size;have hm3:out.length+1≤maxLen:=(by unfold maxLen;omega);have hm4:(out.length+1) * 24≤140737488355328:=(by omega);have Hin:=hid hin;have HE16:=hid hE16;have Hq6:=hid hq6;have Ho6:=hid ho6;clear hin hE6 ho6 hx6 hE16 hq6;go_wp2_with (at_builtin;refine wpList_append_own _ rfl _ _ 26 rfl w1.heap.size 41 j0 (.slice none 0 0) 1 24 Tryz.underlying26 hj hy0 hy1 hy2 rfl (by decide) _ _ _ rfl (hqo.alloc _) ⟨w6.heap.size,0,none⟩ 1 1 [.slice (some ⟨g3,0,none⟩) p.length p.length] rfl rfl (cell_one_new _ _ _) (by simp [Value.oneCell']) hm3 hm4 (by rw [World.size_alloc];omega) ?_;intro v7 V7 hown7 hgrow7 _)
     go_roundw
     case rel=>exact ⟨k+1,by go_num,by omega,CoR.more HE16.out Hq6.out Hmq.out Hlq.out Hrx.out (fun h=>h.elim Hzr.out Hin.out) Ho6.out hown7 hgrow7⟩
     case measure=>simp [zam];omega
  ·obtain rfl:n=k:=by omega
   have hall:∀ x∈out.map Qw.x,x=zer p.length∨x=ov (p.length - 1)∨∃ z∈rs.map Qw.x,x=rst p z:=fun x hx=>by
    rw [hmq] at hx;rcases (zjc _ _ _).1 hx with e | ⟨_,z,hz,e⟩
    ·cases e
    ·exact .inr (.inr ⟨z,List.mem_of_mem_take hz,e⟩)
   have hso:=zj2 (.slice ap p.length cp) (.slice a10 out.length c10) p out wr (He.out.ext hEw) (hEw.sl Hp.out) hq.rd (HL.out.cmpb hall) (by omega);have hfull:out.map Qw.x=ziY p [] (rs.map Qw.x):=(by rw [hmq,List.take_of_length_le (by rw [List.length_map,Hn.out];exact Nat.le_refl _)]);have hcl:=fun W (hE:Ext w W)=>zjw (.slice ap p.length cp) p W (hE.sl Hp.out) (by have:=Hpe.out.2.1;omega) (by intro e;have:=Hpe.out.2.2;rw [e] at this;cases this);have hcq:=fun W (hE:Ext w W)=>zjv (.slice ab p.length cb) (ov (p.length - 1)) W (hE.rd Hb.out) (by rw [zhJ];have:=Hpe.out.2.1;omega) (by unfold ov;simp);have t60:¬ (60:Int)≤(out.length:Int):=(by omega);have Hso:=hid hso;have Hfull:=hid hfull;have Hq:=hid hq;have Hlq:=hid hlq;have HE:=hid hE;have HEw:=hid hEw;have Hcl:=hid hcl;have Hcq:=hid hcq;clear hso hfull hq hmq hE hEw hcl hcq hall;go_wp2_with fail
   refine Hso.out.mono ?_;rintro e w5 ⟨u5,ord,rfl,hord,hx5⟩;obtain ⟨hoo,hperm,hsort⟩:=hord;obtain ⟨ao,co,rfl⟩:=zfj hoo;have Hslo:=hid (zao hoo);have Hx5:=hid hx5;have Hperm:=hid hperm;have Hsort:=hid hsort;have hcl5:=Hcl.out w5 (HEw.out.trans hx5);have Hcl5:=hid hcl5;clear hoo hx5 hperm hsort hcl5;go_wp2_with fail
   refine Hcl5.out.mono ?_;rintro e w6 ⟨u6,rfl,ho6,hx6⟩;obtain ⟨a6,c6,rfl⟩:=zfj ho6;have hE56:=Hx5.out.trans hx6;have Hx6:=hid (HE.out.trans hE56);have Ho6:=hid (zan ho6 (HEw.out.trans Hx5.out).size);have Hq6:=hid (hE56.qwM Hq.out);have Hslo6:=hid (hx6.sl Hslo.out);have HEw6:=hid (HEw.out.trans hE56);clear hx6 ho6 hE56;have hb7:=zic.new 28 w6 (.slice a6 p.length c6) (.slice none 0 0);have Hb7:=hid hb7;clear hb7;have h6x:Ext w6 (w6.alloc (.cells #[.slice a6 p.length c6,.slice none 0 0] 28)):=(Ext.refl w6).alloc _;have H6x:=hid h6x;clear h6x;have hordl:ord.length=out.length:=(by have:=Hperm.out.length_eq;rwa [List.length_range] at this);have Hordl:=hid hordl;clear hordl;obtain ⟨getX,hgetX⟩:∃ getX:Nat→List Rat,getX=fun i=>((out[i]?).map Qw.x).getD []:=⟨_,rfl⟩;have HgetX:=hid hgetX;clear hgetX;go_wp2_with fail
   go_loopw [20,78] (fun v20 v78 wr=>∃ k:Nat,v78=.int .i64 k∧k≤out.length∧NtR w1.heap.size w6 w6.heap.size (.slice a6 p.length c6) ((ord.take k).map getX) wr) (fun _ v78 _=>out.length - (zam v78).toNat)
   case atStart=>exact ⟨0,rfl,Nat.zero_le _,.slice none 0 0,[],Hb7.out,QwM.nil _ _ _,rfl,H6x.out⟩
   case round =>
    obtain ⟨k,rfl,hk,⟨vn,nts,hbn,hqn,hmn,hEn⟩⟩:=hrel;by_cases hkm:k<out.length
    ·obtain ⟨i,hi⟩:∃ i,ord[k]?=some i:=⟨_,List.getElem?_eq_getElem (by rw [Hordl.out];exact hkm)⟩;have him:i<out.length:=by
      have:=Hperm.out.mem_iff.1 (List.mem_of_getElem? hi);rwa [List.mem_range] at this
     obtain ⟨s,hs⟩:∃ s,out[i]?=some s:=⟨_,List.getElem?_eq_getElem him⟩;obtain ⟨ao',co',e1,_,_,hco⟩:=Hslo6.out.parts;injection e1 with e1 e2 e3;subst e1;obtain ⟨bo,oo,rfl,hco1⟩:=hco k (.int .i64 i) (by unfold zjy;rw [List.getElem?_map,hi];rfl);obtain ⟨an',cn',f1,_,_,hcn⟩:=(zao Hq6.out.1).parts;injection f1 with f1 f2 f3;subst f1;obtain ⟨bn,on,rfl,hcn1⟩:=hcn i s.u (by unfold qwc;rw [List.getElem?_map,hs];rfl);have hso:=hEn.ownQ (Hq6.out.2 s (List.mem_of_getElem? hs));obtain ⟨as',cs,hsu,_,_,_⟩:=hso.rd.parts;rw [hsu] at hso hcn1;have c1:=hEn.cell hco1;have c2:=hEn.cell hcn1;obtain ⟨avn,cvn,rfl⟩:=zfj hqn.1;have hkx:(ord.take (k+1)).map getX=(ord.take k).map getX++[s.x]:=by
      obtain ⟨hl1,e⟩:=List.getElem?_eq_some_iff.1 hi;rw [List.take_succ_eq_append_getElem hl1,List.map_append,e,HgetX.out];simp [hs]
     have hnl:nts.length=k:=by
      have:=congrArg List.length hmn;rw [List.length_map,List.length_map,List.length_take,Hordl.out] at this;omega
     have q0:=hbn.c0;have q1:=hbn.c1;have hk0:(0:Int)≤(k:Int):=(by omega);have hk1:(k:Int)<(out.length:Int):=(by omega);have hi0:(0:Int)≤(i:Int):=(by omega);have hi1:(i:Int)<(out.length:Int):=(by omega);have hm3:k+1≤maxLen:=(by unfold maxLen;omega);have hm4:(k+1) * 24≤140737488355328:=(by omega);have hqo:=hqn.1;rw [hnl] at hqo q1;have hbk:=hbn;rw [hnl] at hbk;have Hbk:=hid hbk;have H6c:=hid hcn1;have hqk:=hqn;rw [hnl] at hqk;have Hqk:=hid hqk;clear hqk;clear hbk;have hbase:=hEn.size;have z1:=hbn.fz 1;generalize s.x.length=sl at *;have Hkx:=hid hkx;have Hbn:=hid hbn;have Hqn:=hid hqn;have Hmn:=hid hmn;have HEn:=hid hEn;have Hso:=hid hso;have Hnl:=hid hnl;have Hqo:=hid hqo;clear hkx hbn hqn hmn hEn hso hnl hqo hco hcn hco1 hcn1 hi hs him hsu f2 f3 e2 e3;go_wp2_with fail
     have q1a:=(((Ext.refl wr).drew).alloc (.cells #[.slice as' sl cs] 41)).cell q1;have q1b:=((Ext.refl wr).drew).cell q1;have hs2:w6.heap.size≤(wr.drew.alloc (.cells #[.slice as' sl cs] 41)).heap.size:=((HEn.out.drew).alloc _).size;have q1c:=((Ext.refl wr).alloc (.cells #[.slice as' sl cs] 41)).drew.cell q1;go_region_law (first
       | (refine step_append_lies _ rfl (.tmp 83) (.tmp 88) 26 rfl w6.heap.size 41 j0 (.slice none 0 0) 1 24 Tryz.underlying26 hj hy0 hy1 hy2 rfl (by decide) (.slice avn k cvn) k (qwc nts) (by simp [Act.eval]) ((((Ext.refl wr).drew).own Hqo.out).alloc _) ⟨wr.heap.size,0,none⟩ 1 1 [.slice as' sl cs] (by simp [Act.eval]) rfl (cell_one_new wr.drew _ _) (by simp [Value.oneCell']) (by decide) hm3 hm4 hs2 _ rfl ?_;intro g1 cc1 V1 hown1 hgrow1 hat1 hlt1;have HA:=hid ((HEn.out.drew.alloc _).grown hgrow1 fun k hk=>(World.ownsRow.lt ((((Ext.refl wr).drew).own Hqo.out).alloc (.cells #[.slice as' sl cs] 41)) k hk).1);have hbV:zic 28 V1 w6.heap.size (.slice a6 p.length c6) (.slice avn k cvn):=zga ((((Ext.refl wr).drew).alloc _).heap Hbk.out) ((((Ext.refl wr).drew).own Hqo.out).alloc (.cells #[.slice as' sl cs] 41)) (by decide) hgrow1;have d1:=hbV.c1;have e1:=hbV.fz 1;have Hown1:=hid hown1;have Hgrow1:=hid hgrow1;clear hown1 hgrow1 hat1 hlt1 hbV))
     all_goals
      have hR:=NtR.more (W6:=w6) (W:=wr.drew) (v7:=.slice (some ⟨g1,0,none⟩) (k+1) cc1) (Nat.le_refl _) (zic.ext ((Ext.refl wr).drew) Hbk.out) (((Ext.refl wr).drew).qwM Hqk.out) Hmn.out HEn.out.drew (((Ext.refl wr).drew).ownQ Hso.out) (by rw [Hnl.out];exact Hown1.out) Hgrow1.out;rw [← Hkx.out] at hR;have HR:=hid hR;clear hR d1 e1 q0 q1 q1a q1b q1c hs2 z1 c1 c2;generalize V1.setCell ⟨w6.heap.size,1,none⟩ (.slice (some ⟨g1,0,none⟩) (k+1) cc1)=V2 at *;go_wp2_with fail
      go_roundw
      case rel=>exact ⟨k+1,by go_num,by omega,HR.out⟩
      case measure=>simp [zam];omega
    ·have hkm2:k=out.length:=(by omega);have hnl:nts.length=k:=by
      have:=congrArg List.length hmn;rw [List.length_map,List.length_map,List.length_take,Hordl.out] at this;omega
     have hEwr:=HEw6.out.trans hEn;have hcq:=Hcq.out wr.drew hEwr.drew;obtain ⟨avn,cvn,rfl⟩:=zfj hqn.1;have hqk:=hqn;rw [hnl] at hqk;have hqo:=hqn.1;rw [hnl] at hqo;have hbk:=hbn;rw [hnl] at hbk;have q0:=hbk.c0;have q1:=hbk.c1;have q1d:=((Ext.refl wr).drew).cell q1;have hm3:k+1≤maxLen:=(by unfold maxLen;omega);have hm4:(k+1) * 24≤140737488355328:=(by omega);have Hcqd:=hid hcq;have Hqk:=hid hqk;have Hqo:=hid hqo;have Hbk:=hid hbk;have Hnl:=hid hnl;have HEn:=hid hEn;have Hmn:=hid hmn;have Hkm2:=hid hkm2;have HEwr:=hid hEwr;clear hcq hqk hqo hbk hnl hEn hmn hqn hbn hkm2 hEwr;go_wp2_with fail
     go_region_law (first
      | (go_simp;go_at_call 142;refine Hcqd.out.mono ?_;rintro e V1 ⟨u1,rfl,ho1,hx1⟩;obtain ⟨a1,cc0,rfl,_,_,_⟩:=ho1.rd.parts;have hbV:=(zic.ext ((Ext.refl wr).drew) Hbk.out).ext hx1;have r1:=hbV.c1;have r2:=((Ext.refl V1).alloc (.cells #[.slice a1 (ov (p.length - 1)).length cc0] 41)).cell r1;have Ho1:=hid (ho1.mono (Hx6.out.trans HEn.out.drew).size);have Hx1:=hid hx1;have HbV:=hid hbV;clear hx1 ho1 hbV)
      | (refine step_append_lies _ rfl (.tmp 93) (.tmp 96) 26 rfl w6.heap.size 41 j0 (.slice none 0 0) 1 24 Tryz.underlying26 hj hy0 hy1 hy2 rfl (by decide) (.slice avn k cvn) k (qwc nts) (by simp [Act.eval]) ((((Ext.refl wr).drew.trans Hx1.out).own Hqo.out).alloc _) ⟨V1.heap.size,0,none⟩ 1 1 [.slice a1 (ov (p.length - 1)).length cc0] (by simp [Act.eval]) rfl (cell_one_new V1 _ _) (by simp [Value.oneCell']) (by decide) hm3 hm4 ((HEn.out.drew.trans Hx1.out).alloc (.cells #[.slice a1 (ov (p.length - 1)).length cc0] 41)).size _ rfl ?_;intro g1 cc1 V2 hown1 hgrow1 hat1 hlt1;have hbV:zic 28 V2 w6.heap.size (.slice a6 p.length c6) (.slice avn k cvn):=zga (((Ext.refl V1).alloc _).heap HbV.out) ((((Ext.refl wr).drew.trans Hx1.out).own Hqo.out).alloc (.cells #[.slice a1 (ov (p.length - 1)).length cc0] 41)) (by decide) hgrow1;have d1:=hbV.c1;have e1:=hbV.fz 1;have HbV2:=hid hbV;have Hown1:=hid hown1;have Hgrow1:=hid hgrow1;clear hown1 hgrow1 hat1 hlt1 hbV))
     all_goals
      have hR:=NtR.more (W6:=w6) (W:=V1) (v7:=.slice (some ⟨g1,0,none⟩) (k+1) cc1) (Nat.le_refl _) HbV.out (((Ext.refl wr).drew.trans Hx1.out).qwM Hqk.out) Hmn.out (HEn.out.drew.trans Hx1.out) Ho1.out (by rw [Hnl.out];exact Hown1.out) Hgrow1.out;obtain ⟨vn,nt2,hb3,hq3,hm3',hE3⟩:=hR;have hd:=hb3.c1;have hsc:vn=.slice (some ⟨g1,0,none⟩) (k+1) cc1:=by
       have h2:=(HbV2.out.put1 (.slice (some ⟨g1,0,none⟩) (k+1) cc1)).c1;rw [hd] at h2;exact Option.some.inj h2
      subst hsc;have hE16:=Hx1w.out.trans (Hx6.out.trans hE3);have hK:K0 28 w (V2.setCell ⟨w6.heap.size,1,none⟩ (.slice (some ⟨g1,0,none⟩) (k+1) cc1)) w.heap.size:=⟨HE0.out.trans hE16,_,_,B0.out.ext hE16⟩;have hol:=Hpe.out.2.2;have ho3:=hE3.own Ho6.out;have hbr:=B0.out.ext hE16;have r0:=hb3.c0;have k0:=hK.res.c0;have k1:=hK.res.c1;have z0:=hK.res.fz 0;have z1:=hK.res.fz 1;have hfin:=hK.fin (Nat.le_refl _) (.slice a6 p.length c6) (.slice (some ⟨g1,0,none⟩) (k+1) cc1);have hq4:=(hq3.set hbr 0 (.slice a6 p.length c6)).set (zic.put0 hbr (.slice a6 p.length c6)) 1 (.slice (some ⟨g1,0,none⟩) (k+1) cc1);have ho4:=zgd (zic.put0 hbr (.slice a6 p.length c6)) (zgd hbr ho3 (by decide) 0 (.slice a6 p.length c6)) (by decide) 1 (.slice (some ⟨g1,0,none⟩) (k+1) cc1);have Hfin:=hid hfin;have Hq4:=hid hq4;have Ho4:=hid ho4;have Hm3:=hid hm3';clear hb3 hq3 hm3' hE3 hE16 hK ho3 hbr hfin hq4 ho4 q0 q1 q1d d1 e1;generalize V2.setCell ⟨w6.heap.size,1,none⟩ (.slice (some ⟨g1,0,none⟩) (k+1) cc1)=V3 at *;go_wp2_with fail
      obtain ⟨hb5,hx5⟩:=Hfin.out;have hd0:=hb5.c0;have hd1:=hb5.c1;have hown:w.heap.size≤w1.heap.size:=(HE0.out.trans Hx1w.out).size;have hown6:w.heap.size≤w6.heap.size:=HEw6.out.size;exact bodyPost_ret (v:=.tuple #[.agg #[.slice a6 p.length c6,.slice (some ⟨g1,0,none⟩) (k+1) cc1],.int .i64 0]) (by simp [results,Tryz.results141,go_sem,hd0,hd1]) rfl ⟨_,nt2,rfl,⟨_,_,rfl,Ho4.out,Hq4.out.mono hown hown6⟩,by
       rw [Hm3.out,List.take_of_length_le (by rw [Hordl.out,← Hkm2.out];exact Nat.le_refl _)];exact zkb HL.out Hperm.out Hsort.out Hfull.out HgetX.out,hx5⟩
def zkd (g:List Rat)(a:Int)(n:Nat):List (List Rat):=(List.range n).map fun (i:Nat)=>zey g ((a+(i:Int):Int):Rat)
theorem zke (g:List Rat)(a:Int)(n:Nat):zkd g a (n+1)=zkd g a n++[zey g ((a+(n:Int):Int):Rat)]:=by unfold zkd;rw [List.range_succ,List.map_append];rfl
theorem zkf (g:List Rat)(a:Int)(n:Nat):(zkd g a n).length=n:=by unfold zkd;simp
def QsR (W:World)(xs:List (List Rat))(v:Value)(wr:World):Prop:=∃ out:List Qw,QwM wr W.heap.size W.heap.size v out∧out.map Qw.x=xs∧Ext W wr
theorem QsR.more {W wr V:World}{v v7 u:Value}{x:List Rat}{out:List Qw}{xs:List (List Rat)}{o:Obj}(hE:Ext W wr)(hq:QwM wr W.heap.size W.heap.size v out)(hm:out.map Qw.x=xs)(ho:zfx wr W.heap.size u x)
  (hown:V.ownsRow W.heap.size 41 1 v7 (out.length+1) (qwc out++[u])) (hgrow:(wr.alloc o).grownBy V v.ownBlock):QsR W (xs++[x]) v7 V:=by
 have:=QwM.more (r:=⟨_,u,zf1 ho.rd⟩) hE hq ho hown hgrow;exact ⟨_,this.1,by rw [List.map_append,hm];rfl,this.2⟩
theorem zkg (vp vb vg:Value)(p:List Int)(c:Int)(g:List Rat)(a:Int)(n:Nat)(w:World)(he:Env w)(hp:Sl w vp (zaq p))(hb:Rd w vb (ov (p.length - 1)))(hg:Rd w vg g)(hgl:g.length=p.length)(hgf:∀ q∈g,Ft 30 q)(ha0:-1000≤a)(ha1:a≤0)(hn0:0≤a+(n:Int))(hn9:n<9)(hL:Lw p c (zkd g a (n+1))) :
  Calls Tryz.prog 82 #[.agg #[vp,vb,vg,.int .i64 a,.int .i64 (a+(n:Int))]] w fun e w'=>∃ v out,e=.returned (.tuple #[v,.int .i64 0])∧ScO w' w.heap.size v p out∧zjh p (zkd g a (n+1)) (out.map Qw.x)∧Ext w w':=by
 obtain ⟨j0,hj,hy0,hy1,hy2⟩:=info_parts zfz;have hpe:zfc p=0∧p.length≤100∧0<p.length:=by rcases hL.pr with ⟨e,_⟩ | ⟨e,_⟩ <;> rw [e] <;> decide
 have hck:=fun W (hE:Ext w W)=>zia vp vb p (p.length - 1) W (he.ext hE) (hE.sl hp) (hE.rd hb) hpe.1 (by have:=hL.pr;rwa [show p.length - 1+1=p.length by omega]);have hsc:=fun W (hE:Ext w W)=>zfH vp vg p g W (he.ext hE) (hE.sl hp) (hE.rd hg) hpe.1 hgl hgf;have hin:=fun (z:Int)(h0:-2000≤z)(h1:z≤2000) W (hE:Ext w W)=>zhQ z W (he.ext hE) (by omega) (by omega);have hmu:=fun (k:Nat)(hk:k<n+1)(z:Int)(hz:z=a+(k:Int)) W (hE:Ext w W)=>zhz vp vg p g ((z:Int):Rat) W (he.ext hE) (hE.sl hp) (hE.rd hg) hpe.1 hgl hgf ((zj7 (k:=5) (by show _<100000;omega) (by omega)).mono (by omega)) (fun q hq=>(hL.quick (zey g ((z:Int):Rat)) (by
  unfold zkd;rw [List.mem_map];exact ⟨k,List.mem_range.2 hk,by rw [hz]⟩)).1 q hq)
 have hcol:=fun W vl rs (hE:Ext w W)(hl:RdM W vl rs)(hx:rs.map Qw.x=zkd g a (n+1))=>zkc vp vb vl p c rs W (he.ext hE) (hE.sl hp) (hE.rd hb) hl (by rw [hx];exact hL) (by have:=congrArg List.length hx;rw [List.length_map,zkf] at this;omega);obtain ⟨ap,cp,rfl,_,_,_⟩:=hp.parts;obtain ⟨ab,cb,rfl,_,_,_⟩:=hb.parts;obtain ⟨ag,cg,rfl,_,_,_⟩:=hg.parts;have hovl:(ov (p.length - 1)).length=p.length:=by rw [zhJ];omega
 rw [zas] at *;simp only [hovl,hgl] at hck hsc hmu hcol ⊢;obtain ⟨tz,htz⟩:∃ tz,tz=a+(n:Int):=⟨_,rfl⟩;rw [← htz];have hE0:Ext w ((w.alloc (.cells #[.slice ap p.length cp,.slice ab p.length cb,.slice ag p.length cg,.int .i64 a,.int .i64 tz] 141)).alloc (.cells #[.slice none 0 0,.slice none 0 0] 28)):=((Ext.refl w).alloc _).alloc _;have b1:((w.alloc (.cells #[.slice ap p.length cp,.slice ab p.length cb,.slice ag p.length cg,.int .i64 a,.int .i64 tz] 141)).alloc (.cells #[.slice none 0 0,.slice none 0 0] 28)).heap[w.heap.size]?=some (.cells #[.slice ap p.length cp,.slice ab p.length cb,.slice ag p.length cg,.int .i64 a,.int .i64 tz] 141 (0,0)):=((Ext.refl _).alloc _).heap (World.alloc_heap_new w _);have b2:=zic.new 28 (w.alloc (.cells #[.slice ap p.length cp,.slice ab p.length cb,.slice ag p.length cg,.int .i64 a,.int .i64 tz] 141)) (.slice none 0 0) (.slice none 0 0);rw [World.size_alloc] at b2;have hbox:∀ W,Ext ((w.alloc (.cells #[.slice ap p.length cp,.slice ab p.length cb,.slice ag p.length cg,.int .i64 a,.int .i64 tz] 141)).alloc (.cells #[.slice none 0 0,.slice none 0 0] 28)) W→W.cell? ⟨w.heap.size,0,none⟩=some (.slice ap p.length cp)∧W.cell? ⟨w.heap.size,1,none⟩=some (.slice ab p.length cb)∧W.cell? ⟨w.heap.size,2,none⟩=some (.slice ag p.length cg)∧W.cell? ⟨w.heap.size,3,none⟩=some (.int .i64 a)∧W.cell? ⟨w.heap.size,4,none⟩=some (.int .i64 tz):=fun W hE=>by
  have hb:=hE.heap b1;unfold World.cell?;dsimp only;rw [hb];exact ⟨rfl,rfl,rfl,rfl,rfl⟩
 have htz0:0≤tz:=by omega
 have htz1:tz≤1000:=by omega
 have Hck:=hid hck;have Hsc:=hid hsc;have Hin:=hid hin;have Hmu:=hid hmu;have Hcol:=hid hcol;have HE0:=hid hE0;have B2:=hid b2;have Hbox:=hid hbox;have Htz:=hid htz;clear hp hb hg hgl hgf he hL hpe hck hsc hin hmu hcol hE0 b1 b2 hbox hovl htz;go_enter Tryz.func82,Tryz.ntmps82
 obtain ⟨q0,q1,q2,q3,q4⟩:=Hbox.out _ (Ext.refl _);go_wp2_with fail
 refine (Hck.out _ HE0.out).mono ?_;rintro e w1 ⟨rfl,hx1⟩;obtain ⟨q0,q1,q2,q3,q4⟩:=Hbox.out w1 hx1;have Hx1:=hid hx1;clear hx1;go_wp2_with fail
 refine (Hsc.out _ (HE0.out.trans Hx1.out)).mono ?_;rintro e w2 ⟨rfl,hx2⟩;have Hx2:=hid (Hx1.out.trans hx2);obtain ⟨q0,q1,q2,q3,q4⟩:=Hbox.out w2 Hx2.out;clear hx2;have t1:¬ a < -1000:=by omega
 have t2:¬ 0<a:=by omega
 have t3:¬ tz<0:=by omega
 have t4:¬ 1000<tz:=by omega
 go_wp2_with fail
 go_loopw [6,7,8,9] (fun v6 v7 v8 v9 wr=>∃ (k:Nat)(z:Int),v7=.int .i64 z∧z=a+(k:Int)∧k≤n+1∧QsR w2 (zkd g a k) v6 wr) (fun _ v7 _ _ _=>(tz+1 - zam v7).toNat)
 case atStart=>exact ⟨0,a,rfl,by omega,Nat.zero_le _,[],QwM.nil _ _ _,rfl,Ext.refl _⟩
 case round =>
  clear q0 q1 q2 q3 q4;obtain ⟨k,z,rfl,hz,hk,⟨out,hq,hm,hE⟩⟩:=hrel;have htz:=Htz.out;have hol:out.length=k:=by
   have:=congrArg List.length hm;rwa [List.length_map,zkf] at this
  obtain ⟨a6,c6,rfl⟩:=zfj hq.1;have hEw:=(HE0.out.trans Hx2.out).trans hE;obtain ⟨q0,q1,q2,q3,q4⟩:=Hbox.out wr (Hx2.out.trans hE);by_cases hkn:k<n+1
  ·have hzt:z≤tz:=(by omega);have hmk:=fun W (hx:Ext wr W)=>Hmu.out k hkn z hz W (hEw.trans hx);have hik:=fun W (hx:Ext wr W)=>Hin.out z (by omega) (by omega) W (hEw.trans hx);have Hmk:=hid hmk;have Hik:=hid hik;have Hq:=hid hq;have Hm:=hid hm;have HE:=hid hE;have Hol:=hid hol;have Hz:=hid hz;have hqo:=hq.1;rw [hol] at hqo ⊢;have Hqo:=hid hqo;have hzb:-1000≤z∧z≤1000:=(by omega);have hm3:k+1≤maxLen:=(by unfold maxLen;omega);have hm4:(k+1) * 24≤140737488355328:=(by omega);clear hmk hik hq hm hE hz hEw hol hqo htz;go_wp2_with fail
   go_region_held3 (fun w'=>Ext wr w'∧w'.cell? ⟨w.heap.size,0,none⟩=some (.slice ap p.length cp)∧w'.cell? ⟨w.heap.size,2,none⟩=some (.slice ag p.length cg))
    (first | (with_reducible assumption) | exact ⟨(Ext.refl wr).drew,q0,q2⟩)
    (first
     | (go_at_call 94;refine (Hik.out _ (And.left (by assumption))).mono ?_;rintro e9 VA ⟨rfl,hxa⟩;have hEA:=((Ext.refl wr).drew).trans hxa;have hS2:Ext wr VA∧VA.cell? ⟨w.heap.size,0,none⟩=some (.slice ap p.length cp)∧VA.cell? ⟨w.heap.size,2,none⟩=some (.slice ag p.length cg):=⟨hEA,hEA.cell q0,hEA.cell q2⟩;have HEA:=hid hEA;clear hxa hEA)
     | (go_at_call 60;refine (Hmk.out _ HEA.out).mono ?_;rintro e9 VB ⟨g2,rfl,ho2,hxa⟩;have hEB:=HEA.out.trans hxa;have hS3:Ext wr VB∧VB.cell? ⟨w.heap.size,0,none⟩=some (.slice ap p.length cp)∧VB.cell? ⟨w.heap.size,2,none⟩=some (.slice ag p.length cg):=⟨hEB,hEB.cell q0,hEB.cell q2⟩;have HEB:=hid hEB;have Ho2:=hid (ho2.mono (HE.out.trans HEA.out).size);clear hxa hEB ho2 hS2))
   all_goals
    clear hS3 q0 q1 q2 q3 q4;have hq3:=HEB.out.qwM Hq.out;have hqo:=HEB.out.own Hqo.out;have hE3:=HE.out.trans HEB.out;have hbase:=hE3.size;have Hq3:=hid hq3;have HE3:=hid hE3;clear hq3 hE3;go_wp2_with (at_builtin;refine wpList_append_own _ rfl _ _ 26 rfl w2.heap.size 41 j0 (.slice none 0 0) 1 24 Tryz.underlying26 hj hy0 hy1 hy2 rfl (by decide) _ _ _ rfl (hqo.alloc _) ⟨VB.heap.size,0,none⟩ 1 1 [.slice (some ⟨g2,0,none⟩) p.length p.length] rfl rfl (cell_one_new _ _ _) (by simp [Value.oneCell']) hm3 hm4 (by rw [World.size_alloc];omega) ?_;intro v7 V7 hown7 hgrow7 _)
    go_roundw
    case rel=>exact ⟨k+1,z+1,by go_num,by have:=Hz.out;omega,by omega,by rw [zke];exact QsR.more HE3.out Hq3.out Hm.out (by rw [← Hz.out];exact Ho2.out) (by rw [Hol.out];exact hown7) (by rw [Hol.out];exact hgrow7)⟩
    case measure=>simp [zam];omega
  ·have hkn2:k=n+1:=(by omega);have hzt:¬ z≤tz:=(by omega);subst hkn2;have hco:=Hcol.out wr (.slice a6 out.length c6) out hEw hq.rd hm;have hB2:=B2.out.ext (Hx2.out.trans hE);have Hm:=hid hm;have Hco:=hid hco;have HB2:=hid hB2;have HEw:=hid hEw;have HEb:=hid (Hx2.out.trans hE);clear hco hB2 hEw hq hm hE hz hol htz;go_wp2_with fail
   refine Hco.out.mono ?_;rintro e w5 ⟨v5,out5,rfl,hsc5,hcl5,hx5⟩;obtain ⟨vp5,vn5,rfl,hop5,hqn5⟩:=hsc5;obtain ⟨a7,c7,rfl⟩:=zfj hop5;obtain ⟨a8,c8,rfl⟩:=zfj hqn5.1;have hE15:=HEb.out.trans hx5;have hbr:=B2.out.ext hE15;have hlo:=HEw.out.size;have hK:K0 28 w w5 (w.heap.size+1):=⟨HE0.out.trans hE15,_,_,hbr⟩;have k0:=hK.res.c0;have k1:=hK.res.c1;have z0:=hK.res.fz 0;have z1:=hK.res.fz 1;have hfin:=hK.fin (by omega) (.slice a7 p.length c7) (.slice a8 out5.length c8);have hq4:=(hqn5.set hbr 0 (.slice a7 p.length c7)).set (zic.put0 hbr (.slice a7 p.length c7)) 1 (.slice a8 out5.length c8);have ho4:=zgd (zic.put0 hbr (.slice a7 p.length c7)) (zgd hbr hop5 (by decide) 0 (.slice a7 p.length c7)) (by decide) 1 (.slice a8 out5.length c8);have Hfin:=hid hfin;have Hq4:=hid hq4;have Ho4:=hid ho4;have Hcl5:=hid hcl5;clear hfin hq4 ho4 hcl5 hK hbr hE15 hop5 hqn5 hx5 q0 q1 q2 q3 q4;go_wp2_with fail
   obtain ⟨hb5,hx5⟩:=Hfin.out;have hd0:=hb5.c0;have hd1:=hb5.c1;exact bodyPost_ret (v:=.tuple #[.agg #[.slice a7 p.length c7,.slice a8 out5.length c8],.int .i64 0]) (by simp [results,Tryz.results82,go_sem,hd0,hd1]) rfl ⟨_,out5,rfl,⟨_,_,rfl,zan Ho4.out hlo,Hq4.out.mono hlo hlo⟩,by rw [← Hm.out];exact Hcl5.out,hx5⟩
def zkh (l:List Int):List Rat:=l.map fun (z:Int)=>(z:Rat)
theorem zki (l:List Int):(zkh l).length=l.length:=by unfold zkh;simp
theorem zkj {l:List Int}{k:Nat}{z:Int}(h:l[k]?=some z):(zkh l).take (k+1)=(zkh l).take k++[(z:Rat)]:=by
 have h2:(zkh l)[k]?=some (z:Rat):=by unfold zkh;rw [List.getElem?_map,h];rfl
 obtain ⟨hk,e⟩:=List.getElem?_eq_some_iff.1 h2;rw [List.take_succ_eq_append_getElem hk,e]
theorem zkk (v:Value)(l:List Int)(w:World)(he:Env w)(hv:Sl w v (zaq l))(hl9:l.length≤1000)(hl:∀ z∈l,z.natAbs<1000000000) :
  Calls Tryz.prog 83 #[v] w fun e w'=>∃ u,e=.returned u∧zfx w' w.heap.size u (zkh l)∧Ext w w':=by
 obtain ⟨i0,hi,hz0,hz1,hz2⟩:=info_parts zfy;have hof:=fun (z:Int)(h:z∈l) W (hE:Ext w W)=>zjY z 1 W (he.ext hE) (hl z h) (by decide) (by decide);obtain ⟨a,c,rfl,_,_,hc⟩:=hv.parts;have hnx:∀ k,k<l.length→∃ z,l[k]?=some z∧z∈l:=fun k hk=>⟨_,List.getElem?_eq_getElem hk,List.getElem_mem _⟩;have hcell:∀ k z,l[k]?=some z→∃ b off,a=some ⟨b,off,none⟩∧w.cell? ⟨b,off+k,none⟩=some (.int .i64 z):=fun k z h=>hc k _ (by unfold zaq;rw [List.getElem?_map,h];rfl);have hrl:=zki l;rw [zas];generalize hn:l.length=n at *;have Hof:=hid hof;have Hnx:=hid hnx;have Hcell:=hid hcell;have Hrl:=hid hrl;clear hv hc he hl hof hnx hcell hrl hn;go_enter Tryz.func83,Tryz.ntmps83
 go_wp2_with fail
 go_loopw [3,5,8] (fun v3 v5 v8 wr=>∃ k:Nat,v8=.int .i64 k∧k≤n∧wr.ownsRow w.heap.size 65 2 v3 k (rcs ((zkh l).take k))∧Hid (Ext w wr)) (fun _ _ v8 _=>n - (zam v8).toNat)
 case atStart=>exact ⟨0,rfl,Nat.zero_le _,World.ownsRow_nil w _ _ 2,hid (Ext.refl _)⟩
 case round =>
  obtain ⟨k,rfl,hk,ho,HE⟩:=hrel;obtain ⟨a5,c5,rfl⟩:=zfj ho;by_cases hkn:k<n
  ·obtain ⟨z,hz,hzm⟩:=Hnx.out k hkn;obtain ⟨b,off,rfl,h0⟩:=Hcell.out k z hz;have htk:=zkj hz;have hcl:=fun W (hE:Ext w W)=>Hof.out z hzm W hE;rw [show mkRat z 1=(z:Rat) from Rat.mkRat_one z] at hcl;unfold Rv at hcl;generalize hs1:I ((z:Rat)).num=s1 at *;generalize hs2:I ((((z:Rat)).den:Nat):Int)=s2 at *;have hrn:rcs ((zkh l).take (k+1))=rcs ((zkh l).take k)++[.string s1,.string s2]:=(by rw [htk,zfu,hs1,hs2]);have Hrn:=hid hrn;clear hrn hs1 hs2 htk;have hk0:(0:Int)≤(k:Int):=(by omega);have hk1:(k:Int)<(n:Int):=(by omega);have c0:=HE.out.cell h0;have hm3:k+1≤maxLen:=(by unfold maxLen;omega);have hm4:(k+1) * 32≤140737488355328:=(by omega);have Hcl:=hid hcl;have Ho:=hid ho;clear hcl ho h0 hz hzm;go_wp2_with fail
   refine (Hcl.out wr HE.out).mono ?_;rintro e VA ⟨rfl,hxa⟩;have HEA:=hid (HE.out.trans hxa);have hoA:=hxa.own Ho.out;have hbase:=HEA.out.size;clear hxa c0;go_wp2_with (at_builtin;refine wpList_append_own _ rfl _ _ 41 rfl w.heap.size 65 i0 (.agg #[.string ByteArray.empty,.string ByteArray.empty]) 2 32 Tryz.underlying41 hi hz0 hz1 hz2 rfl (by decide) _ _ _ rfl (hoA.alloc _) ⟨VA.heap.size,0,none⟩ 1 1 [.string s1,.string s2] rfl rfl (zjZ VA _ _ _) (by simp [Value.oneCell']) hm3 hm4 (by rw [World.size_alloc];omega) ?_;intro v7 V7 hown7 hgrow7 _)
   go_roundw
   case rel=>exact ⟨k+1,by go_num,by omega,by rw [Hrn.out];exact hown7,hid ((HEA.out.alloc _).grown hgrow7 fun j hj=>(World.ownsRow.lt (hoA.alloc (.cells #[.string s1,.string s2] 65)) j hj).1)⟩
   case measure=>simp [zam];omega
  ·obtain rfl:n=k:=by omega
   rw [List.take_of_length_le (by rw [Hrl.out];exact Nat.le_refl _)] at ho;have Ho:=hid ho;clear ho;go_wp2
   go_ret
   exact ⟨_,rfl,by unfold zfx;rw [Hrl.out];exact Ho.out,HE.out⟩
end Go.Proofs.YtebabancfnmfjaaGreatDoor
