/- Walk: law 31's collect of at most nine sizes. Walks: law 31's Size of a world's numbers. Walks: law 31's multiples and primes. Plain: the sizes of a world are sizes that a scale is made of. -/
import Derived.Test.YtbkfhacmekbniaaGreatDoorPa22
import Derived.Test.YtbkfhacmekbniaaGreatDoorPa20
import Derived.Test.YtbkfhacmekbniaaGreatDoorPa21
set_option maxRecDepth 100000
set_option maxHeartbeats 800000
namespace Go.Proofs.YtbkfhacmekbniaaGreatDoor
open Go.RowKit Go.Lib Go.Shelf
attribute [local go_sem] Oper.semAt_some
theorem zkQ {w:World}{v:Value}{x:List Rat}{n:Nat}(h:Rd w v x)(hn:x.length=n):∃ a c,v=.slice a n c∧Rd w (.slice a n c) x:=by
 obtain ⟨a,c,rfl,_,_,_⟩:=h.parts;rw [hn] at *;exact ⟨a,c,rfl,h⟩
def LcR (W:World)(vb:Value)(o:List Rat)(p:List Int)(l:List (List Rat))(k:Nat)(v:Value)(wr:World):Prop:=∃ out:List Qw,wr.ownsRow W.heap.size 32 1 v (out.length+1) (vb::qwc out)∧(∀ r∈out,zf6 wr W.heap.size r.u r.x)∧o::out.map Qw.x=zjK p [o] (l.take k)∧out.length≤k∧Ext W wr
theorem LcR.skip {W wr w':World}{vb:Value}{o:List Rat}{p:List Int}{l:List (List Rat)}{k:Nat}{v:Value}{x:List Rat}{out:List Qw}(hq:wr.ownsRow W.heap.size 32 1 v (out.length+1) (vb::qwc out))(he:∀ r∈out,zf6 wr W.heap.size r.u r.x)(hm:o::out.map Qw.x=zjK p [o] (l.take k))(hl:out.length≤k)(hE:Ext W wr)(hx:Ext wr w')(hr:l[k]?=some x)(hs:rst p x=zer p.length∨rst p x∈o::out.map Qw.x):LcR W vb o p l (k+1) v w' :=
 ⟨out,hx.own hq,fun r hr=>hx.ownQ (he r hr),by rw [zjM hr,zjJ,if_pos (by rw [← hm];exact hs)];exact hm,by omega,hE.trans hx⟩
theorem LcR.more {W wr V:World}{vb:Value}{o:List Rat}{p:List Int}{l:List (List Rat)}{k:Nat}{v v7 u:Value}{x:List Rat}{out:List Qw}{ob:Obj}(hE:Ext W wr)(hq:wr.ownsRow W.heap.size 32 1 v (out.length+1) (vb::qwc out))(he:∀ r∈out,zf6 wr W.heap.size r.u r.x)(hm:o::out.map Qw.x=zjK p [o] (l.take k))(hl:out.length≤k)(hr:l[k]?=some x)(hs:¬ (rst p x=zer p.length∨rst p x∈o::out.map Qw.x))(ho:zf6 wr W.heap.size u (rst p x))
  (hown:V.ownsRow W.heap.size 32 1 v7 (out.length+1+1) ((vb::qwc out)++[u])) (hgrow:(wr.alloc ob).grownBy V v.ownBlock):LcR W vb o p l (k+1) v7 V:=by
 have hal:=World.ownsRow.alloc hq ob;have hkeep:∀ s:Qw,zf6 wr W.heap.size s.u s.x→zf6 V W.heap.size s.u s.x:=fun s hs=>World.ownsRow.kept (World.ownsRow.alloc hs ob) hgrow (zem (World.ownsRow.alloc hs ob) hal (by decide));refine ⟨out++[⟨rst p x,u,zfA ho.rd⟩],?_,fun s hs=>?_,?_,by rw [List.length_append];simp;omega,(hE.alloc ob).grown hgrow fun k hk=>(World.ownsRow.lt hal k hk).1⟩
 ·rw [List.length_append,List.length_singleton,zkn];exact hown
 ·rcases List.mem_append.1 hs with g | g
  ·exact hkeep s (he s g)
  ·rw [List.mem_singleton] at g;subst g;exact hkeep ⟨rst p x,u,zfA ho.rd⟩ ho
 ·rw [zjM hr,zjJ,if_neg (by rw [← hm];exact hs),List.map_append,← List.cons_append,hm];rfl
theorem zkR (vp vb vl:Value)(p:List Int)(c:Int)(rs:List Qw)(w:World)(he:Env w)(hp:Sl w vp (zak p))(hb:Rd w vb (ov (p.length - 1)))(hl:RdM w vl rs)(hL:Lw p c (rs.map Qw.x))(hc3:c≤500)(hn9:rs.length≤9) :
  Calls Tryz.prog 12 #[vp,vb,vl] w fun e w'=>∃ vn out,e=.returned (.agg #[vp,vn])∧w'.ownsRow w.heap.size 32 1 vn out.length (qwc out)∧(∀ r∈out,(r.u=vb∧r.x=ov (p.length - 1))∨zf6 w' w.heap.size r.u r.x)∧zjT p (rs.map Qw.x) (out.map Qw.x)∧Ext w w':=by
 obtain ⟨j0,hj,hy0,hy1,hy2⟩:=info_parts zf8;have hpe:zee p=0∧p.length≤100∧0<p.length:=by rcases hL.pr with ⟨e,_⟩ | ⟨e,_⟩ <;> rw [e] <;> decide
 have hred:=fun (r:Qw)(hr:r∈rs) W (hE:Ext w W)=>zkK vp vb r.u p c (rs.map Qw.x) r.x W (he.ext hE) (hE.sl hp) (hE.rd hb) (hE.rd (hl.2 r hr)) hL hc3 (List.mem_map_of_mem hr);have hrl:∀ r∈rs,(rst p r.x).length=p.length:=fun r hr=>by unfold rst;rw [zj5];exact hL.len _ (List.mem_map_of_mem hr)
 have hle:=fun (r:Qw)(hr:r∈rs) W va (hE:Ext w W)(ha:Rd W va (rst p r.x))=>zhe va va (rst p r.x) (rst p r.x) W (he.ext hE) ha ha rfl (by rw [hrl r hr];omega) (hL.snr (List.mem_map_of_mem hr)) (hL.snr (List.mem_map_of_mem hr));have heq:=fun W va vb x y (ha:Rd W va x)(hb:Rd W vb y)(hx:x.length=p.length)(hy:y.length=p.length)=>zkk va vb x y W ha hb (by omega) (by omega);have hovl:(ov (p.length - 1)).length=p.length:=by rw [ziF];omega
 have hcon:=fun W bx va x v (out:List Qw)(hu:vb.oneCell'=true)(hE:Ext w W)(h0:W.cell? ⟨bx,0,none⟩=some va)(ha:Rd W va x)(hx:x.length=p.length)(hv:Sl W v (vb::qwc out))(hr:∀ r∈out,Rd W r.u r.x)(ho:out.length≤9)(hol:∀ r∈out,r.x.length=p.length)=>zkv 44 #[.pointer (some ⟨bx,0,none⟩)] v (⟨ov (p.length - 1),vb,hu⟩::out) (fun y=>decide (x=y)) W hv (by rw [List.length_cons];omega) zkN (fun W2 hE2 r hr2=>by
  rcases List.mem_cons.1 hr2 with e | e
  ·subst e;exact zkM va vb x (ov (p.length - 1)) bx W2 (hE2.cell h0) (hE2.rd ha) ((hE.trans hE2).rd hb) (by omega) (by omega)
  ·exact zkM va r.u x r.x bx W2 (hE2.cell h0) (hE2.rd ha) (hE2.rd (hr r e)) (by omega) (by have:=hol r e;omega))
 have hone:=fun (r:Qw)(hr:r∈rs)=>(hl.2 r hr).parts;have hlen:=fun (r:Qw)(hr:r∈rs)=>hL.len _ (List.mem_map_of_mem (f:=Qw.x) hr);have hub:=zfA hb;obtain ⟨ap,cp,rfl,_,_,_⟩:=hp.parts;obtain ⟨ab,cb,rfl,_,_,_⟩:=hb.parts;obtain ⟨al,cl,rfl,_,_,hc⟩:=hl.1.parts;rw [zam] at *;rw [zf9] at *;simp only [hovl] at hred hb hcon hub ⊢;generalize hn:rs.length=n at *;have Hn:=hid hn;obtain ⟨W2,hW2⟩:∃ W2,W2=(w.alloc (.cells #[.slice ap p.length cp] 29)).alloc (.cells #[.slice none 0 0,.slice none 0 0] 36):=⟨_,rfl⟩;have hE0:Ext w W2:=by rw [hW2];exact ((Ext.refl w).alloc _).alloc _
 have hsz:W2.heap.size=w.heap.size+1+1:=by rw [hW2,World.size_alloc,World.size_alloc]
 have b0:zdV 36 W2 (w.heap.size+1) (.slice none 0 0) (.slice none 0 0):=by
  have:=zdV.new 36 (w.alloc (.cells #[.slice ap p.length cp] 29)) (.slice none 0 0) (.slice none 0 0);rw [World.size_alloc] at this;rw [hW2];exact this
 have b1:W2.heap[w.heap.size]?=some (.cells #[.slice ap p.length cp] 29 (0,0)):=by
  rw [hW2];exact ((Ext.refl _).alloc _).heap (World.alloc_heap_new w _)
 have cell1:∀ (W:World)(b:Nat)(x:Value)(t:TypeId),W.heap[b]?=some (.cells #[x] t (0,0))→W.cell? ⟨b,0,none⟩=some x:=fun W b x t h=>by unfold World.cell?;dsimp only;rw [h];rfl
 have hown0:(W2.alloc (.cells #[.slice ab p.length cb] 32)).ownsRow W2.heap.size 32 1 (.slice (some ⟨W2.heap.size,0,none⟩) 1 1) 1 [.slice ab p.length cb] :=
  ⟨rfl,.inr ⟨W2.heap.size,1,#[.slice ab p.length cb],rfl,Nat.le_refl _,World.alloc_heap_new W2 _,Nat.le_refl _,by unfold maxLen;omega,rfl,rfl⟩⟩
 rw [hsz] at hown0;have hbox:∀ W,Ext W2 W→W.cell? ⟨w.heap.size,0,none⟩=some (.slice ap p.length cp):=fun W hE=>cell1 _ _ _ _ (hE.heap b1);have Hp:=hid hp;have Hb:=hid hb;have Hl:=hid hl;have HL:=hid hL;have He:=hid he;have Hpe:=hid hpe;have Hred:=hid hred;have Hrl:=hid hrl;have Heq:=hid heq;have Hcon:=hid hcon;have Hone:=hid hone;have Hlen:=hid hlen;have Hc:=hid hc;have HE0:=hid hE0;have B0:=hid b0;have Hle:=hid hle;have Hbox:=hid hbox;have Hown0:=hid hown0;have B1:=hid b1;have Cell1:=hid cell1;have Hsz:=hid hsz;have Hub:=hid hub;clear hp hb hl hL he hpe hred hrl heq hcon hone hlen hc hE0 b0 hn hle hbox hown0 b1 cell1 hsz hub;go_enter Tryz.func12,Tryz.ntmps12
 go_wp2_with fail
 rw [← hW2];clear hW2;go_loopw [7,9,10,11,16] (fun v7 v9 v10 v11 v16 wr=>∃ k:Nat,v16=.int .i64 k∧k≤n∧LcR W2 (.slice ab p.length cb) (ov (p.length - 1)) p (rs.map Qw.x) k v7 wr) (fun _ _ _ _ v16 _=>n - (zag v16).toNat)
 case atStart=>exact ⟨0,rfl,Nat.zero_le _,[],by rw [Hsz.out];exact Hown0.out,fun r h=>by simp at h,rfl,Nat.le_refl _,(Ext.refl W2).alloc _⟩
 case round =>
  obtain ⟨k,rfl,hk,⟨out,hq,hoe,hmq,hlq,hE⟩⟩:=hrel;obtain ⟨a10,c10,rfl⟩:=zel hq;have hEw:=HE0.out.trans hE;have hcp:=Hbox.out wr hE;by_cases hkn:k<n
  ·obtain ⟨r,hr⟩:∃ r,rs[k]?=some r:=⟨_,List.getElem?_eq_getElem (by rw [Hn.out];exact hkn)⟩;have hmem:=List.mem_of_getElem? hr;obtain ⟨b,off,rfl,hc0⟩:=Hc.out k r.u (by unfold qwc;rw [List.getElem?_map,hr];rfl);obtain ⟨ar,cr,hru,_,_,_⟩:=Hone.out r hmem;have hcu:=hEw.cell hc0;have hrl:r.x.length=p.length:=Hlen.out r hmem;rw [hru,hrl] at hcu;have hrd:=Hred.out r hmem wr hEw;rw [hru,hrl] at hrd;have hrrl:=Hrl.out r hmem;have hrx:(rs.map Qw.x)[k]?=some r.x:=(by rw [List.getElem?_map,hr];rfl);have hlle:=fun W va (hE:Ext w W)(ha:Rd W va (rst p r.x))=>(show Calls Tryz.prog 25 #[va,va] W fun e w'=>∃ u,e=.returned u∧zf6 w' W.heap.size u (zer p.length)∧Ext W w' from by
    have:=Hle.out r hmem W va hE ha;rw [zj3,hrrl] at this;exact this)
   have hol:∀ s∈out,s.x.length=p.length:=fun s hs=>by
    have h1:=List.mem_map_of_mem (f:=Qw.x) hs;have h2:s.x∈ov (p.length - 1)::out.map Qw.x:=List.mem_cons_of_mem _ h1;rw [hmq] at h2;rcases (zjO _ _ _).1 h2 with e | ⟨_,z,hz,e⟩
    ·rw [List.mem_singleton] at e;rw [e,ziF];have:=Hpe.out.2.2;omega
    ·rw [e];unfold rst;rw [zj5];exact HL.out.len z (List.mem_of_mem_take hz)
   have hk0:(0:Int)≤(k:Int):=(by omega);have hk1:(k:Int)<(n:Int):=(by omega);have Hrd:=hid hrd;have Hrrl:=hid hrrl;have Hrx:=hid hrx;have Hol:=hid hol;have Hq:=hid hq;have Hoe:=hid hoe;have Hmq:=hid hmq;have Hlq:=hid hlq;have HE:=hid hE;have HEw:=hid hEw;have Hlle:=hid hlle;clear hrd hrrl hrx hol hq hoe hmq hE hEw hrl hru hc0 hmem hr hlle;go_wp2_with fail
   refine Hrd.out.mono ?_;rintro e w3 ⟨u3,s3,rfl,ho3,hx3⟩;obtain ⟨a3,c3,rfl,hr3⟩:=zkQ ho3.rd Hrrl.out;clear hr3;have hbx:(w3.alloc (.cells #[.slice a3 p.length c3] 32)).cell? ⟨w3.heap.size,0,none⟩=some (.slice a3 p.length c3):=(by unfold World.cell?;rw [World.alloc_heap_new w3 _];rfl);have hE4:Ext wr (w3.alloc (.cells #[.slice a3 p.length c3] 32)):=hx3.alloc _;have ho4:zf6 (w3.alloc (.cells #[.slice a3 p.length c3] 32)) W2.heap.size (.slice a3 p.length c3) (rst p r.x):=(((Ext.refl w3).alloc _).ownQ ho3).mono HE.out.size;have Hbx:=hid hbx;have Ho4:=hid ho4;have HE4:=hid hE4;clear hx3 ho3 hE4 hcu hcp ho4;go_wp2_with fail
   generalize hW4:w3.alloc (.cells #[.slice a3 p.length c3] 32)=W4 at *;have H40:Hid (Ext W4 W4):=hid (Ext.refl W4);have q1:=Hbx.out;by_cases hzr:rst p r.x=zer p.length
   ·have heqz:=fun W vz (ha:Rd W (.slice a3 p.length c3) (rst p r.x))(hb:Rd W vz (zer p.length))=>(show Calls Tryz.prog 23 #[.slice a3 p.length c3,vz] W fun e w'=>e=.returned (.bool true)∧Ext W w' from by
     have:=Heq.out W _ vz _ _ ha hb Hrrl.out (zj0 _);rwa [decide_eq_true hzr] at this)
    have Hzr:=hid hzr;clear hzr;have q1d:=H40.out.drew.cell Hbx.out
    first | (go_region_law (first
     | (go_simp;have hpv:=HA;clear hpv;go_at_call 23;refine (heqz VA _ (Ext.rd HA.out Ho4.out.rd) HzA.out).mono ?_;rintro e9 VB ⟨rfl,hxb⟩;have HB:=hid (HA.out.trans hxb);have hcB:=HB.out.cell Hbx.out;clear hxb)
     | (go_simp;go_at_call 25;refine (Hlle.out _ _ (HEw.out.trans HE4.out.drew) (Ext.rd H40.out.drew Ho4.out.rd)).mono ?_;rintro e9 VA ⟨uA,rfl,hoA,hxa⟩;obtain ⟨aA,cA,rfl,hzA⟩:=zkQ hoA.rd (zj0 _);have HA:=hid (H40.out.drew.trans hxa);have HzA:=hid hzA;have hcA:=HA.out.cell Hbx.out;clear hxa hoA hzA))) | fail
    all_goals
     clear q1;go_wp2_with fail
     go_roundw
     case rel=>exact ⟨k+1,by go_num,by omega,LcR.skip Hq.out Hoe.out Hmq.out Hlq.out HE.out (HE4.out.trans HB.out) Hrx.out (.inl Hzr.out)⟩
     case measure=>simp [zag];omega
   ·have heqz:=fun W vz (ha:Rd W (.slice a3 p.length c3) (rst p r.x))(hb:Rd W vz (zer p.length))=>(show Calls Tryz.prog 23 #[.slice a3 p.length c3,vz] W fun e w'=>e=.returned (.bool false)∧Ext W w' from by
     have:=Heq.out W _ vz _ _ ha hb Hrrl.out (zj0 _);rwa [decide_eq_false hzr] at this)
    have hany:∀ (ub:Value)(hu:ub.oneCell'=true),((⟨ov (p.length - 1),ub,hu⟩::out:List Qw).any fun y=>decide (rst p r.x=y.x))=decide (rst p r.x∈ov (p.length - 1)::out.map Qw.x):=fun ub hu=>by
     rw [Bool.eq_iff_iff,List.any_eq_true,decide_eq_true_eq,List.mem_cons,List.mem_map];constructor
     ·rintro ⟨y,hy,e⟩;rcases List.mem_cons.1 hy with g | g
      ·subst g;exact .inl (of_decide_eq_true e)
      ·exact .inr ⟨y,g,(of_decide_eq_true e).symm⟩
     ·rintro (e | ⟨y,hy,e⟩)
      ·exact ⟨_,List.mem_cons_self ..,decide_eq_true e⟩
      ·exact ⟨y,List.mem_cons_of_mem _ hy,decide_eq_true e.symm⟩
    have hcn:=fun W (hx:Ext W4 W)=>(show Calls Tryz.prog 43 #[.slice a10 (out.length+1) c10,.func (.func 44) #[] #[.pointer (some ⟨w3.heap.size,0,none⟩)]] W fun e w'=>e=.returned (.bool (decide (rst p r.x∈ov (p.length - 1)::out.map Qw.x)))∧Ext W w' from by
     have hx2:=HE4.out.trans hx;have:=Hcon.out W w3.heap.size (.slice a3 p.length c3) (rst p r.x) (.slice a10 (out.length+1) c10) out (by simp [Value.oneCell']) (HEw.out.trans hx2) (hx.cell Hbx.out) (Ext.rd hx Ho4.out.rd) Hrrl.out (hx2.sl (zai Hq.out)) (fun s hs=>(hx2.ownQ (Hoe.out s hs)).rd) (by omega) Hol.out;rw [hany] at this;exact this)
    have Hzr:=hid hzr;clear hany;by_cases hin:rst p r.x∈ov (p.length - 1)::out.map Qw.x
    ·rw [decide_eq_true hin] at hcn;have Hin:=hid hin;have Hcn:=hid hcn;clear hin hcn hzr;go_region_held3 (fun w'=>Ext W4 w'∧w'.cell? ⟨w3.heap.size,0,none⟩=some (.slice a3 p.length c3))
      (first | with_reducible exact s6 Hbx.out HC.out | with_reducible exact s6 Hbx.out HB.out | with_reducible exact s6 Hbx.out HA.out | with_reducible exact s6 Hbx.out H40.out.drew)
      (first
       | (have hpv:=HB;clear hpv;go_at_call 43;refine (Hcn.out VB HB.out).mono ?_;rintro e9 VC ⟨rfl,hxc⟩;have HC:=hid (HB.out.trans hxc);clear hxc)
       | (have hpv:=HA;clear hpv;go_at_call 23;refine (heqz VA _ (Ext.rd HA.out Ho4.out.rd) HzA.out).mono ?_;rintro e9 VB ⟨rfl,hxb⟩;have HB:=hid (HA.out.trans hxb);clear hxb)
       | (go_at_call 25;refine (Hlle.out _ _ (HEw.out.trans HE4.out.drew) (Ext.rd H40.out.drew Ho4.out.rd)).mono ?_;rintro e9 VA ⟨uA,rfl,hoA,hxa⟩;obtain ⟨aA,cA,rfl,hzA⟩:=zkQ hoA.rd (zj0 _);have HA:=hid (H40.out.drew.trans hxa);have HzA:=hid hzA;clear hxa hoA hzA))
     all_goals
      clear q1;go_wp2_with fail
      go_roundw
      case rel=>exact ⟨k+1,by go_num,by omega,LcR.skip Hq.out Hoe.out Hmq.out Hlq.out HE.out (HE4.out.trans HC.out) Hrx.out (.inr Hin.out)⟩
      case measure=>simp [zag];omega
    ·rw [decide_eq_false hin] at hcn;have Hin:=hid hin;have Hcn:=hid hcn;clear hin hcn hzr;go_region_held3 (fun w'=>Ext W4 w'∧w'.cell? ⟨w3.heap.size,0,none⟩=some (.slice a3 p.length c3))
      (first | with_reducible exact s6 Hbx.out HC.out | with_reducible exact s6 Hbx.out HB.out | with_reducible exact s6 Hbx.out HA.out | with_reducible exact s6 Hbx.out H40.out.drew)
      (first
       | (have hpv:=HB;clear hpv;go_at_call 43;refine (Hcn.out VB HB.out).mono ?_;rintro e9 VC ⟨rfl,hxc⟩;have HC:=hid (HB.out.trans hxc);clear hxc)
       | (have hpv:=HA;clear hpv;go_at_call 23;refine (heqz VA _ (Ext.rd HA.out Ho4.out.rd) HzA.out).mono ?_;rintro e9 VB ⟨rfl,hxb⟩;have HB:=hid (HA.out.trans hxb);clear hxb)
       | (go_at_call 25;refine (Hlle.out _ _ (HEw.out.trans HE4.out.drew) (Ext.rd H40.out.drew Ho4.out.rd)).mono ?_;rintro e9 VA ⟨uA,rfl,hoA,hxa⟩;obtain ⟨aA,cA,rfl,hzA⟩:=zkQ hoA.rd (zj0 _);have HA:=hid (H40.out.drew.trans hxa);have HzA:=hid hzA;clear hxa hoA hzA))
     all_goals
      clear q1;have hx6:=HE4.out.trans HC.out;have hq6:=hx6.own Hq.out;have ho6:=HC.out.ownQ Ho4.out;have hE16:=HE.out.trans hx6;have hbase:=hE16.size;have q1:=HC.out.cell Hbx.out;have hm3:out.length+1+1≤maxLen:=(by unfold maxLen;omega);have hm4:(out.length+1+1) * 24≤140737488355328:=(by omega);have hoe6:∀ s∈out,zf6 VC W2.heap.size s.u s.x:=fun s hs=>hx6.ownQ (Hoe.out s hs);have HE16:=hid hE16;have Hq6:=hid hq6;have Ho6:=hid ho6;have Hoe6:=hid hoe6;clear hx6 ho6 hE16 hoe6;go_wp2_with (at_builtin;refine wpList_append_own _ rfl _ _ 34 rfl W2.heap.size 32 j0 (.slice none 0 0) 1 24 Tryz.underlying34 hj hy0 hy1 hy2 rfl (by decide) _ _ _ rfl (hq6.alloc _) ⟨VC.heap.size,0,none⟩ 1 1 [.slice a3 p.length c3] rfl rfl (cell_one_new _ _ _) (by simp [Value.oneCell']) hm3 hm4 (by rw [World.size_alloc];omega) ?_;intro v7 V7 hown7 hgrow7 _)
      go_roundw
      case rel=>exact ⟨k+1,by go_num,by omega,LcR.more HE16.out Hq6.out Hoe6.out Hmq.out Hlq.out Hrx.out (fun h=>h.elim Hzr.out Hin.out) Ho6.out hown7 hgrow7⟩
      case measure=>simp [zag];omega
  ·obtain rfl:n=k:=by omega
   have hfull:ov (p.length - 1)::out.map Qw.x=zjK p [ov (p.length - 1)] (rs.map Qw.x):=(by rw [hmq,List.take_of_length_le (by rw [List.length_map,Hn.out];exact Nat.le_refl _)]);have hbl:W2.heap.size≤wr.heap.size:=hE.size;rcases hq.2 with ⟨e0,_⟩ | ⟨g,c7,cur,e0,hg,h1,h2,h3,h4,h5⟩
   ·injection e0 with _ e0 _;exact absurd e0 (by omega)
   ·injection e0 with e1 e2 e3;subst e1;subst e3;clear hcp;have hgl:w.heap.size+1+1≤g:=(by have:=Hsz.out;omega);have hob:∀ W,wr.grownBy W (some g)→∀ r∈out,zf6 W W2.heap.size r.u r.x:=fun W hgr r hr=>World.ownsRow.kept (hoe r hr) hgr (zem (hoe r hr) hq (by decide));have hpr:∀ W,wr.grownBy W (some g)→Ext w W∧W.cell? ⟨w.heap.size,0,none⟩=some (.slice ap p.length cp)∧zdV 36 W (w.heap.size+1) (.slice none 0 0) (.slice none 0 0):=fun W hgr=>by
     have lt:=B0.out.lt;refine ⟨hEw.grown hgr (fun k hk=>by cases hk;omega),?_,?_⟩
     ·exact Cell1.out _ _ _ _ ((hgr.block _ (by omega) (by intro e;cases e;omega)).trans (hE.heap B1.out))
     ·exact (hgr.block _ (by omega) (by intro e;cases e;omega)).trans (hE.heap B0.out)
    have hall:∀ x∈(⟨ov (p.length - 1),.slice ab p.length cb,Hub.out⟩::out:List Qw).map Qw.x,x=zer p.length∨x=ov (p.length - 1)∨∃ z∈rs.map Qw.x,x=rst p z:=fun x hx=>by
     rw [List.map_cons,hfull] at hx;rcases (zjO _ _ _).1 hx with e | ⟨_,z,hz,e⟩
     ·exact .inr (.inl (List.mem_singleton.1 e))
     ·exact .inr (.inr ⟨z,hz,e⟩)
    have hcb:=HL.out.cmpb hall;have hrdD:∀ W,wr.grownBy W (some g)→∀ r∈(⟨ov (p.length - 1),.slice ab p.length cb,Hub.out⟩::out:List Qw),Rd W r.u r.x:=fun W hgr r hr=>by
     rcases List.mem_cons.1 hr with e | e
     ·subst e;exact (hpr W hgr).1.rd Hb.out
     ·exact (hob W hgr r e).rd
    have hst:=zkf Qw.u (fun q:Qw=>sF p q.x) 46 #[.pointer (some ⟨w.heap.size,0,none⟩)] W2.heap.size g c10 (⟨ov (p.length - 1),.slice ab p.length cb,Hub.out⟩::out) wr hq (by rw [List.length_cons];omega) (fun q=>q.hu) zkO (fun W hgr x hx y hy=>by
     obtain ⟨a1,a2,_⟩:=hpr W hgr;exact zkP (.slice ap p.length cp) x.u y.u p _ x.x y.x w.heap.size W (He.out.ext a1) a2 (a1.sl Hp.out) (hrdD W hgr x hx) (hrdD W hgr y hy) hcb (List.mem_map_of_mem hx) (List.mem_map_of_mem hy))
    rw [List.length_cons] at hst;have Hst:=hid hst;have Hpr:=hid hpr;have Hob:=hid hob;have Hfull:=hid hfull;have Hoe:=hid hoe;clear hst hpr hob hrdD hcb hall hfull hoe hq h1 h2 h3 h4 h5 hg e2 hE hbl hmq;go_wp2_with fail
    refine Hst.out.mono ?_;rintro e w5 ⟨rfl,d5,hR5,hS5⟩;obtain ⟨hx5,c5,hb5⟩:=Hpr.out w5 hR5.only;have r0:=hb5.c0;have r1:=hb5.c1;have z0:=hb5.fz 0;have z1:=hb5.fz 1;have hlb:w.heap.size≤w.heap.size+1:=(by omega);have hK:K0 36 w w5 (w.heap.size+1):=⟨hx5,_,_,hb5⟩;have hfin:=hK.fin hlb (.slice ap p.length cp) (.slice (some ⟨g,0,none⟩) (out.length+1) c10);have ho5:∀ r∈out,zf6 ((w5.setCell ⟨w.heap.size+1,0,none⟩ (.slice ap p.length cp)).setCell ⟨w.heap.size+1,1,none⟩ (.slice (some ⟨g,0,none⟩) (out.length+1) c10)) W2.heap.size r.u r.x:=fun r hr =>
     zgk (zdV.put0 hb5 (.slice ap p.length cp)) (zgk hb5 (Hob.out w5 hR5.only r hr) (by decide) 0 (.slice ap p.length cp)) (by decide) 1 (.slice (some ⟨g,0,none⟩) (out.length+1) c10)
    have hor:=zgk (zdV.put0 hb5 (.slice ap p.length cp)) (zgk hb5 hR5.own (by decide) 0 (.slice ap p.length cp)) (by decide) 1 (.slice (some ⟨g,0,none⟩) (out.length+1) c10);have Hfin:=hid hfin;have Ho5:=hid ho5;have Hor:=hid hor;have HR5:=hid hR5;have HS5:=hid hS5;clear hx5 hb5 hlb hK hfin ho5 hor hR5 hS5;go_wp2_with fail
    obtain ⟨hb6,hx6⟩:=Hfin.out;have hd0:=hb6.c0;have hd1:=hb6.c1;have hperm:=HR5.out.perm;have hlen5:d5.length=out.length+1:=HR5.out.len;have hor2:=zah Hor.out HE0.out.size;rw [List.length_cons] at hor2;refine bodyPost_ret (v:=.agg #[.slice ap p.length cp,.slice (some ⟨g,0,none⟩) (out.length+1) c10]) (by simp [results,Tryz.results12,go_sem,hd0,hd1]) rfl ⟨_,d5,rfl,(by rw [hlen5];exact hor2),fun r hr=>?_,zjZ HL.out ?_ ?_,hx6⟩
    ·rcases List.mem_cons.1 (hperm.mem_iff.1 hr) with e | e
     ·subst e;exact .inl ⟨rfl,rfl⟩
     ·exact .inr ((Ho5.out r e).mono HE0.out.size)
    ·rw [← Hfull.out];exact hperm.map Qw.x
    ·exact List.pairwise_map.2 HS5.out
structure I3 where
 a:Int
 b:Int
 c:Int
def I3.at (x:I3):Nat→Int
 | 0=>x.a
 | 1=>x.b
 | _=>x.c
def I3.ok (x:I3):Prop:=∀ i,-128≤x.at i∧x.at i≤127
def I3.v (x:I3):Value:=.agg #[.int .i8 x.a,.int .i8 x.b,.int .i8 x.c]
def dnm (x:I3)(i:Nat):Nat:=if i=1∧x.b<0 then 2 else 1
def zkS (x:I3)(i:Nat):Rat:=mkRat ((x.at i).tmod 9) (dnm x i)
def szW (n:Nat)(x:I3):List Rat:=(List.range n).map (zkS x)
theorem zkT (n:Nat)(x:I3):(szW n x).length=n:=by unfold szW;simp
theorem zkU {n:Nat}{x:I3}{k:Nat}(h:k<n):(szW n x).take (k+1)=(szW n x).take k++[zkS x k]:=by
 have h2:(szW n x)[k]?=some (zkS x k):=by unfold szW;rw [List.getElem?_map,List.getElem?_range h];rfl
 obtain ⟨hk,e⟩:=List.getElem?_eq_some_iff.1 h2;rw [List.take_succ_eq_append_getElem hk,e]
theorem zkV (z:Int):(z.tmod 9).natAbs≤8:=by
 have h1:=Int.tmod_lt_of_pos z (show (0:Int)<9 by decide);have h2:=Int.lt_tmod_of_pos z (show (0:Int)<9 by decide);omega
theorem zkW {z:Int}(h:-128≤z∧z≤127):wrap64 z=z:=by
 unfold wrap64;omega
theorem zkX {x:I3}{k:Nat}(h:-128≤x.at k∧x.at k≤127)(hk:k<3):wrap64 (1+wrap64 ((k:Int) % 2 * (x.at k % 256 / 128)))=(dnm x k:Int):=by
 unfold dnm;obtain rfl | rfl | rfl:k=0∨k=1∨k=2:=by omega
 ·simp [wrap64]
 ·have e:x.at 1=x.b:=rfl;rw [e] at h ⊢;by_cases hb:x.b<0
  ·have:x.b % 256 / 128=1:=(by omega);rw [this,if_pos ⟨rfl,hb⟩];simp [wrap64]
  ·have:x.b % 256 / 128=0:=(by omega);rw [this,if_neg (fun g=>hb g.2)];simp [wrap64]
 ·simp [wrap64]
theorem zkY (vp:Value)(p:List Int)(x:I3)(w:World)(he:Env w)(hp:Sl w vp (zak p))(hp3:p.length≤3)(hx:x.ok) :
  Calls Tryz.prog 8 #[vp,x.v] w fun e w'=>∃ u,e=.returned u∧zf6 w' w.heap.size u (szW p.length x)∧Ext w w':=by
 obtain ⟨i0,hi,hz0,hz1,hz2⟩:=info_parts zf7;have hof:=fun (k:Nat) W (hE:Ext w W)=>zgP ((x.at k).tmod 9) (dnm x k) W (he.ext hE) (by have:=zkV (x.at k);omega) (by unfold dnm;split <;> decide) (by unfold dnm;split <;> decide)
 obtain ⟨a,c,rfl,_,_,hc⟩:=hp.parts;have hcut:∀ k,k<p.length→(szW p.length x).take (k+1)=(szW p.length x).take k++[zkS x k]:=fun k hk=>zkU hk;have hrl:=zkT p.length x;obtain ⟨W1,hW1⟩:∃ W1,W1=w.alloc (.cells #[.int .i8 x.a,.int .i8 x.b,.int .i8 x.c] 23):=⟨_,rfl⟩;have hE0:Ext w W1:=by rw [hW1];exact (Ext.refl w).alloc _
 have hb1:W1.heap[w.heap.size]?=some (.cells #[.int .i8 x.a,.int .i8 x.b,.int .i8 x.c] 23 (0,0)):=by rw [hW1];exact World.alloc_heap_new w _
 have hcell:∀ W,Ext W1 W→∀ k,k<3→W.cell? ⟨w.heap.size,k,none⟩=some (.int .i8 (x.at k)):=fun W hE k hk=>by
  have hb:=hE.heap hb1;unfold World.cell?;dsimp only;rw [hb];obtain rfl | rfl | rfl:k=0∨k=1∨k=2:=by omega
  ·rfl
  ·rfl
  ·rfl
 unfold I3.v;rw [zam];generalize hn:p.length=n at *;have Hof:=hid hof;have Hcell:=hid hcell;have Hcut:=hid hcut;have Hrl:=hid hrl;have HE0:=hid hE0;have Hx:=hid hx;clear hp hc he hof hcut hcell hrl hE0 hn hb1 hx;go_enter Tryz.func8,Tryz.ntmps8
 go_wp2_with fail
 rw [← hW1];clear hW1;go_loopw [5,6,7,10] (fun v5 v6 v7 v10 wr=>∃ k:Nat,v10=.int .i64 k∧k≤n∧wr.ownsRow W1.heap.size 60 2 v5 k (rcs ((szW n x).take k))∧Hid (Ext W1 wr)) (fun _ _ _ v10 _=>n - (zag v10).toNat)
 case atStart=>exact ⟨0,rfl,Nat.zero_le _,World.ownsRow_nil W1 _ _ 2,hid (Ext.refl _)⟩
 case round =>
  obtain ⟨k,rfl,hk,ho,HE⟩:=hrel;obtain ⟨a5,c5,rfl⟩:=zel ho;by_cases hkn:k<n
  ·have htk:=Hcut.out k hkn;have hcl:=fun W (hE:Ext w W)=>Hof.out k W hE;have hsp:mkRat ((x.at k).tmod 9) (dnm x k)=zkS x k:=rfl;rw [hsp] at hcl;unfold Rv at hcl;generalize hs1:I (zkS x k).num=s1 at *;generalize hs2:I (((zkS x k).den:Nat):Int)=s2 at *;have hrn:rcs ((szW n x).take (k+1))=rcs ((szW n x).take k)++[.string s1,.string s2]:=(by rw [htk,zf3,hs1,hs2]);have Hrn:=hid hrn;clear hrn hs1 hs2 htk hsp;have hk0:(0:Int)≤(k:Int):=(by omega);have hk1:(k:Int)<(n:Int):=(by omega);have hk3:(k:Int)<3:=(by omega);have c0:=Hcell.out wr HE.out k (by omega);have hm3:k+1≤maxLen:=(by unfold maxLen;omega);have hm4:(k+1) * 32≤140737488355328:=(by omega);have hw:wrap64 (x.at k)=x.at k:=zkW (Hx.out k);have hd:wrap64 (1+wrap64 ((k:Int) % 2 * (x.at k % 256 / 128)))=(dnm x k:Int):=zkX (Hx.out k) (by omega);have Hcl:=hid hcl;have Ho:=hid ho;have Hw:=hid hw;have Hd:=hid hd;clear hcl ho hw hd;go_wp2_with fail
   rw [Hw.out,Hd.out];refine (Hcl.out wr (HE0.out.trans HE.out)).mono ?_;rintro e VA ⟨rfl,hxa⟩;have HEA:=hid (HE.out.trans hxa);have hoA:=hxa.own Ho.out;have hbase:=HEA.out.size;clear hxa c0;go_wp2_with (at_builtin;refine wpList_append_own _ rfl _ _ 32 rfl W1.heap.size 60 i0 (.agg #[.string ByteArray.empty,.string ByteArray.empty]) 2 32 Tryz.underlying32 hi hz0 hz1 hz2 rfl (by decide) _ _ _ rfl (hoA.alloc _) ⟨VA.heap.size,0,none⟩ 1 1 [.string s1,.string s2] rfl rfl (zgT VA _ _ _) (by simp [Value.oneCell']) hm3 hm4 (by rw [World.size_alloc];omega) ?_;intro v7 V7 hown7 hgrow7 _)
   go_roundw
   case rel=>exact ⟨k+1,by go_num,by omega,by rw [Hrn.out];exact hown7,hid ((HEA.out.alloc _).grown hgrow7 fun j hj=>(World.ownsRow.lt (hoA.alloc (.cells #[.string s1,.string s2] 60)) j hj).1)⟩
   case measure=>simp [zag];omega
  ·obtain rfl:n=k:=by omega
   rw [List.take_of_length_le (by rw [Hrl.out];exact Nat.le_refl _)] at ho;have Ho:=hid ho;clear ho;go_wp2
   go_ret
   exact ⟨_,rfl,by unfold zf6;rw [Hrl.out];exact zah Ho.out HE0.out.size,HE0.out.trans HE.out⟩
theorem zkZ (vg:Value)(g:List Rat)(a:Int)(n:Nat)(w:World)(he:Env w)(hg:Rd w vg g)(hgl:g.length≤1000)(hgs:∀ q∈g,Sn q)(ha0:0≤a)(ha1:a+(n:Int)≤100) :
  Calls Tryz.prog 13 #[vg,.int .i64 a,.int .i64 (a+(n:Int) - 1)] w fun e w'=>∃ u rs,e=.returned u∧QwM w' w.heap.size w.heap.size u rs∧rs.map Qw.x=zk4 g a n∧Ext w w':=by
 obtain ⟨j0,hj,hy0,hy1,hy2⟩:=info_parts zf8;have hof:=fun (z:Int)(h0:0≤z)(h1:z≤100) W (hE:Ext w W)=>zgP z 1 W (he.ext hE) (by omega) (by decide) (by decide);have hti:=fun (z:Int)(h0:0≤z)(h1:z≤100) W (hE:Ext w W)=>zgZ vg g (z:Rat) W (he.ext hE) (hE.rd hg) hgl hgs (zkF (by omega));have hnl:=zk6 g a;obtain ⟨ag,cg,rfl,_,_,_⟩:=hg.parts;generalize htz:a+(n:Int) - 1=tz at *;have Hof:=hid hof;have Hti:=hid hti;have Hnl:=hid hnl;have Htz:=hid htz;clear hg he hof hti hgs hnl htz;go_enter Tryz.func13,Tryz.ntmps13
 go_wp2_with fail
 go_loopw [7,8] (fun v7 v8 wr=>∃ (k:Nat)(z:Int),v8=.int .i64 z∧z=a+(k:Int)∧k≤n∧QsR w (zk4 g a k) v7 wr) (fun _ v8 _=>(tz+1 - zag v8).toNat)
 case atStart=>exact ⟨0,a,rfl,by omega,Nat.zero_le _,[],QwM.nil _ _ _,rfl,Ext.refl _⟩
 case round =>
  obtain ⟨k,z,rfl,hz,hk,⟨out,hq,hm,hE⟩⟩:=hrel;have htz:=Htz.out;have hol:out.length=k:=by
   have:=congrArg List.length hm;rwa [List.length_map,Hnl.out] at this
  obtain ⟨a6,c6,rfl⟩:=zel hq.1;by_cases hkn:k<n
  ·have hzt:z≤tz:=(by omega);have hofk:=Hof.out z (by omega) (by omega) wr hE;rw [show mkRat z 1=(z:Rat) from Rat.mkRat_one z] at hofk;have htik:=fun W (hx:Ext wr W)=>Hti.out z (by omega) (by omega) W (hE.trans hx);unfold Rv at hofk htik;generalize I ((z:Rat)).num=s1 at *;generalize I ((((z:Rat)).den:Nat):Int)=s2 at *;have Hofk:=hid hofk;have Htik:=hid htik;have Hq:=hid hq;have Hm:=hid hm;have HE:=hid hE;have Hol:=hid hol;have Hz:=hid hz;have hqo:=hq.1;rw [hol] at hqo ⊢;have Hqo:=hid hqo;have hzb:-1000≤z∧z≤1000:=(by omega);have hm3:k+1≤maxLen:=(by unfold maxLen;omega);have hm4:(k+1) * 24≤140737488355328:=(by omega);clear hofk htik hq hm hE hz hol hqo htz;go_wp2_with fail
   refine Hofk.out.mono ?_;rintro e VA ⟨rfl,hxa⟩;have Hxa:=hid hxa;clear hxa;go_wp2_with fail
   refine (Htik.out VA Hxa.out).mono ?_;rintro e VB ⟨u,rfl,ho2,hxb⟩;have hxab:=Hxa.out.trans hxb;have Ho2:=hid (ho2.mono (HE.out.trans Hxa.out).size);obtain ⟨au,cu,rfl⟩:=zel ho2;have hq3:=hxab.qwM Hq.out;have hqo:=hxab.own Hqo.out;have hE3:=HE.out.trans hxab;have hbase:=hE3.size;generalize hml:(zeW g (z:Rat)).length=ml at *;have Hq3:=hid hq3;have HE3:=hid hE3;have Hml:=hid hml;clear hq3 hE3 hxb hxab ho2 hml;go_wp2_with (at_builtin;refine wpList_append_own _ rfl _ _ 34 rfl w.heap.size 32 j0 (.slice none 0 0) 1 24 Tryz.underlying34 hj hy0 hy1 hy2 rfl (by decide) _ _ _ rfl (hqo.alloc _) ⟨VB.heap.size,0,none⟩ 1 1 [.slice au ml cu] rfl rfl (cell_one_new _ _ _) (by simp [Value.oneCell']) hm3 hm4 (by rw [World.size_alloc];omega) ?_;intro v7 V7 hown7 hgrow7 _)
   go_roundw
   case rel=>exact ⟨k+1,z+1,by go_num,by have:=Hz.out;omega,by omega,by rw [zk5];exact QsR.more HE3.out Hq3.out Hm.out (by rw [← Hz.out];exact Ho2.out) (by rw [Hol.out];exact hown7) (by rw [Hol.out];exact hgrow7)⟩
   case measure=>simp [zag];omega
  ·have hkn2:k=n:=(by omega);have hzt:¬ z≤tz:=(by omega);subst hkn2;have Hm:=hid hm;have Hq:=hid hq;have HE:=hid hE;clear hq hm hE hz hol htz;go_wp2
   go_ret
   exact ⟨_,rfl,out,Hq.out,Hm.out,HE.out⟩
end Go.Proofs.YtbkfhacmekbniaaGreatDoor

namespace Go.Proofs.YtbkfhacmekbniaaGreatDoor
open Go.RowKit Go.Lib
def sz3 (p:List Int)(A B C:Int):List Rat:=if p.length=2 then [(A:Rat),(B:Rat) / 2] else [(A:Rat),(B:Rat) / 2,(C:Rat)]
theorem zla (B:Int):(B:Rat) / 2 * 2=B:=by grind
theorem zlb (A B C:Int):sz3 [2,3] A B C=[(A:Rat),(B:Rat) / 2]:=rfl
theorem zlc (A B C:Int):sz3 [2,3,5] A B C=[(A:Rat),(B:Rat) / 2,(C:Rat)]:=rfl
def Pw (p:List Int):Prop:=p=[2,3]∨p=[2,3,5]
theorem Pw.pr {p:List Int}(h:Pw p):Pr p p.length:=by
 rcases h with rfl | rfl
 ·exact .inl ⟨rfl,rfl⟩
 ·exact .inr ⟨rfl,rfl⟩
theorem zld {p:List Int}(h:Pw p)(A B C:Int):(sz3 p A B C).length=p.length:=by rcases h with rfl | rfl <;> rfl
theorem zle {p:List Int}(h:Pw p):zer p.length=sz3 p 0 0 0:=by rcases h with rfl | rfl <;> decide +kernel
theorem zlf {p:List Int}(h:Pw p)(A B C A' B' C':Int):zeV (sz3 p A B C) (sz3 p A' B' C')=sz3 p (A - A') (B - B') (C - C'):=by
 rcases h with rfl | rfl
 ·rw [zlb,zlb,zlb,Rat.intCast_sub,Rat.intCast_sub];have e:(B:Rat) / 2 - (B':Rat) / 2=((B:Rat) - (B':Rat)) / 2:=by grind
  simp only [zeV,List.zipWith_cons_cons,List.zipWith_nil_left,e]
 ·rw [zlc,zlc,zlc,Rat.intCast_sub,Rat.intCast_sub,Rat.intCast_sub];have e:(B:Rat) / 2 - (B':Rat) / 2=((B:Rat) - (B':Rat)) / 2:=by grind
  simp only [zeV,List.zipWith_cons_cons,List.zipWith_nil_left,e]
theorem zlg {p:List Int}(h:Pw p)(A B C k:Int):zeW (sz3 p A B C) (k:Rat)=sz3 p (A * k) (B * k) (C * k):=by
 have e:(B:Rat) / 2 * (k:Rat)=(B:Rat) * (k:Rat) / 2:=by grind
 rcases h with rfl | rfl
 ·rw [zlb,zlb,Rat.intCast_mul,Rat.intCast_mul];simp only [zeW,List.map_cons,List.map_nil,e]
 ·rw [zlc,zlc,Rat.intCast_mul,Rat.intCast_mul,Rat.intCast_mul];simp only [zeW,List.map_cons,List.map_nil,e]
theorem zlh {p:List Int}(h:Pw p){A B C:Int}(h1:-256≤B)(h2:B≤256)(h3:-128≤C)(h4:C≤128):Bx 256 (sz3 p A B C):=by
 rcases h with rfl | rfl
 ·exact ⟨A,B,rfl,zla B,h1,h2⟩
 ·exact ⟨A,B,C,rfl,zla B,rfl,h1,h2,by omega,by omega⟩
theorem zli {p:List Int}(h:Pw p){A B C:Int}(hA:-64≤A∧A≤64)(hB:-128≤B∧B≤128)(hC:-64≤C∧C≤64):∃ m:Int,sF p (sz3 p A B C)=(m:Rat)∧-26843545600≤m∧m≤26843545600:=by
 have e:(B:Rat) / 2 * (106365032:Int)=((B * 53182516:Int):Rat):=by
  have e0:((106365032:Int):Rat)=((53182516:Int):Rat) * 2:=by
   rw [show (2:Rat)=((2:Int):Rat) from rfl,← Rat.intCast_mul];rfl
  rw [Rat.intCast_mul,e0];grind
 rcases h with rfl | rfl
 ·refine ⟨A * 67108864+B * 53182516,?_,by omega,by omega⟩;rw [zlb];simp only [sF,lgs.1,lgs.2.1,e];rw [Rat.intCast_add,Rat.intCast_mul A];grind
 ·refine ⟨A * 67108864+B * 53182516+C * 155821956,?_,by omega,by omega⟩;rw [zlc];simp only [sF,lgs.1,lgs.2.1,lgs.2.2,e];rw [Rat.intCast_add,Rat.intCast_add,Rat.intCast_mul A,Rat.intCast_mul C];grind
theorem zlj {p:List Int}(hp:Pw p){l:List (List Rat)}(h:∀ x∈l,∃ A B C:Int,(-64≤A∧A≤64)∧(-128≤B∧B≤128)∧(-64≤C∧C≤64)∧x=sz3 p A B C):Lw p 400 l:=by
 have h2:∀ x∈zer p.length::l,∃ A B C:Int,(-64≤A∧A≤64)∧(-128≤B∧B≤128)∧(-64≤C∧C≤64)∧x=sz3 p A B C:=fun x hx=>by
  rcases List.mem_cons.1 hx with e | e
  ·exact ⟨0,0,0,by omega,by omega,by omega,by rw [e,zle hp]⟩
  ·exact h x e
 refine ⟨hp.pr,fun x hx=>?_,by omega,by omega,fun x hx=>?_,0,fun x hx y hy=>?_⟩
 ·obtain ⟨A,B,C,_,_,_,rfl⟩:=h x hx;exact zld hp ..
 ·obtain ⟨A,B,C,hA,hB,hC,rfl⟩:=h x hx;obtain ⟨m,e,m0,m1⟩:=zli hp hA hB hC;rw [e,← Rat.intCast_neg];exact ⟨Rat.intCast_le_intCast.2 (by omega),Rat.intCast_le_intCast.2 (by omega)⟩
 ·obtain ⟨A,B,C,hA,hB,hC,rfl⟩:=h2 x hx;obtain ⟨A',B',C',hA',hB',hC',rfl⟩:=h2 y hy;rw [zlf hp];exact .inl ⟨rfl,zlh hp (by omega) (by omega) (by omega) (by omega)⟩
def oc3 (p:List Int)(n:Nat)(i:Int):List Rat:=if p.length=2 then [(i:Rat) / (n:Rat),0] else [(i:Rat) / (n:Rat),0,0]
theorem zlk (n:Nat)(i:Int):oc3 [2,3] n i=[(i:Rat) / (n:Rat),0]:=rfl
theorem zll (n:Nat)(i:Int):oc3 [2,3,5] n i=[(i:Rat) / (n:Rat),0,0]:=rfl
theorem zlm {p:List Int}(h:Pw p)(n:Nat)(i:Int):(oc3 p n i).length=p.length:=by rcases h with rfl | rfl <;> rfl
theorem zln {n:Nat}(hn:0<n):(n:Rat) ≠ 0:=fun h=>by
 have:=Rat.natCast_inj.1 (show ((n:Nat):Rat)=((0:Nat):Rat) from h);omega
theorem zlp {p:List Int}(h:Pw p)(n:Nat):zer p.length=oc3 p n 0:=by
 have e:((0:Int):Rat) / (n:Rat)=0:=by rw [Rat.div_def,show ((0:Int):Rat)=0 from rfl,Rat.zero_mul]
 rcases h with rfl | rfl
 ·rw [zlk,e];rfl
 ·rw [zll,e];rfl
theorem zlq {p:List Int}(h:Pw p)(n:Nat)(i j:Int):zeV (oc3 p n i) (oc3 p n j)=oc3 p n (i - j):=by
 have e:(i:Rat) / (n:Rat) - (j:Rat) / (n:Rat)=((i:Rat) - (j:Rat)) / (n:Rat):=by grind
 have z:(0:Rat) - 0=0:=by decide +kernel
 rcases h with rfl | rfl
 ·rw [zlk,zlk,zlk,Rat.intCast_sub];simp only [zeV,List.zipWith_cons_cons,List.zipWith_nil_left,e,z]
 ·rw [zll,zll,zll,Rat.intCast_sub];simp only [zeV,List.zipWith_cons_cons,List.zipWith_nil_left,e,z]
theorem zlr {p:List Int}(h:Pw p){n:Nat}(hn:0<n)(i:Int):Oc n (oc3 p n i):=by
 have e:(i:Rat) / (n:Rat) * (n:Rat)=(i:Rat):=Rat.div_mul_cancel (zln hn);rcases h with rfl | rfl
 ·exact ⟨rfl,i,e⟩
 ·exact ⟨rfl,rfl,i,e⟩
theorem zls {p:List Int}(h:Pw p)(n:Nat)(i:Int):sF p (oc3 p n i)=(i:Rat) / (n:Rat) * ((67108864:Int):Rat):=by
 rcases h with rfl | rfl
 ·rw [zlk];simp only [sF,lgs.1,lgs.2.1];grind
 ·rw [zll];simp only [sF,lgs.1,lgs.2.1,lgs.2.2];grind
theorem zlu {p:List Int}(h:Pw p)(n:Nat)(i:Int):zeW (zeW (ov (p.length - 1)) (mkRat 1 n)) (i:Rat)=oc3 p n i:=by
 have e:(1:Rat) * mkRat 1 n * (i:Rat)=(i:Rat) / (n:Rat):=by
  rw [Rat.mkRat_eq_div];show (1:Rat) * (((1:Int):Rat) / (n:Rat)) * (i:Rat)=_;rw [show ((1:Int):Rat)=1 from rfl];grind
 have z:(0:Rat) * mkRat 1 n * (i:Rat)=0:=by rw [Rat.zero_mul,Rat.zero_mul]
 rcases h with rfl | rfl
 ·rw [zlk];show [(1:Rat) * mkRat 1 n * (i:Rat),(0:Rat) * mkRat 1 n * (i:Rat)]=_;rw [e,z]
 ·rw [zll];show [(1:Rat) * mkRat 1 n * (i:Rat),(0:Rat) * mkRat 1 n * (i:Rat),(0:Rat) * mkRat 1 n * (i:Rat)]=_;rw [e,z]
theorem zlv {p:List Int}(hp:Pw p){n:Nat}(hn:0<n)(hn9:n≤9):Lw p 400 (zk4 (zeW (ov (p.length - 1)) (mkRat 1 n)) 1 n):=by
 have h:∀ x∈zk4 (zeW (ov (p.length - 1)) (mkRat 1 n)) 1 n,∃ i:Int,0≤i∧i≤(n:Int)∧x=oc3 p n i:=fun x hx=>by
  unfold zk4 at hx;rw [List.mem_map] at hx;obtain ⟨i,hi,rfl⟩:=hx;rw [List.mem_range] at hi;exact ⟨1+(i:Int),by omega,by omega,zlu hp n _⟩
 have h2:∀ x∈zer p.length::zk4 (zeW (ov (p.length - 1)) (mkRat 1 n)) 1 n,∃ i:Int,0≤i∧i≤(n:Int)∧x=oc3 p n i:=fun x hx=>by
  rcases List.mem_cons.1 hx with e | e
  ·exact ⟨0,by omega,by omega,by rw [e,zlp hp n]⟩
  ·exact h x e
 refine ⟨hp.pr,fun x hx=>?_,by omega,by omega,fun x hx=>?_,n,fun x hx y hy=>?_⟩
 ·obtain ⟨i,_,_,rfl⟩:=h x hx;exact zlm hp ..
 ·obtain ⟨i,i0,i1,rfl⟩:=h x hx;rw [zls hp];have hnp:(0:Rat)<(n:Rat):=Rat.intCast_lt_intCast.2 (show (0:Int)<(n:Int) by omega);have hq:(n:Rat) * ((i:Rat) / (n:Rat))=(i:Rat):=by rw [Rat.mul_comm];exact Rat.div_mul_cancel (zln hn)
  have q0:(0:Rat)≤(i:Rat) / (n:Rat):=Rat.le_of_mul_le_mul_left (by rw [hq,Rat.mul_zero];exact Rat.intCast_le_intCast.2 i0) hnp;have q1:(i:Rat) / (n:Rat)≤1:=Rat.le_of_mul_le_mul_left (by rw [hq,Rat.mul_one];exact Rat.intCast_le_intCast.2 i1) hnp;generalize (i:Rat) / (n:Rat)=q at *;have e1:((400 * 67108864:Int):Rat)=400 * ((67108864:Int):Rat):=by
   rw [show (400:Rat)=((400:Int):Rat) from rfl,← Rat.intCast_mul]
  have e2:(0:Rat)<((67108864:Int):Rat):=Rat.intCast_lt_intCast.2 (show (0:Int)<67108864 by decide);rw [e1];generalize ((67108864:Int):Rat)=t at *;have m0:=Rat.mul_nonneg q0 (Rat.le_of_lt e2);have m1:=Rat.mul_le_mul_of_nonneg_right q1 (Rat.le_of_lt e2);constructor <;> grind
 ·obtain ⟨i,_,_,rfl⟩:=h2 x hx;obtain ⟨j,_,_,rfl⟩:=h2 y hy;rw [zlq hp];exact .inr ⟨hn,by omega,zlr hp hn _⟩
theorem zlw {p:List Int}(hp:Pw p)(x:I3):∃ A B C:Int,(-8≤A∧A≤8)∧(-16≤B∧B≤16)∧(-8≤C∧C≤8)∧szW p.length x=sz3 p A B C:=by
 have ha:=zkV x.a;have hb:=zkV x.b;have hc:=zkV x.c;have e0:zkS x 0=((x.a.tmod 9:Int):Rat):=Rat.mkRat_one _;have e2:zkS x 2=((x.c.tmod 9:Int):Rat):=Rat.mkRat_one _;have e1:zkS x 1=(((if x.b<0 then x.b.tmod 9 else x.b.tmod 9 * 2):Int):Rat) / 2:=by
  unfold zkS dnm;rw [show x.at 1=x.b from rfl];by_cases h:x.b<0
  ·rw [if_pos ⟨rfl,h⟩,if_pos h,Rat.mkRat_eq_div];rfl
  ·rw [if_neg (fun g=>h g.2),if_neg h,Rat.mkRat_one,Rat.intCast_mul,show ((2:Int):Rat)=2 from rfl];grind
 refine ⟨x.a.tmod 9,if x.b<0 then x.b.tmod 9 else x.b.tmod 9 * 2,x.c.tmod 9,by omega,by split <;> omega,by omega,?_⟩
 rcases hp with rfl | rfl
 ·rw [zlb];show [zkS x 0,zkS x 1]=_;rw [e0,e1]
 ·rw [zlc];show [zkS x 0,zkS x 1,zkS x 2]=_;rw [e0,e1,e2]
theorem zlx {p:List Int}(hp:Pw p)(x:I3){n:Nat}(hn9:n≤9):Lw p 400 (zk4 (szW p.length x) 0 n):=by
 obtain ⟨A,B,C,hA,hB,hC,e⟩:=zlw hp x;rw [e];refine zlj hp fun y hy=>?_;unfold zk4 at hy;rw [List.mem_map] at hy;obtain ⟨i,hi,rfl⟩:=hy;rw [List.mem_range] at hi;have hk:0≤(0+(i:Int))∧(0+(i:Int))≤8:=by omega
 generalize 0+(i:Int)=k at *;have mb:∀ z b:Int,-b≤z→z≤b→0≤b→-(b * 8)≤z * k∧z * k≤b * 8:=fun z b h1 h2 h3=>by
  have a1:z * k≤b * k:=Int.mul_le_mul_of_nonneg_right h2 hk.1;have a2:b * k≤b * 8:=Int.mul_le_mul_of_nonneg_left hk.2 h3;have a3:-b * k≤z * k:=Int.mul_le_mul_of_nonneg_right h1 hk.1;rw [Int.neg_mul] at a3;omega
 have m1:=mb A 8 hA.1 hA.2 (by omega);have m2:=mb B 16 hB.1 hB.2 (by omega);have m3:=mb C 8 hC.1 hC.2 (by omega);exact ⟨A * k,B * k,C * k,by omega,by omega,by omega,zlg hp ..⟩
theorem zly {p:List Int}(hp:Pw p)(xs:Nat→I3)(n:Nat):Lw p 400 ((List.range n).map fun i=>szW p.length (xs i)):=by
 refine zlj hp fun y hy=>?_;rw [List.mem_map] at hy;obtain ⟨i,_,rfl⟩:=hy;obtain ⟨A,B,C,hA,hB,hC,e⟩:=zlw hp (xs i);exact ⟨A,B,C,by omega,by omega,by omega,e⟩
structure Wl where
 three:Bool
 kind:Nat
 num:Nat
 xs:Nat→I3
namespace Wl
def p (a:Wl):List Int:=if a.three then [2,3,5] else [2,3]
def n (a:Wl):Nat:=1+a.num % 9
def sizes (a:Wl):List (List Rat):=if a.kind % 3=0 then zk4 (zeW (ov (a.p.length - 1)) (mkRat 1 a.n)) 1 a.n else if a.kind % 3=1 then zk4 (szW a.p.length (a.xs 0)) 0 a.n else (List.range (min a.n 8)).map fun i=>szW a.p.length (a.xs i)
structure Ok (a:Wl):Prop where
 kind:a.kind<256
 num:a.num<256
 xs:∀ i,(a.xs i).ok
theorem pw (a:Wl):Pw a.p:=by unfold p;split <;> first | exact .inl rfl | exact .inr rfl
theorem n9 (a:Wl):0<a.n∧a.n≤9:=by unfold n;omega
theorem lw (a:Wl):Lw a.p 400 a.sizes:=by
 unfold sizes;split
 ·exact zlv a.pw a.n9.1 a.n9.2
 ·split
  ·exact zlx a.pw _ a.n9.2
  ·exact zly a.pw _ _
theorem few (a:Wl):a.sizes.length≤9:=by
 have:=a.n9;unfold sizes;split
 ·rw [zk6];omega
 ·split
  ·rw [zk6];omega
  ·rw [List.length_map,List.length_range];omega
end Wl
end Go.Proofs.YtbkfhacmekbniaaGreatDoor
