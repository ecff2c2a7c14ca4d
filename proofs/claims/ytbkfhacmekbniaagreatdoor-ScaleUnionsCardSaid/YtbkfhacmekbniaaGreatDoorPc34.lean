/- Walk: slices.SortFunc at any number of sizes, with a compare that makes memory: the library's law, its count of draws by Calls.drawn. Walk: law 31's collect of at most a hundred sizes, by the linear form of 2048 bits. (Printed by wip/colln.py.) Plain: near sizes by the form of 2048 bits are as by the form of 26 bits; their collections are the same. The collections of near sizes, by the walks of any sizes. (Printed by wip/brdg.py.) -/
import Derived.Test.YtbkfhacmekbniaaGreatDoorPc16
import Derived.Test.YtbkfhacmekbniaaGreatDoorPc33
import Derived.Test.YtbkfhacmekbniaaGreatDoorShelfL
import Derived.Shelf.SlSortCmp.Whole1
import Derived.Lib.OwnBridge
import Derived.Lib.QuietBelow
import Derived.Test.YtbkfhacmekbniaaGreatDoorPc20
import Derived.Test.YtbkfhacmekbniaaGreatDoorPc32
import Derived.Test.YtbkfhacmekbniaaGreatDoorPc26
import Derived.Test.YtbkfhacmekbniaaGreatDoorPc18
import Derived.Test.YtbkfhacmekbniaaGreatDoorPc27
set_option maxRecDepth 100000
set_option maxHeartbeats 1000000
namespace Go.Proofs.YtbkfhacmekbniaaGreatDoor
section
open Go.RowKit Go.Lib Go.Shelf Go.Sort
theorem zqk {β:Type}[Inhabited β](enc:β→Value)(w:World)(blk m:Nat)(dk:Array β)(os:Array Obj):w.grownBy (sortWorld enc w blk 0 m dk os) (some blk):=by
 unfold sortWorld;refine ⟨rfl,rfl,rfl,by simp [grow,putRow,mapBlock,Sort.ahead],fun k hk hne=>?_⟩;have hkb:blk ≠ k:=fun e=>hne (by rw [e]);show (grow (putRow enc (Sort.ahead w m) blk 0 dk) os).heap[k]?=w.heap[k]?;rw [heap_grow_old _ _ (by simpa [putRow,mapBlock,Sort.ahead] using hk)];simp [putRow,mapBlock,Sort.ahead,Array.getElem?_modify,hkb]
theorem zql (w:World)(os:Array Obj):Ext w (grow w os):=⟨rfl,rfl,rfl,by rw [size_grow];omega,fun k hk=>heap_grow_old w os hk⟩
theorem zqm {W w':World}(h:Ext W w')(hd:W.drawn≤w'.drawn):∃ q os,w'=grow (W.drewN q) os:=by
 obtain ⟨p,hp⟩:=regrown_of_below h;refine ⟨p.d - W.drawn,p.os,?_⟩;have e:w'.drawn=p.d:=by rw [hp];rfl
 have e2:W.drewN (p.d - W.drawn)=redrawn W p.d:=by
  unfold World.drewN redrawn;rw [show W.drawn+(p.d - W.drawn)=p.d by omega]
 rw [e2];exact hp
theorem zqn {α:Type}(enc:α→Value)(key:α→Rat)(cf:α→α→Int)(g:Nat)(cb:Array Value)(B blk cap:Nat)(d:List α)(w:World)(hR:w.ownsRow B 32 1 (.slice (some ⟨blk,0,none⟩) d.length cap) d.length (d.map enc))(hl:d.length≤1000)(h1:OneCell enc)(hne:d ≠ [])
  (eg:∀ args w,(callFunc g args).run Tryz.prog w=.ok (.enter g args) w) (hcf:∀ x∈d,∀ y∈d,(cf x y<0 ↔ key x<key y))
  (hcmp:∀ W,w.grownBy W (some blk)→∀ x∈d,∀ y∈d,Calls Tryz.prog g (#[enc x,enc y]++cb) W fun e w'=>e=.returned (.int .i64 (cf x y))∧Ext W w') :
  Calls Tryz.prog 45 #[.slice (some ⟨blk,0,none⟩) d.length cap,.func (.func g) #[] cb] w fun e w'=>e=.returned (.tuple #[])∧∃ d',InR 32 w B blk cap enc d w' d'∧d'.Pairwise fun x y=>key x≤key y:=by
 obtain ⟨x0,hx0⟩:∃ x,x∈d:=by
  cases d with
  | nil=>exact absurd rfl hne
  | cons a t=>exact ⟨a,List.mem_cons_self ..⟩
 let β:={ x:α // x∈d };have:Inhabited β:=⟨⟨x0,hx0⟩⟩;obtain ⟨d2,hd2⟩:∃ d2:List β,d2=d.attach:=⟨_,rfl⟩;have hval:d2.map Subtype.val=d:=by rw [hd2];exact List.attach_map_subtype_val d
 have hmap:d2.map (fun b:β=>enc b.1)=d.map enc:=by
  rw [show (fun b:β=>enc b.1)=enc ∘ Subtype.val from rfl,← List.map_map,hval]
 have hlen:d2.length=d.length:=by rw [← hval,List.length_map]
 have hR2:=hR;rw [← hmap] at hR2;obtain ⟨g',cap',e,_,hlt,_,_,_,hH⟩:=holds_of_ownsRow (enc:=fun b:β=>enc b.1) (zs:=d2) hR2 (by intro h;cases h);injection e with e1 _ e3;injection e1 with e1;injection e1 with e1;subst e1;have hsz:d2.toArray.size=d.length:=by rw [List.size_toArray,hlen]
 have hO:SWO (ltOf fun a b:β=>cf a.1 b.1):=by
  have k:∀ a b:β,ltOf (fun a b:β=>cf a.1 b.1) a b=decide (key a.1<key b.1):=fun a b=>decide_eq_decide.2 (hcf a.1 a.2 b.1 b.2);refine ⟨fun x=>?_,fun x y z=>?_,fun x y z=>?_⟩
  ·rw [k];exact decide_eq_false Rat.lt_irrefl
  ·rw [k,k,k];intro h1 h2;have h1:=of_decide_eq_true h1;have h2:=of_decide_eq_true h2;exact decide_eq_true (by grind)
  ·rw [k,k,k];intro h1 h2;have h1:=of_decide_eq_false h1;have h2:=of_decide_eq_false h2;exact decide_eq_false (by grind)
 have hC:CmpLays1 Tryz.prog g cb (fun b:β=>enc b.1) (fun a b:β=>cf a.1 b.1) blk 0 d2.toArray.size w:=fun m os dk _ x y =>
  (Calls.drawn (hcmp _ (zqk _ w blk m dk os) x.1 x.2 y.1 y.2)).mono fun e w' ⟨⟨he,hx⟩,hd⟩=>⟨he,zqm hx (hd ⟨_,he⟩)⟩
 have h:=Any.slices_SortFunc Tryz.lSortQ (fun b:β=>enc b.1) (fun b=>h1 b.1) (fun a b:β=>cf a.1 b.1) hO g cb blk 0 cap d2.toArray w eg hC hH hlt (by rw [hsz];omega);rw [hsz] at h;refine h.mono fun e w' ⟨he,d',n,os,hp,hs,hw⟩=>⟨he,d'.toList.map Subtype.val,⟨?_,?_,?_⟩,?_⟩
 ·have h3:=hp.2.2;have h4:d'.size=d.length:=by rw [hp.1,hsz]
  rw [show d'.extract 0 d.length=d' by rw [← h4];exact Array.extract_size,show d2.toArray.extract 0 d.length=d2.toArray by rw [← hsz];exact Array.extract_size] at h3;have h5:=h3.map Subtype.val;rw [show (d2.toArray.toList.map Subtype.val)=d from hval] at h5;exact h5
 ·have h4:d'.toList.length=d.length:=by rw [Array.length_toList,hp.1,hsz]
  have ho:=ownsRow_putRow (enc:=fun b:β=>enc b.1) (q:=n) (k:=d.length) (zs:=d2) (ys:=d'.toList) hR2 h4 (Nat.le_refl _);rw [List.take_of_length_le (Nat.le_of_eq h4)] at ho;have h6:(d'.toList.map Subtype.val).map enc=d'.toList.map (fun b:β=>enc b.1):=by rw [List.map_map];rfl
  rw [h6,hw];unfold sortWorld;exact (zql _ os).own ho
 ·rw [hw];exact zqk _ w blk n d' os
 ·rw [List.pairwise_map,List.pairwise_iff_getElem];intro i j hi hj hij;have h4:d'.size=d.length:=by rw [hp.1,hsz]
  rw [Array.length_toList] at hi hj;have h5:=hs i j (Nat.zero_le _) hij (by omega);have h6:ltOf (fun a b:β=>cf a.1 b.1) d'[j]! d'[i]! = decide (key d'[j]!.1<key d'[i]!.1):=decide_eq_decide.2 (hcf _ d'[j]!.2 _ d'[i]!.2);rw [h6] at h5;have h7:=of_decide_eq_false h5;rw [getElem!_pos d' j hj,getElem!_pos d' i hi] at h7;rw [Array.getElem_toList,Array.getElem_toList];grind
end
section
open Go.RowKit Go.Lib Go.Shelf
attribute [local go_sem] Oper.semAt_some
theorem zqo (vp va vb:Value)(p:List Int)(x y:List Rat)(w:World)(he:Env w)(hp:Sl w vp (zak p))(ha:Rd w va x)(hb:Rd w vb y)(hpe:zfe p=0)(hpl:p.length≤100)(hx:x.length=p.length)(hy:y.length=p.length)(hxf:∀ q∈x,Ft 30 q)(hyf:∀ q∈y,Ft 30 q)(hpr:Pr p p.length)(hdf:∀ q∈ze2 x y,Ft 30 q)(hrv:zgm w) :
  Calls Tryz.prog 47 #[vp,va,vb] w fun e w'=>e=.returned (.int .i64 (sgM (tms p (dn (ze2 x y)) (ze2 x y))))∧Ext w w':=by
 have h:=znv vp va vb p x y w he hp ha hb hpe hpl hx hy hxf hyf hpr hdf hrv;obtain ⟨ap,cp,rfl,_,_,_⟩:=hp.parts;obtain ⟨aa,ca,rfl,_,_,_⟩:=ha.parts;obtain ⟨ab,cb,rfl,_,_,_⟩:=hb.parts;generalize sgM (tms p (dn (ze2 x y)) (ze2 x y))=z at *;clear hp ha hb he hxf hyf hpr hdf hrv hx hy hpe hpl;have H:=hid h;clear h;go_enter Tryz.func47,Tryz.ntmps47
 go_wp2_with fail
 refine H.out.mono ?_;rintro e w1 ⟨rfl,hx1⟩;have Hx1:=hid hx1;clear hx1;go_wp2
 go_ret
 exact ⟨rfl,Hx1.out⟩
theorem zqp (vp va vb:Value)(p:List Int)(l:List (List Rat))(x y:List Rat)(bp:Nat)(w:World)(he:Env w)(h0:w.cell? ⟨bp,0,none⟩=some vp)(hp:Sl w vp (zak p))(ha:Rd w va x)(hb:Rd w vb y)(hc:znC p l)(hrv:zgm w)(hx:x∈l)(hy:y∈l) :
  Calls Tryz.prog 46 #[va,vb,.pointer (some ⟨bp,0,none⟩)] w fun e w'=>e=.returned (.int .i64 (sgM (tms p (dn (ze2 x y)) (ze2 x y))))∧Ext w w':=by
 have h:=zqo vp va vb p x y w he hp ha hb hc.pe hc.few (hc.len _ hx) (hc.len _ hy) (hc.ft _ hx) (hc.ft _ hy) hc.pr (hc.dif _ hx _ hy) hrv;obtain ⟨ap,cp,rfl,_,_,_⟩:=hp.parts;obtain ⟨aa,ca,rfl,_,_,_⟩:=ha.parts;obtain ⟨ab,cb,rfl,_,_,_⟩:=hb.parts;generalize sgM (tms p (dn (ze2 x y)) (ze2 x y))=z at *;clear hp ha hb he hc hrv;have H:=hid h;clear h;go_enter Tryz.func46,Tryz.ntmps46
 go_wp2_with fail
 refine H.out.mono ?_;rintro e w1 ⟨rfl,hx1⟩;have Hx1:=hid hx1;clear hx1;go_wp2
 go_ret
 exact ⟨rfl,Hx1.out⟩
def zqq (W:World)(vb:Value)(o:List Rat)(p:List Int)(l:List (List Rat))(k:Nat)(v:Value)(wr:World):Prop:=∃ out:List Qw,wr.ownsRow W.heap.size 32 1 v (out.length+1) (vb::qwc out)∧(∀ r∈out,zfw wr W.heap.size r.u r.x)∧o::out.map Qw.x=znx p [o] (l.take k)∧out.length≤k∧Ext W wr
theorem zqq.skip {W wr w':World}{vb:Value}{o:List Rat}{p:List Int}{l:List (List Rat)}{k:Nat}{v:Value}{x:List Rat}{out:List Qw}(hq:wr.ownsRow W.heap.size 32 1 v (out.length+1) (vb::qwc out))(he:∀ r∈out,zfw wr W.heap.size r.u r.x)(hm:o::out.map Qw.x=znx p [o] (l.take k))(hl:out.length≤k)(hE:Ext W wr)(hx:Ext wr w')(hr:l[k]?=some x)(hs:rsN p x=zer p.length∨rsN p x∈o::out.map Qw.x):zqq W vb o p l (k+1) v w' :=
 ⟨out,hx.own hq,fun r hr=>hx.ownQ (he r hr),by rw [znz hr,znw,if_pos (by rw [← hm];exact hs)];exact hm,by omega,hE.trans hx⟩
theorem zqq.more {W wr V:World}{vb:Value}{o:List Rat}{p:List Int}{l:List (List Rat)}{k:Nat}{v v7 u:Value}{x:List Rat}{out:List Qw}{ob:Obj}(hE:Ext W wr)(hq:wr.ownsRow W.heap.size 32 1 v (out.length+1) (vb::qwc out))(he:∀ r∈out,zfw wr W.heap.size r.u r.x)(hm:o::out.map Qw.x=znx p [o] (l.take k))(hl:out.length≤k)(hr:l[k]?=some x)(hs:¬ (rsN p x=zer p.length∨rsN p x∈o::out.map Qw.x))(ho:zfw wr W.heap.size u (rsN p x))
  (hown:V.ownsRow W.heap.size 32 1 v7 (out.length+1+1) ((vb::qwc out)++[u])) (hgrow:(wr.alloc ob).grownBy V v.ownBlock):zqq W vb o p l (k+1) v7 V:=by
 have hal:=World.ownsRow.alloc hq ob;have hkeep:∀ s:Qw,zfw wr W.heap.size s.u s.x→zfw V W.heap.size s.u s.x:=fun s hs=>World.ownsRow.kept (World.ownsRow.alloc hs ob) hgrow (zfm (World.ownsRow.alloc hs ob) hal (by decide));refine ⟨out++[⟨rsN p x,u,zf0 ho.rd⟩],?_,fun s hs=>?_,?_,by rw [List.length_append];simp;omega,(hE.alloc ob).grown hgrow fun k hk=>(World.ownsRow.lt hal k hk).1⟩
 ·rw [List.length_append,List.length_singleton,zjl];exact hown
 ·rcases List.mem_append.1 hs with g | g
  ·exact hkeep s (he s g)
  ·rw [List.mem_singleton] at g;subst g;exact hkeep ⟨rsN p x,u,zf0 ho.rd⟩ ho
 ·rw [znz hr,znw,if_neg (by rw [← hm];exact hs),List.map_append,← List.cons_append,hm];rfl
theorem zqr (vp vb vl:Value)(p:List Int)(rs:List Qw)(w:World)(he:Env w)(hp:Sl w vp (zak p))(hb:Rd w vb (ov (p.length - 1)))(hl:RdM w vl rs)(hL:Le p (rs.map Qw.x))(hrv:zgm w)(hn9:rs.length≤100) :
  Calls Tryz.prog 12 #[vp,vb,vl] w fun e w'=>∃ vn out,e=.returned (.agg #[vp,vn])∧w'.ownsRow w.heap.size 32 1 vn out.length (qwc out)∧(∀ r∈out,(r.u=vb∧r.x=ov (p.length - 1))∨zfw w' w.heap.size r.u r.x)∧zn8 p (rs.map Qw.x) (out.map Qw.x)∧Ext w w':=by
 obtain ⟨j0,hj,hy0,hy1,hy2⟩:=info_parts zfy;have hpe:zfe p=0∧p.length≤100∧0<p.length:=by rcases hL.pr with ⟨e,_⟩ | ⟨e,_⟩ <;> rw [e] <;> decide
 have hred:=fun (r:Qw)(hr:r∈rs) W (hE:Ext w W)=>(show Calls Tryz.prog 20 #[vp,vb,r.u] W fun e w'=>∃ u s,e=.returned (.tuple #[u,.string s])∧zfw w' W.heap.size u (rsN p r.x)∧Ext W w' from by
  have hm:=List.mem_map_of_mem (f:=Qw.x) hr;have hx:=hL.len _ hm;obtain ⟨a,tl,e⟩:=znl (p:=p) (x:=r.x) (by rw [hx];exact hL.pr);have hrd:=hE.rd (hl.2 r hr);have hft:=hL.ft _ hm;rw [e] at hrd hft hx ⊢;have hlt:tl.length=p.length - 1:=by rw [List.length_cons] at hx;omega
  have hpr1:Pr p (tl.length+1):=by rw [← List.length_cons (a:=a),hx];exact hL.pr
  have hb2:=zpo hpr1 hft;unfold rsN;rw [← zpr];exact (zpm vp vb r.u p a tl W (he.ext hE) (hE.sl hp) (hE.rd (by rw [hlt];exact hb)) hrd hpe.1 hpr1 hft (hrv.ext hE) (zpp hb2)).mono fun e w' ⟨u,h1,h2,h3⟩=>⟨u,_,h1,h2,h3⟩)
 have hrl:∀ r∈rs,(rsN p r.x).length=p.length:=fun r hr=>by unfold rsN;rw [ziA];exact hL.len _ (List.mem_map_of_mem hr)
 have hle:=fun (r:Qw)(hr:r∈rs) W va (hE:Ext w W)(ha:Rd W va (rsN p r.x))=>zpl va va (rsN p r.x) (rsN p r.x) W (he.ext hE) ha ha rfl (by rw [hrl r hr];omega) (fun s hs=>(hL.res _ (List.mem_map_of_mem hr) s hs).mono (by omega)) (fun s hs=>(hL.res _ (List.mem_map_of_mem hr) s hs).mono (by omega));have heq:=fun W va vb x y (ha:Rd W va x)(hb:Rd W vb y)(hx:x.length=p.length)(hy:y.length=p.length)=>zji va vb x y W ha hb (by omega) (by omega);have hovl:(ov (p.length - 1)).length=p.length:=by rw [zhM];omega
 have hcon:=fun W bx va x v (out:List Qw)(hu:vb.oneCell'=true)(hE:Ext w W)(h0:W.cell? ⟨bx,0,none⟩=some va)(ha:Rd W va x)(hx:x.length=p.length)(hv:Sl W v (vb::qwc out))(hr:∀ r∈out,Rd W r.u r.x)(ho:out.length≤100)(hol:∀ r∈out,r.x.length=p.length)=>zjs 44 #[.pointer (some ⟨bx,0,none⟩)] v (⟨ov (p.length - 1),vb,hu⟩::out) (fun y=>decide (x=y)) W hv (by rw [List.length_cons];omega) zko (fun W2 hE2 r hr2=>by
  rcases List.mem_cons.1 hr2 with e | e
  ·subst e;exact zkn va vb x (ov (p.length - 1)) bx W2 (hE2.cell h0) (hE2.rd ha) ((hE.trans hE2).rd hb) (by omega) (by omega)
  ·exact zkn va r.u x r.x bx W2 (hE2.cell h0) (hE2.rd ha) (hE2.rd (hr r e)) (by omega) (by have:=hol r e;omega))
 have hone:=fun (r:Qw)(hr:r∈rs)=>(hl.2 r hr).parts;have hlen:=fun (r:Qw)(hr:r∈rs)=>hL.len _ (List.mem_map_of_mem (f:=Qw.x) hr);have hub:=zf0 hb;obtain ⟨ap,cp,rfl,_,_,_⟩:=hp.parts;obtain ⟨ab,cb,rfl,_,_,_⟩:=hb.parts;obtain ⟨al,cl,rfl,_,_,hc⟩:=hl.1.parts;rw [zam] at *;rw [zfz] at *;simp only [hovl] at hred hb hcon hub ⊢;generalize hn:rs.length=n at *;have Hn:=hid hn;obtain ⟨W2,hW2⟩:∃ W2,W2=(w.alloc (.cells #[.slice ap p.length cp] 29)).alloc (.cells #[.slice none 0 0,.slice none 0 0] 36):=⟨_,rfl⟩;have hE0:Ext w W2:=by rw [hW2];exact ((Ext.refl w).alloc _).alloc _
 have hsz:W2.heap.size=w.heap.size+1+1:=by rw [hW2,World.size_alloc,World.size_alloc]
 have b0:zjy 36 W2 (w.heap.size+1) (.slice none 0 0) (.slice none 0 0):=by
  have:=zjy.new 36 (w.alloc (.cells #[.slice ap p.length cp] 29)) (.slice none 0 0) (.slice none 0 0);rw [World.size_alloc] at this;rw [hW2];exact this
 have b1:W2.heap[w.heap.size]?=some (.cells #[.slice ap p.length cp] 29 (0,0)):=by
  rw [hW2];exact ((Ext.refl _).alloc _).heap (World.alloc_heap_new w _)
 have cell1:∀ (W:World)(b:Nat)(x:Value)(t:TypeId),W.heap[b]?=some (.cells #[x] t (0,0))→W.cell? ⟨b,0,none⟩=some x:=fun W b x t h=>by unfold World.cell?;dsimp only;rw [h];rfl
 have hown0:(W2.alloc (.cells #[.slice ab p.length cb] 32)).ownsRow W2.heap.size 32 1 (.slice (some ⟨W2.heap.size,0,none⟩) 1 1) 1 [.slice ab p.length cb] :=
  ⟨rfl,.inr ⟨W2.heap.size,1,#[.slice ab p.length cb],rfl,Nat.le_refl _,World.alloc_heap_new W2 _,Nat.le_refl _,by unfold maxLen;omega,rfl,rfl⟩⟩
 rw [hsz] at hown0;have hbox:∀ W,Ext W2 W→W.cell? ⟨w.heap.size,0,none⟩=some (.slice ap p.length cp):=fun W hE=>cell1 _ _ _ _ (hE.heap b1);have Hp:=hid hp;have Hb:=hid hb;have Hl:=hid hl;have HL:=hid hL;have He:=hid he;have Hrv:=hid hrv;have Hpe:=hid hpe;have Hred:=hid hred;have Hrl:=hid hrl;have Heq:=hid heq;have Hcon:=hid hcon;have Hone:=hid hone;have Hlen:=hid hlen;have Hc:=hid hc;have HE0:=hid hE0;have B0:=hid b0;have Hle:=hid hle;have Hbox:=hid hbox;have Hown0:=hid hown0;have B1:=hid b1;have Cell1:=hid cell1;have Hsz:=hid hsz;have Hub:=hid hub;clear hp hb hl hL he hrv hpe hred hrl heq hcon hone hlen hc hE0 b0 hn hle hbox hown0 b1 cell1 hsz hub;go_enter Tryz.func12,Tryz.ntmps12
 go_wp2_with fail
 rw [← hW2];clear hW2;go_loopw [7,9,10,11,16] (fun v7 v9 v10 v11 v16 wr=>∃ k:Nat,v16=.int .i64 k∧k≤n∧zqq W2 (.slice ab p.length cb) (ov (p.length - 1)) p (rs.map Qw.x) k v7 wr) (fun _ _ _ _ v16 _=>n - (zag v16).toNat)
 case atStart=>exact ⟨0,rfl,Nat.zero_le _,[],by rw [Hsz.out];exact Hown0.out,fun r h=>by simp at h,rfl,Nat.le_refl _,(Ext.refl W2).alloc _⟩
 case round =>
  obtain ⟨k,rfl,hk,⟨out,hq,hoe,hmq,hlq,hE⟩⟩:=hrel;obtain ⟨a10,c10,rfl⟩:=zfl hq;have hEw:=HE0.out.trans hE;have hcp:=Hbox.out wr hE;by_cases hkn:k<n
  ·obtain ⟨r,hr⟩:∃ r,rs[k]?=some r:=⟨_,List.getElem?_eq_getElem (by rw [Hn.out];exact hkn)⟩;have hmem:=List.mem_of_getElem? hr;obtain ⟨b,off,rfl,hc0⟩:=Hc.out k r.u (by unfold qwc;rw [List.getElem?_map,hr];rfl);obtain ⟨ar,cr,hru,_,_,_⟩:=Hone.out r hmem;have hcu:=hEw.cell hc0;have hrl:r.x.length=p.length:=Hlen.out r hmem;rw [hru,hrl] at hcu;have hrd:=Hred.out r hmem wr hEw;rw [hru,hrl] at hrd;have hrrl:=Hrl.out r hmem;have hrx:(rs.map Qw.x)[k]?=some r.x:=(by rw [List.getElem?_map,hr];rfl);have hlle:=fun W va (hE:Ext w W)(ha:Rd W va (rsN p r.x))=>(show Calls Tryz.prog 25 #[va,va] W fun e w'=>∃ u,e=.returned u∧zfw w' W.heap.size u (zer p.length)∧Ext W w' from by
    have:=Hle.out r hmem W va hE ha;rw [zi8,hrrl] at this;exact this)
   have hol:∀ s∈out,s.x.length=p.length:=fun s hs=>by
    have h1:=List.mem_map_of_mem (f:=Qw.x) hs;have h2:s.x∈ov (p.length - 1)::out.map Qw.x:=List.mem_cons_of_mem _ h1;rw [hmq] at h2;rcases (zn0 _ _ _).1 h2 with e | ⟨_,z,hz,e⟩
    ·rw [List.mem_singleton] at e;rw [e,zhM];have:=Hpe.out.2.2;omega
    ·rw [e];unfold rsN;rw [ziA];exact HL.out.len z (List.mem_of_mem_take hz)
   have hk0:(0:Int)≤(k:Int):=(by omega);have hk1:(k:Int)<(n:Int):=(by omega);have Hrd:=hid hrd;have Hrrl:=hid hrrl;have Hrx:=hid hrx;have Hol:=hid hol;have Hq:=hid hq;have Hoe:=hid hoe;have Hmq:=hid hmq;have Hlq:=hid hlq;have HE:=hid hE;have HEw:=hid hEw;have Hlle:=hid hlle;clear hrd hrrl hrx hol hq hoe hmq hE hEw hrl hru hc0 hmem hr hlle;go_wp2_with fail
   refine Hrd.out.mono ?_;rintro e w3 ⟨u3,s3,rfl,ho3,hx3⟩;obtain ⟨a3,c3,rfl,hr3⟩:=zkq ho3.rd Hrrl.out;clear hr3;have hbx:(w3.alloc (.cells #[.slice a3 p.length c3] 32)).cell? ⟨w3.heap.size,0,none⟩=some (.slice a3 p.length c3):=(by unfold World.cell?;rw [World.alloc_heap_new w3 _];rfl);have hE4:Ext wr (w3.alloc (.cells #[.slice a3 p.length c3] 32)):=hx3.alloc _;have ho4:zfw (w3.alloc (.cells #[.slice a3 p.length c3] 32)) W2.heap.size (.slice a3 p.length c3) (rsN p r.x):=(((Ext.refl w3).alloc _).ownQ ho3).mono HE.out.size;have Hbx:=hid hbx;have Ho4:=hid ho4;have HE4:=hid hE4;clear hx3 ho3 hE4 hcu hcp ho4;go_wp2_with fail
   generalize hW4:w3.alloc (.cells #[.slice a3 p.length c3] 32)=W4 at *;have H40:Hid (Ext W4 W4):=hid (Ext.refl W4);have q1:=Hbx.out;by_cases hzr:rsN p r.x=zer p.length
   ·have heqz:=fun W vz (ha:Rd W (.slice a3 p.length c3) (rsN p r.x))(hb:Rd W vz (zer p.length))=>(show Calls Tryz.prog 23 #[.slice a3 p.length c3,vz] W fun e w'=>e=.returned (.bool true)∧Ext W w' from by
     have:=Heq.out W _ vz _ _ ha hb Hrrl.out (zi5 _);rwa [decide_eq_true hzr] at this)
    have Hzr:=hid hzr;clear hzr;have q1d:=H40.out.drew.cell Hbx.out
    first | (go_region_law (first
     | (go_simp;have hpv:=HA;clear hpv;go_at_call 23;refine (heqz VA _ (Ext.rd HA.out Ho4.out.rd) HzA.out).mono ?_;rintro e9 VB ⟨rfl,hxb⟩;have HB:=hid (HA.out.trans hxb);have hcB:=HB.out.cell Hbx.out;clear hxb)
     | (go_simp;go_at_call 25;refine (Hlle.out _ _ (HEw.out.trans HE4.out.drew) (Ext.rd H40.out.drew Ho4.out.rd)).mono ?_;rintro e9 VA ⟨uA,rfl,hoA,hxa⟩;obtain ⟨aA,cA,rfl,hzA⟩:=zkq hoA.rd (zi5 _);have HA:=hid (H40.out.drew.trans hxa);have HzA:=hid hzA;have hcA:=HA.out.cell Hbx.out;clear hxa hoA hzA))) | fail
    all_goals
     clear q1;go_wp2_with fail
     go_roundw
     case rel=>exact ⟨k+1,by go_num,by omega,zqq.skip Hq.out Hoe.out Hmq.out Hlq.out HE.out (HE4.out.trans HB.out) Hrx.out (.inl Hzr.out)⟩
     case measure=>simp [zag];omega
   ·have heqz:=fun W vz (ha:Rd W (.slice a3 p.length c3) (rsN p r.x))(hb:Rd W vz (zer p.length))=>(show Calls Tryz.prog 23 #[.slice a3 p.length c3,vz] W fun e w'=>e=.returned (.bool false)∧Ext W w' from by
     have:=Heq.out W _ vz _ _ ha hb Hrrl.out (zi5 _);rwa [decide_eq_false hzr] at this)
    have hany:∀ (ub:Value)(hu:ub.oneCell'=true),((⟨ov (p.length - 1),ub,hu⟩::out:List Qw).any fun y=>decide (rsN p r.x=y.x))=decide (rsN p r.x∈ov (p.length - 1)::out.map Qw.x):=fun ub hu=>by
     rw [Bool.eq_iff_iff,List.any_eq_true,decide_eq_true_eq,List.mem_cons,List.mem_map];constructor
     ·rintro ⟨y,hy,e⟩;rcases List.mem_cons.1 hy with g | g
      ·subst g;exact .inl (of_decide_eq_true e)
      ·exact .inr ⟨y,g,(of_decide_eq_true e).symm⟩
     ·rintro (e | ⟨y,hy,e⟩)
      ·exact ⟨_,List.mem_cons_self ..,decide_eq_true e⟩
      ·exact ⟨y,List.mem_cons_of_mem _ hy,decide_eq_true e.symm⟩
    have hcn:=fun W (hx:Ext W4 W)=>(show Calls Tryz.prog 43 #[.slice a10 (out.length+1) c10,.func (.func 44) #[] #[.pointer (some ⟨w3.heap.size,0,none⟩)]] W fun e w'=>e=.returned (.bool (decide (rsN p r.x∈ov (p.length - 1)::out.map Qw.x)))∧Ext W w' from by
     have hx2:=HE4.out.trans hx;have:=Hcon.out W w3.heap.size (.slice a3 p.length c3) (rsN p r.x) (.slice a10 (out.length+1) c10) out (by simp [Value.oneCell']) (HEw.out.trans hx2) (hx.cell Hbx.out) (Ext.rd hx Ho4.out.rd) Hrrl.out (hx2.sl (zai Hq.out)) (fun s hs=>(hx2.ownQ (Hoe.out s hs)).rd) (by omega) Hol.out;rw [hany] at this;exact this)
    have Hzr:=hid hzr;clear hany;by_cases hin:rsN p r.x∈ov (p.length - 1)::out.map Qw.x
    ·rw [decide_eq_true hin] at hcn;have Hin:=hid hin;have Hcn:=hid hcn;clear hin hcn hzr;go_region_held3 (fun w'=>Ext W4 w'∧w'.cell? ⟨w3.heap.size,0,none⟩=some (.slice a3 p.length c3))
      (first | with_reducible exact s6 Hbx.out HC.out | with_reducible exact s6 Hbx.out HB.out | with_reducible exact s6 Hbx.out HA.out | with_reducible exact s6 Hbx.out H40.out.drew)
      (first
       | (have hpv:=HB;clear hpv;go_at_call 43;refine (Hcn.out VB HB.out).mono ?_;rintro e9 VC ⟨rfl,hxc⟩;have HC:=hid (HB.out.trans hxc);clear hxc)
       | (have hpv:=HA;clear hpv;go_at_call 23;refine (heqz VA _ (Ext.rd HA.out Ho4.out.rd) HzA.out).mono ?_;rintro e9 VB ⟨rfl,hxb⟩;have HB:=hid (HA.out.trans hxb);clear hxb)
       | (go_at_call 25;refine (Hlle.out _ _ (HEw.out.trans HE4.out.drew) (Ext.rd H40.out.drew Ho4.out.rd)).mono ?_;rintro e9 VA ⟨uA,rfl,hoA,hxa⟩;obtain ⟨aA,cA,rfl,hzA⟩:=zkq hoA.rd (zi5 _);have HA:=hid (H40.out.drew.trans hxa);have HzA:=hid hzA;clear hxa hoA hzA))
     all_goals
      clear q1;go_wp2_with fail
      go_roundw
      case rel=>exact ⟨k+1,by go_num,by omega,zqq.skip Hq.out Hoe.out Hmq.out Hlq.out HE.out (HE4.out.trans HC.out) Hrx.out (.inr Hin.out)⟩
      case measure=>simp [zag];omega
    ·rw [decide_eq_false hin] at hcn;have Hin:=hid hin;have Hcn:=hid hcn;clear hin hcn hzr;go_region_held3 (fun w'=>Ext W4 w'∧w'.cell? ⟨w3.heap.size,0,none⟩=some (.slice a3 p.length c3))
      (first | with_reducible exact s6 Hbx.out HC.out | with_reducible exact s6 Hbx.out HB.out | with_reducible exact s6 Hbx.out HA.out | with_reducible exact s6 Hbx.out H40.out.drew)
      (first
       | (have hpv:=HB;clear hpv;go_at_call 43;refine (Hcn.out VB HB.out).mono ?_;rintro e9 VC ⟨rfl,hxc⟩;have HC:=hid (HB.out.trans hxc);clear hxc)
       | (have hpv:=HA;clear hpv;go_at_call 23;refine (heqz VA _ (Ext.rd HA.out Ho4.out.rd) HzA.out).mono ?_;rintro e9 VB ⟨rfl,hxb⟩;have HB:=hid (HA.out.trans hxb);clear hxb)
       | (go_at_call 25;refine (Hlle.out _ _ (HEw.out.trans HE4.out.drew) (Ext.rd H40.out.drew Ho4.out.rd)).mono ?_;rintro e9 VA ⟨uA,rfl,hoA,hxa⟩;obtain ⟨aA,cA,rfl,hzA⟩:=zkq hoA.rd (zi5 _);have HA:=hid (H40.out.drew.trans hxa);have HzA:=hid hzA;clear hxa hoA hzA))
     all_goals
      clear q1;have hx6:=HE4.out.trans HC.out;have hq6:=hx6.own Hq.out;have ho6:=HC.out.ownQ Ho4.out;have hE16:=HE.out.trans hx6;have hbase:=hE16.size;have q1:=HC.out.cell Hbx.out;have hm3:out.length+1+1≤maxLen:=(by unfold maxLen;omega);have hm4:(out.length+1+1) * 24≤140737488355328:=(by omega);have hoe6:∀ s∈out,zfw VC W2.heap.size s.u s.x:=fun s hs=>hx6.ownQ (Hoe.out s hs);have HE16:=hid hE16;have Hq6:=hid hq6;have Ho6:=hid ho6;have Hoe6:=hid hoe6;clear hx6 ho6 hE16 hoe6;go_wp2_with (at_builtin;refine wpList_append_own _ rfl _ _ 34 rfl W2.heap.size 32 j0 (.slice none 0 0) 1 24 Tryz.underlying34 hj hy0 hy1 hy2 rfl (by decide) _ _ _ rfl (hq6.alloc _) ⟨VC.heap.size,0,none⟩ 1 1 [.slice a3 p.length c3] rfl rfl (cell_one_new _ _ _) (by simp [Value.oneCell']) hm3 hm4 (by rw [World.size_alloc];omega) ?_;intro v7 V7 hown7 hgrow7 _)
      go_roundw
      case rel=>exact ⟨k+1,by go_num,by omega,zqq.more HE16.out Hq6.out Hoe6.out Hmq.out Hlq.out Hrx.out (fun h=>h.elim Hzr.out Hin.out) Ho6.out hown7 hgrow7⟩
      case measure=>simp [zag];omega
  ·obtain rfl:n=k:=by omega
   have hfull:ov (p.length - 1)::out.map Qw.x=znx p [ov (p.length - 1)] (rs.map Qw.x):=(by rw [hmq,List.take_of_length_le (by rw [List.length_map,Hn.out];exact Nat.le_refl _)]);have hbl:W2.heap.size≤wr.heap.size:=hE.size;rcases hq.2 with ⟨e0,_⟩ | ⟨g,c7,cur,e0,hg,h1,h2,h3,h4,h5⟩
   ·injection e0 with _ e0 _;exact absurd e0 (by omega)
   ·injection e0 with e1 e2 e3;subst e1;subst e3;clear hcp;have hgl:w.heap.size+1+1≤g:=(by have:=Hsz.out;omega);have hob:∀ W,wr.grownBy W (some g)→∀ r∈out,zfw W W2.heap.size r.u r.x:=fun W hgr r hr=>World.ownsRow.kept (hoe r hr) hgr (zfm (hoe r hr) hq (by decide));have hpr:∀ W,wr.grownBy W (some g)→Ext w W∧W.cell? ⟨w.heap.size,0,none⟩=some (.slice ap p.length cp)∧zjy 36 W (w.heap.size+1) (.slice none 0 0) (.slice none 0 0):=fun W hgr=>by
     have lt:=B0.out.lt;refine ⟨hEw.grown hgr (fun k hk=>by cases hk;omega),?_,?_⟩
     ·exact Cell1.out _ _ _ _ ((hgr.block _ (by omega) (by intro e;cases e;omega)).trans (hE.heap B1.out))
     ·exact (hgr.block _ (by omega) (by intro e;cases e;omega)).trans (hE.heap B0.out)
    have hall:∀ x∈(⟨ov (p.length - 1),.slice ab p.length cb,Hub.out⟩::out:List Qw).map Qw.x,PlN p (rs.map Qw.x) x:=fun x hx=>by
     rw [List.map_cons,hfull] at hx;rcases (zn0 _ _ _).1 hx with e | ⟨_,z,hz,e⟩
     ·exact .inr (.inl (List.mem_singleton.1 e))
     ·exact .inr (.inr ⟨z,hz,e⟩)
    have hcb:=HL.out.cmpN hall;have hrdD:∀ W,wr.grownBy W (some g)→∀ r∈(⟨ov (p.length - 1),.slice ab p.length cb,Hub.out⟩::out:List Qw),Rd W r.u r.x:=fun W hgr r hr=>by
     rcases List.mem_cons.1 hr with e | e
     ·subst e;exact (hpr W hgr).1.rd Hb.out
     ·exact (hob W hgr r e).rd
    have hst:=zqn Qw.u (fun q:Qw=>mF p q.x) (fun q s:Qw=>sgM (tms p (dn (ze2 q.x s.x)) (ze2 q.x s.x))) 46 #[.pointer (some ⟨w.heap.size,0,none⟩)] W2.heap.size g c10 (⟨ov (p.length - 1),.slice ab p.length cb,Hub.out⟩::out) wr hq (by rw [List.length_cons];omega) (fun q=>q.hu) (fun h=>nomatch h) zkp (fun x hx y hy=>hcb.sgn _ (List.mem_map_of_mem hx) _ (List.mem_map_of_mem hy)) (fun W hgr x hx y hy=>by
     obtain ⟨a1,a2,_⟩:=hpr W hgr;exact zqp (.slice ap p.length cp) x.u y.u p _ x.x y.x w.heap.size W (He.out.ext a1) a2 (a1.sl Hp.out) (hrdD W hgr x hx) (hrdD W hgr y hy) hcb (Hrv.out.ext a1) (List.mem_map_of_mem hx) (List.mem_map_of_mem hy))
    rw [List.length_cons] at hst;have Hst:=hid hst;have Hpr:=hid hpr;have Hob:=hid hob;have Hfull:=hid hfull;have Hoe:=hid hoe;clear hst hpr hob hrdD hcb hall hfull hoe hq h1 h2 h3 h4 h5 hg e2 hE hbl hmq;go_wp2_with fail
    refine Hst.out.mono ?_;rintro e w5 ⟨rfl,d5,hR5,hS5⟩;obtain ⟨hx5,c5,hb5⟩:=Hpr.out w5 hR5.only;have r0:=hb5.c0;have r1:=hb5.c1;have z0:=hb5.fz 0;have z1:=hb5.fz 1;have hlb:w.heap.size≤w.heap.size+1:=(by omega);have hK:K0 36 w w5 (w.heap.size+1):=⟨hx5,_,_,hb5⟩;have hfin:=hK.fin hlb (.slice ap p.length cp) (.slice (some ⟨g,0,none⟩) (out.length+1) c10);have ho5:∀ r∈out,zfw ((w5.setCell ⟨w.heap.size+1,0,none⟩ (.slice ap p.length cp)).setCell ⟨w.heap.size+1,1,none⟩ (.slice (some ⟨g,0,none⟩) (out.length+1) c10)) W2.heap.size r.u r.x:=fun r hr =>
     zga (zjy.put0 hb5 (.slice ap p.length cp)) (zga hb5 (Hob.out w5 hR5.only r hr) (by decide) 0 (.slice ap p.length cp)) (by decide) 1 (.slice (some ⟨g,0,none⟩) (out.length+1) c10)
    have hor:=zga (zjy.put0 hb5 (.slice ap p.length cp)) (zga hb5 hR5.own (by decide) 0 (.slice ap p.length cp)) (by decide) 1 (.slice (some ⟨g,0,none⟩) (out.length+1) c10);have Hfin:=hid hfin;have Ho5:=hid ho5;have Hor:=hid hor;have HR5:=hid hR5;have HS5:=hid hS5;clear hx5 hb5 hlb hK hfin ho5 hor hR5 hS5;go_wp2_with fail
    obtain ⟨hb6,hx6⟩:=Hfin.out;have hd0:=hb6.c0;have hd1:=hb6.c1;have hperm:=HR5.out.perm;have hlen5:d5.length=out.length+1:=HR5.out.len;have hor2:=zah Hor.out HE0.out.size;rw [List.length_cons] at hor2;refine bodyPost_ret (v:=.agg #[.slice ap p.length cp,.slice (some ⟨g,0,none⟩) (out.length+1) c10]) (by simp [results,Tryz.results12,go_sem,hd0,hd1]) rfl ⟨_,d5,rfl,(by rw [hlen5];exact hor2),fun r hr=>?_,znA HL.out ?_ ?_,hx6⟩
    ·rcases List.mem_cons.1 (hperm.mem_iff.1 hr) with e | e
     ·subst e;exact .inl ⟨rfl,rfl⟩
     ·exact .inr ((Ho5.out r e).mono HE0.out.size)
    ·rw [← Hfull.out];exact hperm.map Qw.x
    ·exact List.pairwise_map.2 HS5.out
end
section
def K22 : Nat:=2 ^ 2022
theorem zqs {a G K f:Int}(h1:a * K≤G)(h2:G≤(a+1) * K)(hK:0≤K):K * min (f * a) (f * (a+1))≤f * G∧f * G≤K * max (f * a) (f * (a+1)):=by
 have m1:=Int.mul_le_mul_of_nonneg_left (Int.min_le_left (f * a) (f * (a+1))) hK;have m2:=Int.mul_le_mul_of_nonneg_left (Int.min_le_right (f * a) (f * (a+1))) hK;have m3:=Int.mul_le_mul_of_nonneg_left (Int.le_max_left (f * a) (f * (a+1))) hK;have m4:=Int.mul_le_mul_of_nonneg_left (Int.le_max_right (f * a) (f * (a+1))) hK;have e1:f * (a * K)=K * (f * a):=by grind
 have e2:f * ((a+1) * K)=K * (f * (a+1)):=by grind
 rcases Int.le_total 0 f with g | g
 ·have n1:=Int.mul_le_mul_of_nonneg_left h1 g;have n2:=Int.mul_le_mul_of_nonneg_left h2 g;omega
 ·have n1:=Int.mul_le_mul_of_nonpos_left g h1;have n2:=Int.mul_le_mul_of_nonpos_left g h2;omega
theorem zqt {p:Int}(h:p=2∨p=3∨p=5):lg p * ((K22:Nat):Int)≤(LG p 2048:Int)∧(LG p 2048:Int)≤(lg p+1) * ((K22:Nat):Int)∧(p=2→(LG p 2048:Int)=lg p * ((K22:Nat):Int)):=by
 rcases h with rfl | rfl | rfl <;> decide +kernel
theorem zqu : ∀ (l:List (Int × Int)),(∀ e∈l,e.1=2∨e.1=3∨e.1=5)→((K22:Nat):Int) * lowT l≤zlE l∧zlE l≤((K22:Nat):Int) * higT l
 | [],_=>by simp [lowT,higT,zlE]
 | e::l,h=>by
  have ih:=zqu l fun s hs=>h s (List.mem_cons_of_mem _ hs);obtain ⟨g1,g2,g3⟩:=zqt (h e (List.mem_cons_self ..));have hb:=zqs (f:=e.2) g1 g2 (Int.natCast_nonneg _);simp only [lowT,higT,zlE,loP,hiP];generalize ((K22:Nat):Int)=K at *;generalize (LG e.1 2048:Int)=G at *;by_cases h2:e.1=2
  ·rw [if_pos h2,if_pos h2];have:=g3 h2;have e1:K * (e.2 * lg e.1)=e.2 * G:=(by rw [this];grind);refine ⟨?_,?_⟩ <;> rw [Int.mul_add K] <;> omega
  ·rw [if_neg h2,if_neg h2];refine ⟨?_,?_⟩ <;> rw [Int.mul_add K] <;> omega
theorem zqv {l:List (Int × Int)}(h:∀ e∈l,e.1=2∨e.1=3∨e.1=5)(hf:zeC l):zeB l=sgM l:=by
 obtain ⟨b1,b2⟩:=zqu l h;have hK:(0:Int)<((K22:Nat):Int):=by decide +kernel
 unfold zeB sgM;rcases hf.cases with g | ⟨g,k⟩ | ⟨g,g2,k⟩
 ·rw [if_pos g,if_pos g]
 ·have hne:l ≠ []:=fun e=>by rw [e] at g;simp [lowT] at g
  have:=Int.mul_pos hK g;rw [if_neg hne,if_neg hne,if_pos (by omega),if_pos (by omega)]
 ·have hne:l ≠ []:=fun e=>by rw [e] at g;simp [lowT] at g
  have:=Int.mul_neg_of_pos_of_neg hK g2;rw [if_neg hne,if_neg hne,if_neg (by omega),if_neg (by omega)]
theorem zqw {r:Rat}:sgQ r<0 ↔ r<0:=by
 unfold sgQ;constructor
 ·intro h;by_cases g:r<0
  ·exact g
  ·rw [if_neg g] at h;split at h <;> omega
 ·intro h;rw [if_pos h];decide
theorem zqx {p:List Int}{x y:List Rat}(hp:Pr p x.length)(hl:x.length=y.length)(hq:zh6 p (ze2 x y)):sF p x<sF p y ↔ mF p x<mF p y:=by
 have hzl:=zi6 hl;have hz:Pr p (ze2 x y).length:=by rw [hzl];exact hp
 have h1:=zeE hq.2.2 fun e=>zeR p _ (zeQ hz e);have h2:=zqv (fun e he=>(hq.2.1 e he).1) hq.2.2;have h3:=(znn hz hq.1).1;rw [← h2,h1,zqw,ze4 p x y hl,zng p x y hl] at h3;constructor
 ·intro h;have:=h3.1 (by grind);grind
 ·intro h;have:=h3.2 (by grind);grind
theorem Lw.rs {p:List Int}{c:Int}{l:List (List Rat)}(h:Lw p c l){x:List Rat}(hx:x∈l):rsN p x=rst p x∧flN p x=flP p x:=by
 obtain ⟨n,hn⟩:=h.nic;have hp:Pr p x.length:=by rw [h.len x hx];exact h.pr
 obtain ⟨a,tl,rfl,_,hb⟩:=ziV hp (hn x hx);have e:flN p (a::tl)=flP p (a::tl):=by rw [znJ hp hb,zhU hp hb]
 exact ⟨by unfold rsN rst;rw [e],e⟩
theorem Lw.pl {p:List Int}{c:Int}{l:List (List Rat)}(h:Lw p c l){x:List Rat}(hx:PlN p l x):x=zer p.length∨x=ov (p.length - 1)∨∃ z∈l,x=rst p z:=by
 rcases hx with e | e | ⟨z,hz,e⟩
 ·exact .inl e
 ·exact .inr (.inl e)
 ·exact .inr (.inr ⟨z,hz,by rw [e,(h.rs hz).1]⟩)
theorem Lw.low {p:List Int}{c:Int}{l:List (List Rat)}(h:Lw p c l){x:List Rat}(hx:x=zer p.length∨x=ov (p.length - 1)∨∃ z∈l,x=rst p z):0≤sF p x∧sF p x≤67108864:=by
 rcases hx with rfl | rfl | ⟨z,hz,rfl⟩
 ·rw [ziL];decide
 ·rw [sov h.pr];decide
 ·have:=h.range hz;exact ⟨this.1,Rat.le_of_lt this.2⟩
theorem Lw.two {p:List Int}{c:Int}{l:List (List Rat)}(h:Lw p c l){x y:List Rat}(hx:PlN p l x)(hy:PlN p l y):x.length=p.length∧y.length=p.length∧zh6 p (ze2 x y):=by
 obtain ⟨n,hn⟩:=h.play;have hx2:=h.pl hx;have hy2:=h.pl hy;obtain ⟨l1,n1⟩:=hn x y hx2 hy2;obtain ⟨l2,_⟩:=hn y y hy2 hy2;have b1:=h.low hx2;have b2:=h.low hy2;have hl:x.length=y.length:=l1.trans l2.symm;have hs:=ze4 p x y hl;exact ⟨l1,l2,zi4 (c:=1) (by rw [zi6 hl,l1];exact h.pr) n1 (by omega) (by omega) (by
  rw [show ((1 * 67108864:Int):Rat)=67108864 from rfl];grind) (by
  rw [show ((1 * 67108864:Int):Rat)=67108864 from rfl];grind)⟩
theorem Lw.le {p:List Int}{c:Int}{l:List (List Rat)}(h:Lw p c l):Le p l :=
 ⟨h.pr,h.len,fun x hx=>(h.quick x hx).1,fun x hx=>by
  obtain ⟨a,tl,rfl,hr⟩:=h.red hx;rw [(h.rs hx).1];exact hr.res,fun x y hx hy=>(h.two hx hy).2.2.1⟩
theorem Lw.coll {p:List Int}{c:Int}{l N:List (List Rat)}(h:Lw p c l)(hC:zn8 p l N):ziY p l N:=by
 have hpl:∀ x∈N,PlN p l x:=fun x hx=>by
  rcases (hC.2 x).1 hx with e | ⟨_,y,hy,e⟩
  ·exact .inr (.inl e)
  ·exact .inr (.inr ⟨y,hy,e⟩)
 refine ⟨List.Pairwise.imp_of_mem (fun {x y} hx hy hlt=>?_) hC.1,fun x=>?_⟩
 ·obtain ⟨l1,l2,hq⟩:=h.two (hpl x hx) (hpl y hy);exact (zqx (by rw [l1];exact h.pr) (l1.trans l2.symm) hq).2 hlt
 ·rw [hC.2];constructor
  ·rintro (e | ⟨h1,y,hy,e⟩)
   ·exact .inl e
   ·exact .inr ⟨h1,y,hy,by rw [e,(h.rs hy).1]⟩
  ·rintro (e | ⟨h1,y,hy,e⟩)
   ·exact .inl e
   ·exact .inr ⟨h1,y,hy,by rw [e,(h.rs hy).1]⟩
end
section
open Go.RowKit Go.Lib Go.Shelf
attribute [local go_sem] Oper.semAt_some
theorem zqy (vp vb vl:Value)(p:List Int)(c:Int)(rs:List Qw)(w:World)(hrv:zgm w)(he:Env w)(hp:Sl w vp (zak p))(hb:Rd w vb (ov (p.length - 1)))(hl:RdM w vl rs)(hL:Lw p c (rs.map Qw.x))(hn9:rs.length≤9) :
  Calls Tryz.prog 40 #[vp,vb,vl] w fun e w'=>∃ v out,e=.returned (.tuple #[v,.int .i64 0])∧ScO w' w.heap.size v p out∧ziY p (rs.map Qw.x) (out.map Qw.x)∧Ext w w':=by
 refine (zpu vp vb vl p rs w he hp hb hl hL.le hrv (by omega)).mono ?_;rintro e w1 ⟨v,out,h1,h2,h3,h4⟩;exact ⟨v,out,h1,h2,hL.coll h3,h4⟩
theorem zqz (vp vb vl:Value)(p:List Int)(c:Int)(rs:List Qw)(w:World)(hrv:zgm w)(he:Env w)(hp:Sl w vp (zak p))(hb:Rd w vb (ov (p.length - 1)))(hl:RdM w vl rs)(hL:Lw p c (rs.map Qw.x))(hn9:rs.length≤9) :
  Calls Tryz.prog 12 #[vp,vb,vl] w fun e w'=>∃ vn out,e=.returned (.agg #[vp,vn])∧w'.ownsRow w.heap.size 32 1 vn out.length (qwc out)∧(∀ r∈out,(r.u=vb∧r.x=ov (p.length - 1))∨zfw w' w.heap.size r.u r.x)∧ziY p (rs.map Qw.x) (out.map Qw.x)∧Ext w w':=by
 refine (zqr vp vb vl p rs w he hp hb hl hL.le hrv (by omega)).mono ?_;rintro e w1 ⟨vn,out,h1,h2,h3,h4,h5⟩;exact ⟨vn,out,h1,h2,h3,hL.coll h4,h5⟩
theorem Sn.ft {r:Rat}(h:Sn r):Ft 400 r:=(show Ft 5 r from ⟨Dec.nDigits_le (by omega) (by show _<100000;have:=h.1;omega),Dec.nDigits_le (by omega) (by show _<100000;have:=h.2;omega)⟩).mono (by omega)
theorem zq0 (va:Value)(x:List Rat)(q:Rat)(w:World)(he:Env w)(ha:Rd w va x)(hx9:x.length≤1000)(hx:∀ r∈x,Sn r)(hq:Sn q) :
  Calls Tryz.prog 48 #[va,Rv q] w fun e w'=>∃ u,e=.returned u∧zfw w' w.heap.size u (ze3 x q)∧Ext w w' :=
 zpk va x q w he ha hx9 (fun r h=>(hx r h).ft) hq.ft
end
end Go.Proofs.YtbkfhacmekbniaaGreatDoor
