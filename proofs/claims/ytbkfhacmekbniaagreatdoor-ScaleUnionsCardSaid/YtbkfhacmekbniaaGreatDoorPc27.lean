/- Walk: size.Sort of at most nineteen sizes, by the linear form of 2048 bits. (Printed by wip/colln.py.) Walks: law 31's note at any index to a million. Plain: the notes of a scale at large indices; Find of a note is its index. Plain: numerals in parts of nine digits, as the reference joins them. -/
import Derived.Test.YtbkfhacmekbniaaGreatDoorPc17
import Derived.Test.YtbkfhacmekbniaaGreatDoorPc26
import Derived.Test.YtbkfhacmekbniaaGreatDoorPc20
import Derived.Test.YtbkfhacmekbniaaGreatDoorPc18
import Derived.Test.YtbkfhacmekbniaaGreatDoorPc25
import Derived.Test.YtbkfhacmekbniaaGreatDoorPc21
import Derived.Test.YtbkfhacmekbniaaGreatDoorPc14
import Derived.Test.YtbkfhacmekbniaaGreatDoorPc01
set_option maxRecDepth 100000
set_option maxHeartbeats 4000000
namespace Go.Proofs.YtbkfhacmekbniaaGreatDoor
section
open Go.RowKit Go.Lib Go.Shelf
attribute [local go_sem] Oper.semAt_some
structure znC (p:List Int)(l:List (List Rat)):Prop where
 pe:zfe p=0
 few:p.length≤100
 pr:Pr p p.length
 len:∀ x∈l,x.length=p.length
 ft:∀ x∈l,∀ q∈x,Ft 30 q
 dif:∀ x∈l,∀ y∈l,∀ q∈ze2 x y,Ft 30 q
theorem znC.sgn {p:List Int}{l:List (List Rat)}(h:znC p l):∀ x∈l,∀ y∈l,(sgM (tms p (dn (ze2 x y)) (ze2 x y))<0 ↔ mF p x<mF p y):=fun x hx y hy=>by
 have hl:=(h.len x hx).trans (h.len y hy).symm;rw [(znn (by rw [zi6 hl,h.len x hx];exact h.pr) (h.dif x hx y hy)).1,zng p x y hl];constructor <;> intro g <;> grind
theorem Le.cmpN {p:List Int}{l N:List (List Rat)}(h:Le p l)(hN:∀ x∈N,PlN p l x):znC p N:=by
 have hpe:zfe p=0∧p.length≤100:=by rcases h.pr with ⟨e,_⟩ | ⟨e,_⟩ <;> rw [e] <;> decide
 refine ⟨hpe.1,hpe.2,h.pr,fun x hx=>h.plen (hN x hx),fun x hx q hq=>?_,fun x hx y hy=>h.dif x y (hN x hx) (hN y hy)⟩;rcases hN x hx with e | e | ⟨z,hz,e⟩
 ·rw [e] at hq;rw [List.eq_of_mem_replicate hq];exact zhc.mono (by omega)
 ·rw [e] at hq;exact (zhL q hq).mono (by omega)
 ·rw [e] at hq;exact h.res z hz q hq
def znD (p:List Int)(rs:List Qw)(i:Nat):Rat:=mF p (((rs[i]?).map Qw.x).getD [])
theorem znE {α:Type}(enc:α→Value)(key:α→Rat)(g:Nat)(cb:Array Value)(B blk cap:Nat)(d:List α)(w:World)(hR:w.ownsRow B 3 1 (.slice (some ⟨blk,0,none⟩) d.length cap) d.length (d.map enc))(hl:d.length≤19)(h1:OneCell enc)
  (eg:∀ args w,(callFunc g args).run Tryz.prog w=.ok (.enter g args) w)
  (hcmp:∀ W,w.grownBy W (some blk)→∀ x∈d,∀ y∈d,Calls Tryz.prog g (#[enc x,enc y]++cb) W fun e w'=>(∃ z:Int,e=.returned (.int .i64 z)∧(z<0 ↔ key x<key y))∧Ext W w') :
  Calls Tryz.prog 107 #[.slice (some ⟨blk,0,none⟩) d.length cap,.func (.func g) #[] cb] w fun e w'=>e=.returned (.tuple #[])∧∃ d',InR 3 w B blk cap enc d w' d'∧d'.Pairwise fun x y=>key x≤key y:=by
 have hi:=zjf enc key g cb B blk cap d d w w ⟨List.Perm.refl _,hR,zfo _ _⟩ (by omega) h1 eg hcmp;have h2:Calls Tryz.prog 153 #[.slice (some ⟨blk,0,none⟩) d.length cap,.int .i64 d.length,.func (.func g) #[] cb] w fun e w'=>e=.returned (.tuple #[])∧∃ d',InR 3 w B blk cap enc d w' d'∧d'.Pairwise fun x y=>key x≤key y:=by
  generalize hn:d.length=n at *;have Hi:=hid hi;clear hi hR hcmp hn;have t1:¬ (20:Int)≤(n:Int):=by omega
  have t2:¬ (20:Int)<(n:Int):=by omega
  go_enter Tryz.func153,Tryz.ntmps153
  go_wp2_with fail
  refine wp_loop_rounds 1 ?_;rw [rounds_succ];go_wp2_with fail
  refine Hi.out.mono ?_;rintro e w1 ⟨rfl,hd⟩;have Hd:=hid hd;clear hd;go_wp2_with fail
  refine wp_loop_rounds 1 ?_;rw [rounds_succ];go_wp2
  go_end0
  exact ⟨rfl,Hd.out⟩
 generalize hn:d.length=n at *;have H2:=hid h2;clear hi hR hcmp hn h2;go_enter Tryz.func107,Tryz.ntmps107
 go_wp2_with fail
 refine H2.out.mono ?_;rintro e w1 ⟨rfl,hd⟩;have Hd:=hid hd;clear hd;go_wp2
 go_end0
 exact ⟨rfl,Hd.out⟩
theorem znF (vp vl:Value)(p:List Int)(rs:List Qw)(bp bl:Nat)(i k:Nat)(w:World)(he:Env w)(h0:w.cell? ⟨bp,0,none⟩=some vp)(h1:w.cell? ⟨bl,0,none⟩=some vl)(hp:Sl w vp (zak p))(hl:RdM w vl rs)(hc:znC p (rs.map Qw.x))(hrv:zgm w)(hi:i<rs.length)(hk:k<rs.length)(_hn:rs.length≤1000) :
  Calls Tryz.prog 108 #[.int .i64 i,.int .i64 k,.pointer (some ⟨bp,0,none⟩),.pointer (some ⟨bl,0,none⟩)] w fun e w'=>(∃ z:Int,e=.returned (.int .i64 z)∧(z<0 ↔ znD p rs i<znD p rs k))∧Ext w w':=by
 obtain ⟨r,hr⟩:∃ r,rs[i]?=some r:=⟨_,List.getElem?_eq_getElem hi⟩;obtain ⟨s,hs⟩:∃ s,rs[k]?=some s:=⟨_,List.getElem?_eq_getElem hk⟩;have hrm:=List.mem_of_getElem? hr;have hsm:=List.mem_of_getElem? hs;have hrx:=List.mem_map_of_mem (f:=Qw.x) hrm;have hsx:=List.mem_map_of_mem (f:=Qw.x) hsm;have hco:=fun W (hE:Ext w W)=>znu vp r.u s.u p r.x s.x W (he.ext hE) (hE.sl hp) (hE.rd (hl.2 r hrm)) (hE.rd (hl.2 s hsm)) hc.few (hc.len _ hrx) (hc.len _ hsx) (fun q hq=>(hc.ft _ hrx q hq).mono (by omega)) (fun q hq=>(hc.ft _ hsx q hq).mono (by omega)) hc.pr (hc.dif _ hrx _ hsx) (hrv.ext hE);have hsg:=hc.sgn _ hrx _ hsx;have hkey:znD p rs i=mF p r.x∧znD p rs k=mF p s.x:=by unfold znD;rw [hr,hs];exact ⟨rfl,rfl⟩
 rw [hkey.1,hkey.2];obtain ⟨ap,cp,rfl,_,_,_⟩:=hp.parts;obtain ⟨al,cl,rfl,_,_,hcl⟩:=hl.1.parts;obtain ⟨b,off,rfl,h2⟩:=hcl i r.u (by unfold qwc;rw [List.getElem?_map,hr];rfl);obtain ⟨b',off',e',h3⟩:=hcl k s.u (by unfold qwc;rw [List.getElem?_map,hs];rfl)
 cases e'
 obtain ⟨ar,cr,hru,_,_,_⟩:=(hl.2 r hrm).parts;obtain ⟨as',cs,hsu,_,_,_⟩:=(hl.2 s hsm).parts;rw [hru] at hco h2;rw [hsu] at hco h3;rw [zam] at *;rw [zfz] at *;generalize r.x.length=n1 at *;generalize s.x.length=n2 at *;generalize sgM (tms p (dn (ze2 r.x s.x)) (ze2 r.x s.x))=z at *;generalize rs.length=n at *;have hi0:(0:Int)≤(i:Int):=by omega
 have hi1:(i:Int)<(n:Int):=by omega
 have hk0:(0:Int)≤(k:Int):=by omega
 have hk1:(k:Int)<(n:Int):=by omega
 clear he hrv hp hl hc hr hs hrm hsm hrx hsx hkey hcl hru hsu;have Hco:=hid hco;have Hsg:=hid hsg;clear hco hsg;go_enter Tryz.func108,Tryz.ntmps108
 go_wp2_with fail
 go_region_held3 (fun w'=>Ext w w'∧w'.cell? ⟨bp,0,none⟩=some (.slice ap p.length cp)∧w'.cell? ⟨bl,0,none⟩=some (.slice (some ⟨b,off,none⟩) n cl)∧w'.cell? ⟨b,off+i,none⟩=some (.slice ar n1 cr)∧w'.cell? ⟨b,off+k,none⟩=some (.slice as' n2 cs))
  (first | (with_reducible assumption) | exact ⟨(Ext.refl w).drew,h0,h1,h2,h3⟩)
  (first | (go_at_call 109;refine (Hco.out _ (And.left (by assumption))).mono ?_;rintro e9 VA ⟨rfl,hxa⟩;have hEA:=((Ext.refl w).drew).trans hxa;have hS2:Ext w VA∧VA.cell? ⟨bp,0,none⟩=some (.slice ap p.length cp)∧VA.cell? ⟨bl,0,none⟩=some (.slice (some ⟨b,off,none⟩) n cl)∧VA.cell? ⟨b,off+i,none⟩=some (.slice ar n1 cr)∧VA.cell? ⟨b,off+k,none⟩=some (.slice as' n2 cs):=⟨hEA,hEA.cell h0,hEA.cell h1,hEA.cell h2,hEA.cell h3⟩;have HEA:=hid hEA;clear hxa hEA))
 all_goals
  clear hS2 h0 h1 h2 h3;go_wp2
  go_ret
  exact ⟨⟨z,rfl,Hsg.out⟩,HEA.out⟩
def znG (w':World)(B:Nat)(u:Value)(p:List Int)(rs:List Qw)(ord:List Nat):Prop:=w'.ownsRow B 3 1 u rs.length (zjm ord)∧ord.Perm (List.range rs.length)∧ord.Pairwise fun i k=>znD p rs i≤znD p rs k
theorem znH (vp vl:Value)(p:List Int)(rs:List Qw)(w:World)(he:Env w)(hp:Sl w vp (zak p))(hl:RdM w vl rs)(hc:znC p (rs.map Qw.x))(hrv:zgm w)(hn12:rs.length≤19) :
  Calls Tryz.prog 76 #[vp,vl] w fun e w'=>∃ u ord,e=.returned (.tuple #[u,.int .i64 0])∧znG w' w.heap.size u p rs ord∧Ext w w':=by
 obtain ⟨i0,hi,hz0,hz1,hz2⟩:=info_parts zfj;have hall:∀ r∈rs,r.x.length=p.length∧∀ q∈r.x,Ft 30 q:=fun r hr=>⟨hc.len _ (List.mem_map_of_mem hr),hc.ft _ (List.mem_map_of_mem hr)⟩;have hca:=fun W (hE:Ext w W)=>zfH vp vl p rs W (he.ext hE) (hE.sl hp) (hE.rdM hl) hc.pe (by omega) hall;have hs1:=fun W W' (bp bl i k:Nat)(hE:Ext w W)(hg:W.grownBy W' none)=>True.intro;clear hs1;have hcl:=fun W (bp bl i k:Nat)(he':Env W)(hr':zgm W)(h0:W.cell? ⟨bp,0,none⟩=some vp)(h1:W.cell? ⟨bl,0,none⟩=some vl)(hp':Sl W vp (zak p))(hl':RdM W vl rs)(hi:i<rs.length)(hk:k<rs.length)=>znF vp vl p rs bp bl i k W he' h0 h1 hp' hl' hc hr' hi hk (by omega);obtain ⟨ap,cp,rfl,_,_,_⟩:=hp.parts;obtain ⟨al,cl,rfl,_,_,_⟩:=hl.1.parts;rw [zam] at *;rw [zfz] at *;have hE0:Ext w ((w.alloc (.cells #[.slice ap p.length cp] 29)).alloc (.cells #[.slice al rs.length cl] 34)):=((Ext.refl w).alloc _).alloc _;have b1:((w.alloc (.cells #[.slice ap p.length cp] 29)).alloc (.cells #[.slice al rs.length cl] 34)).heap[w.heap.size]?=some (.cells #[.slice ap p.length cp] 29 (0,0)):=((Ext.refl _).alloc _).heap (World.alloc_heap_new w _);have b2:((w.alloc (.cells #[.slice ap p.length cp] 29)).alloc (.cells #[.slice al rs.length cl] 34)).heap[w.heap.size+1]?=some (.cells #[.slice al rs.length cl] 34 (0,0)):=by
  have:=World.alloc_heap_new (w.alloc (.cells #[.slice ap p.length cp] 29)) (.cells #[.slice al rs.length cl] 34);rwa [World.size_alloc] at this
 generalize hn:rs.length=n at *;have Hn:=hid hn;have Hp:=hid hp;have Hl:=hid hl;have Hcl:=hid hcl;have HE0:=hid hE0;have B1:=hid b1;have B2:=hid b2;have Hca:=hid hca;have He:=hid he;have Hrv:=hid hrv;clear hp hl hc hall hcl hE0 b1 b2 hca he hrv hn;have cell1:∀ (W:World)(b:Nat)(x:Value)(t:TypeId),W.heap[b]?=some (.cells #[x] t (0,0))→W.cell? ⟨b,0,none⟩=some x:=fun W b x t h=>by unfold World.cell?;dsimp only;rw [h];rfl
 have Cell1:=hid cell1;clear cell1;go_enter Tryz.func76,Tryz.ntmps76
 have q0:=Cell1.out _ _ _ _ B1.out;have q1:=Cell1.out _ _ _ _ B2.out;go_wp2_with fail
 refine (Hca.out _ HE0.out).mono ?_;rintro e w1 ⟨rfl,hx1⟩;have q0:=hx1.cell q0;have q1:=hx1.cell q1;have Hx1:=hid hx1;clear hx1;go_wp2_with fail
 go_loopw [7,8,17] (fun v7 v8 v17 wr=>∃ k:Nat,v17=.int .i64 k∧k≤n∧wr.ownsRow w1.heap.size 3 1 v7 k (zjm (List.range k))∧Ext w1 wr) (fun _ _ v17 _=>n - (zag v17).toNat)
 case atStart=>exact ⟨0,rfl,Nat.zero_le _,World.ownsRow_nil w1 _ _ 1,Ext.refl _⟩
 case round =>
  clear q0 q1;obtain ⟨k,rfl,hk,ho,hE⟩:=hrel;obtain ⟨a7,c7,rfl⟩:=zfl ho;by_cases hkn:k<n
  ·have hk1:(k:Int)<(n:Int):=(by omega);have hm3:k+1≤maxLen:=(by unfold maxLen;omega);have hm4:(k+1) * 8≤140737488355328:=(by omega);have hbase:=hE.size;have HE:=hid hE;clear hE;go_wp2_with (at_builtin;refine wpList_append_own _ rfl _ _ 28 rfl w1.heap.size 3 i0 (.int .i64 0) 1 8 Tryz.underlying28 hi hz0 hz1 hz2 rfl (by decide) _ _ _ rfl (ho.alloc _) ⟨wr.heap.size,0,none⟩ 1 1 [.int .i64 k] rfl rfl (cell_one_new _ _ _) (by simp [Value.oneCell']) hm3 hm4 (by rw [World.size_alloc];omega) ?_;intro v7 V7 hown7 hgrow7 _)
   go_roundw
   case rel=>exact ⟨k+1,by go_num,by omega,by rw [zjn];exact hown7,(HE.out.alloc _).grown hgrow7 fun j hj=>(World.ownsRow.lt ho j hj).1⟩
   case measure=>simp [zag];omega
  ·obtain rfl:n=k:=by omega
   have q0:=hE.cell (Hx1.out.cell (Cell1.out _ _ _ _ B1.out));have q1:=hE.cell (Hx1.out.cell (Cell1.out _ _ _ _ B2.out));have hEw:=(HE0.out.trans Hx1.out).trans hE;have hlo:=(HE0.out.trans Hx1.out).size;have HE:=hid hE;have HEw:=hid hEw;clear hE hEw;rcases ho.2 with ⟨e0,hn0⟩ | ⟨g,cap,cur,e0,hb,hg,h1,h2,h3,h4⟩
   ·obtain rfl:n=0:=hn0;injection e0 with e1 e2 e3;subst e1;subst e3;have hst:=fun W=>zjg 108 #[.pointer (some ⟨w.heap.size,0,none⟩),.pointer (some ⟨w.heap.size+1,0,none⟩)] W;have Hst:=hid hst;clear hst ho e2;go_wp2_with fail
    refine (Hst.out _).mono ?_;rintro e w5 ⟨rfl,hx5⟩;have Hx5:=hid hx5;clear hx5 q0 q1;go_wp2
    go_ret2
    exact ⟨_,[],rfl,⟨by rw [Hn.out];exact World.ownsRow_nil _ _ _ 1,by rw [Hn.out];exact List.Perm.refl _,List.Pairwise.nil⟩,HEw.out.trans Hx5.out⟩
   ·injection e0 with e1 e2 e3;subst e1;subst e3;have hgne:g ≠ w.heap.size∧g ≠ w.heap.size+1:=by
     have l1:w.heap.size+1<w1.heap.size:=by
      have:=Hx1.out.heap B2.out;exact (Array.getElem?_eq_some_iff.1 this).1
     omega
    have hpr:∀ W,wr.grownBy W (some g)→Sl W (.slice ap p.length cp) (zak p)∧RdM W (.slice al n cl) rs∧(Env W∧zgm W)∧W.cell? ⟨w.heap.size,0,none⟩=some (.slice ap p.length cp)∧W.cell? ⟨w.heap.size+1,0,none⟩=some (.slice al n cl):=fun W hg=>by
     have hx:Ext w W:=HEw.out.grown hg (fun k hk=>by cases hk;omega);refine ⟨hx.sl Hp.out,hx.rdM Hl.out,⟨He.out.ext hx,Hrv.out.ext hx⟩,?_,?_⟩
     ·exact Cell1.out _ _ _ _ ((hg.block _ (by have:=HE.out.size;have:=(Array.getElem?_eq_some_iff.1 (Hx1.out.heap B1.out)).1;omega) (by intro e;cases e;exact hgne.1 rfl)).trans ((HE.out.heap (Hx1.out.heap B1.out))))
     ·exact Cell1.out _ _ _ _ ((hg.block _ (by have:=HE.out.size;have:=(Array.getElem?_eq_some_iff.1 (Hx1.out.heap B2.out)).1;omega) (by intro e;cases e;exact hgne.2 rfl)).trans ((HE.out.heap (Hx1.out.heap B2.out))))
    have hst:=znE (fun i:Nat=>Value.int .i64 (i:Int)) (znD p rs) 108 #[.pointer (some ⟨w.heap.size,0,none⟩),.pointer (some ⟨w.heap.size+1,0,none⟩)] w1.heap.size g c7 (List.range n) wr (by rw [List.length_range];exact ho) (by rw [List.length_range];exact hn12) (fun _=>rfl) zjo (fun W hg x hx y hy=>by
     obtain ⟨a1,a2,a3,a4,a5⟩:=hpr W hg;rw [List.mem_range] at hx hy;exact Hcl.out W w.heap.size (w.heap.size+1) x y a3.1 a3.2 a4 a5 a1 a2 hx hy)
    rw [List.length_range] at hst;have Hst:=hid hst;clear hst hpr ho hg h1 h2 h3 h4 q0 q1 e2;go_wp2_with fail
    refine Hst.out.mono ?_;rintro e w5 ⟨rfl,d5,hR5,hS5⟩;have HR5:=hid hR5;have HS5:=hid hS5;clear hR5 hS5;go_wp2
    go_ret2
    have hown:=HR5.out.own;rw [List.length_range] at hown;exact ⟨_,d5,rfl,⟨by rw [Hn.out];exact zah hown hlo,by rw [Hn.out];exact HR5.out.perm,HS5.out⟩,HEw.out.grown HR5.out.only fun k hk=>by cases hk;omega⟩
end
section
open Go.RowKit Go.Lib
theorem znI {n:Nat}{p:List Int}{x:List Rat}(hp:Pr p x.length)(h:Nic n x):∀ r∈x,r.den≤60:=by
 rcases h with ⟨_,hb⟩ | ⟨hn,hn9,ho⟩
 ·rcases hp with ⟨_,hl⟩ | ⟨_,hl⟩
  ·match x,hl,hb with
   | [a,b],_,⟨A,B,ha,hb2,_,_⟩ =>
    have ha2:=(zeF ha).2
    intro r hr
    simp only [List.mem_cons,List.not_mem_nil,or_false] at hr
    rcases hr with rfl | rfl
    ·omega
    ·rcases zeG hb2 with ⟨e1,_⟩ | ⟨e1,_⟩ <;> omega
  ·match x,hl,hb with
   | [a,b,d],_,⟨A,B,C,ha,hb2,hd,_⟩ =>
    have ha2:=(zeF ha).2
    have hd2:=(zeF hd).2
    intro r hr
    simp only [List.mem_cons,List.not_mem_nil,or_false] at hr
    rcases hr with rfl | rfl | rfl
    ·omega
    ·rcases zeG hb2 with ⟨e1,_⟩ | ⟨e1,_⟩ <;> omega
    ·omega
 ·rcases hp with ⟨_,hl⟩ | ⟨_,hl⟩
  ·match x,hl,ho with
   | [a,b],_,⟨hb,A,ha⟩ =>
    subst hb
    have:=(ziz hn ha).1
    intro r hr
    simp only [List.mem_cons,List.not_mem_nil,or_false] at hr
    rcases hr with rfl | rfl
    ·omega
    ·decide
  ·match x,hl,ho with
   | [a,b,d],_,⟨hb,hd,A,ha⟩ =>
    subst hb hd
    have:=(ziz hn ha).1
    intro r hr
    simp only [List.mem_cons,List.not_mem_nil,or_false] at hr
    rcases hr with rfl | rfl | rfl
    ·omega
    ·decide
    ·decide
theorem Wd.mem_sn2 {p:List Int}{N:List (List Rat)}(h:Wd p N){x:List Rat}(hx:x∈N):∀ r∈x,r.num.natAbs≤30000∧r.den≤60:=by
 obtain ⟨n,hn⟩:=h.dif;have hl:=h.len x hx;have hz:=hn x (List.mem_cons_of_mem _ hx) (zer p.length) (List.mem_cons_self ..);rw [← hl,zi7] at hz;have hp:Pr p x.length:=by rw [hl];exact h.pr
 obtain ⟨i,hi,e⟩:=List.mem_iff_getElem.1 hx;have hlow:=h.nt_low (i:=i+1) (by omega);have e2:zat p N (i+1)=x:=by unfold zat;rw [List.getElem?_cons_succ,List.getElem?_eq_getElem hi,e];rfl
 have hb:=h.nt_bd ((i+1:Nat):Int);rw [hlow,e2] at hb;have hq0:0≤((i+1:Nat):Int) / (N.length:Int):=Int.ediv_nonneg (by omega) (by omega);have hq1:((i+1:Nat):Int) / (N.length:Int)≤1:=by
  have h0:=h.pos;exact Int.ediv_le_of_le_mul (by omega) (by omega)
 have c1:((0:Int):Rat)≤((((i+1:Nat):Int) / (N.length:Int):Int):Rat):=Rat.intCast_le_intCast.2 hq0;have c2:((((i+1:Nat):Int) / (N.length:Int):Int):Rat)≤((1:Int):Rat):=Rat.intCast_le_intCast.2 hq1;have z0:((0:Int):Rat)=0:=rfl;have z1:((1:Int):Rat)=1:=rfl;rw [z0] at c1;rw [z1] at c2;have hc:((2 * 67108864:Int):Rat)=2 * 67108864:=by rw [Rat.intCast_mul];rfl
 have hsn:=zkm (c:=2) hp hz (by omega) (by omega) (by rw [hc];grind) (by rw [hc];grind);intro r hr;exact ⟨(hsn r hr).1,znI hp hz r hr⟩
end
section
theorem znJ {p:List Int}{a:Rat}{tl:List Rat}(hp:Pr p (a::tl).length)(hb:Bx 256 (a::tl)∨∀ r∈tl,r=0):flN p (a::tl)=(sF p (a::tl) / 67108864).floor:=by
 rw [← zhU hp hb];by_cases h:∀ r∈tl,r=0
 ·rw [zme hp h];unfold flP;rw [List.tail_cons,if_pos (by rw [List.all_eq_true];simpa using h)];rfl
 ·have he:=zhS hp (hb.resolve_right h) h;rw [zmc (zmd hp _) he.1 he.2];unfold flP;rw [List.tail_cons,if_neg (by rw [List.all_eq_true];simpa using h),he.1]
theorem znK {n:Nat}{p:List Int}{a:Rat}{tl:List Rat}(hp:Pr p (a::tl).length)(h:Nic n (a::tl)):Bx 256 (a::tl)∨∀ r∈tl,r=0:=by
 rcases h with ⟨_,hb⟩ | ⟨_,_,ho⟩
 ·exact .inl hb
 ·right;rcases hp with ⟨_,hl⟩ | ⟨_,hl⟩
  ·match tl,hl,ho with
   | [b],_,⟨hb,_⟩=>intro r hr;rw [List.mem_singleton] at hr;subst hr;exact hb
  ·match tl,hl,ho with
   | [b,c],_,⟨hb,hc,_⟩ =>
    intro r hr
    simp only [List.mem_cons,List.not_mem_nil,or_false] at hr
    rcases hr with rfl | rfl
    ·exact hb
    ·exact hc
theorem znL {s:Rat}{q:Int}(h1:(q:Rat) * 67108864≤s)(h2:s<(q:Rat) * 67108864+67108864):(s / 67108864).floor=q:=by
 have a1:q≤(s / 67108864).floor:=Rat.le_floor_iff.2 (by grind);have a2:(s / 67108864).floor<q+1:=by
  rw [Rat.floor_lt_iff,Rat.intCast_add,show ((1:Int):Rat)=1 from rfl];grind
 omega
section
variable {p : List Int} {N : List (List Rat)} (h : Wd p N)
include h
theorem Wd.idx (k:Int):∃ i:Nat,k % (N.length:Int)=i∧i<N.length∧k=k / (N.length:Int) * (N.length:Int)+i:=by
 have h0:=h.pos;have e1:=Int.emod_nonneg k (show (N.length:Int) ≠ 0 by omega);have e2:=Int.emod_lt_of_pos k (show (0:Int)<(N.length:Int) by omega);refine ⟨(k % (N.length:Int)).toNat,by omega,by omega,?_⟩;have:=Int.mul_ediv_add_emod k (N.length:Int);rw [Int.mul_comm] at this;omega
theorem Wd.nt_floor (k:Int):∃ a tl,nt p N k=a::tl∧Pr p (tl.length+1)∧flN p (a::tl)=k / (N.length:Int):=by
 obtain ⟨n,hn⟩:=h.dif;obtain ⟨i,hi,hil,_⟩:=h.idx k;have hl:=h.ntlen k;have hp0:=(ziM h.pr).2;match he:nt p N k,hl with
 | [],hl=>exact absurd hl (by rw [List.length_nil];omega)
 | a::tl,hl =>
  have hp:Pr p (a::tl).length:=by rw [hl];exact h.pr
  have hnic:=h.nt_nic hn k 0
  rw [h.nt_zero,← h.ntlen k,zi7,he] at hnic
  refine ⟨a,tl,rfl,hp,?_⟩
  rw [znJ hp (znK hp hnic),← he]
  have hs:=h.sF_nt k
  have hz:=h.zbd (i:=(k % (N.length:Int)).toNat) (by omega)
  exact znL (by grind) (by grind)
theorem Wd.nt_rest (k:Int):ze1 (nt p N k) (ze3 (ov (p.length - 1)) ((-(k / (N.length:Int)):Int):Rat))=zat p N (k % (N.length:Int)).toNat:=by
 obtain ⟨i,hi,hil,_⟩:=h.idx k;have hp0:=(ziM h.pr).2;have hzl:=h.zlen (i:=(k % (N.length:Int)).toNat) (by omega);have hc:∀ (x y:List Rat),ze1 x y=ze1 y x:=fun x y=>by unfold ze1;rw [List.zipWith_comm];congr 1;funext a b;exact Rat.add_comm _ _
 rw [hc,ziI,show p.length - 1+1=p.length by omega,← h.ntlen k,ziJ,nt,ziB,show k / (N.length:Int)+-(k / (N.length:Int))=0 by omega,ziC]
end
end
section
open Go.RowKit Go.Lib
theorem znM : ∀ {a b:List UInt8},Dec.Dig a→Dec.Dig b→a.length=b.length→Dec.val 0 a=Dec.val 0 b→a=b
 | [],[],_,_,_,_=>rfl
 | [],_::_,_,_,h,_=>by cases h
 | _::_,[],_,_,h,_=>by cases h
 | c::a,d::b,ha,hb,hl,hv=>by
  have hc:=ha c (List.mem_cons_self ..);have hd:=hb d (List.mem_cons_self ..);have ha':Dec.Dig a:=fun x hx=>ha x (List.mem_cons_of_mem _ hx);have hb':Dec.Dig b:=fun x hx=>hb x (List.mem_cons_of_mem _ hx);have hl':a.length=b.length:=by simpa using hl
  have h1:=Dec.val_lt a ha';have h2:=Dec.val_lt b hb';rw [Dec.val_cons,Dec.val_cons,Dec.val_acc a,Dec.val_acc b,← hl',Nat.mul_zero,Nat.zero_add,Nat.zero_add] at hv;rw [← hl'] at h2;have e:Dec.dv c=Dec.dv d:=by
   have k1:(Dec.dv c * 10 ^ a.length+Dec.val 0 a) / 10 ^ a.length=Dec.dv c:=by
    rw [Nat.mul_comm,Nat.mul_add_div (Nat.pos_of_ne_zero (by simp)),Nat.div_eq_of_lt h1,Nat.add_zero]
   have k2:(Dec.dv d * 10 ^ a.length+Dec.val 0 b) / 10 ^ a.length=Dec.dv d:=by
    rw [Nat.mul_comm,Nat.mul_add_div (Nat.pos_of_ne_zero (by simp)),Nat.div_eq_of_lt h2,Nat.add_zero]
   rw [← k1,← k2,hv]
  have e2:c=d:=by
   unfold Dec.dv at e;apply UInt8.toNat_inj.1;omega
  rw [e] at hv;rw [e2,znM ha' hb' hl' (by omega)]
theorem znN {n k:Nat}(h1:10 ^ k≤n)(h2:n<10 ^ (k+1)):nDigits n=k+1:=by
 have a:=Dec.nDigits_le (n:=n) (k:=k+1) (by omega) h2;have b:¬ nDigits n≤k:=fun h=>by
  have:=lt_pow_nDigits n;have:=Nat.pow_le_pow_right (n:=10) (by decide) h;omega
 omega
theorem znO {h l:Nat}(hh:0<h)(hl:l<1000000000):decDigits (h * 1000000000+l)=decDigits h++(List.replicate (9 - nDigits l) 48++decDigits l):=by
 have hd9:=Dec.nDigits_le (n:=l) (k:=9) (by decide) hl;have hz:∀ k:Nat,Dec.Dig (List.replicate k 48):=fun k c hc=>by rw [(List.mem_replicate.1 hc).2];decide
 have hv:∀ k acc:Nat,Dec.val acc (List.replicate k 48)=acc * 10 ^ k:=fun k=>by
  induction k with
  | zero=>intro acc;rw [List.replicate_zero,Dec.val_nil,Nat.pow_zero,Nat.mul_one]
  | succ k ih =>
   intro acc
   rw [List.replicate_succ,Dec.val_cons,ih,show Dec.dv 48=0 from rfl,Nat.add_zero,Nat.pow_succ,Nat.mul_comm 10 acc,Nat.mul_assoc,Nat.mul_comm 10]
 refine znM (Dec.dig_dec _) (Dec.dig_append (Dec.dig_dec _) (Dec.dig_append (hz _) (Dec.dig_dec _))) ?_ ?_
 ·simp only [List.length_append,List.length_replicate,decDigits_length];have a:=lt_pow_nDigits h;have b:=Dec.pow_le_of_nDigits h (by omega);have hn:=nDigits_pos h;have e:(10:Nat) ^ (nDigits h - 1+9)=10 ^ (nDigits h - 1) * 1000000000:=by rw [Nat.pow_add]
  have e2:(10:Nat) ^ (nDigits h+9)=10 ^ nDigits h * 1000000000:=by rw [Nat.pow_add]
  have h1:10 ^ (nDigits h - 1+9)≤h * 1000000000+l:=by
   rw [e];exact Nat.le_trans (Nat.mul_le_mul_right 1000000000 b) (Nat.le_add_right _ _)
  have h2:h * 1000000000+l<10 ^ (nDigits h - 1+9+1):=by
   rw [show nDigits h - 1+9+1=nDigits h+9 by omega,e2];have h3:h * 1000000000+l<(h+1) * 1000000000:=by
    rw [Nat.add_mul,Nat.one_mul];exact Nat.add_lt_add_left hl _
   exact Nat.lt_of_lt_of_le h3 (Nat.mul_le_mul_right 1000000000 a)
  clear e e2;rw [znN h1 h2];omega
 ·rw [Dec.val_dec,Dec.val_append,Dec.val_dec,Dec.val_append,hv,Dec.val_acc,decDigits_length,Dec.val_dec,Nat.mul_assoc,← Nat.pow_add,show 9 - nDigits l+nDigits l=9 by omega]
end
end Go.Proofs.YtbkfhacmekbniaaGreatDoor
