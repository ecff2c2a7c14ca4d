/- Walks: subset: a query as data; checkNotes, Check. A range over a function whose iterator writes blocks of its own between two rounds; every round is left off its end. Walks: subset.subsets: the recursion that yields the candidates in order. Walks: subset.subsets: the recursion where the list is full. -/
import Derived.Test.YtebabancfnmfjaaGreatDoorPm28
import Derived.Test.YtebabancfnmfjaaGreatDoorPm00
import Derived.RangeFuncNested
import Derived.RangeFuncRecord
import Derived.RangeFuncBound
import Derived.Test.YtebabancfnmfjaaGreatDoorPm10
import Derived.Shelf.RegionOpen
import Derived.Laws.OwnMore
set_option maxRecDepth 100000
set_option maxHeartbeats 2000000
namespace Go.Proofs.YtebabancfnmfjaaGreatDoor
section
open Go.RowKit Go.Lib Go.Shelf
attribute [local go_sem] Oper.semAt_some
def QyV (w:World)(v:Value)(p:List Int)(rs:List Qw)(m P:Int)(M:List Int)(b:Bool):Prop:=∃ vp vn vm,v=.agg #[vp,vn,.int .i64 m,.int .i64 P,vm,.bool b]∧Sl w vp (zaq p)∧RdM w vn rs∧Sl w vm (zaq M)
theorem QyV.ext {w w':World}{v:Value}{p:List Int}{rs:List Qw}{m P:Int}{M:List Int}{b:Bool}(h:QyV w v p rs m P M b)(hx:Ext w w'):QyV w' v p rs m P M b:=by
 obtain ⟨vp,vn,vm,e,h1,h2,h3⟩:=h;exact ⟨vp,vn,vm,e,hx.sl h1,hx.rdM h2,hx.sl h3⟩
theorem QyV.let {w:World}{v:Value}{p:List Int}{rs:List Qw}{m P:Int}{M:List Int}{b:Bool}(h:QyV w v p rs m P M b) :
  ∃ ap cp an cn am cm,v=.agg #[.slice ap p.length cp,.slice an rs.length cn,.int .i64 m,.int .i64 P,.slice am M.length cm,.bool b]∧ScV w (.agg #[.slice ap p.length cp,.slice an rs.length cn]) p rs∧Sl w (.slice am M.length cm) (zaq M):=by
 obtain ⟨vp,vn,vm,rfl,h1,h2,h3⟩:=h;obtain ⟨ap,cp,rfl,_,_,_⟩:=h1.parts;obtain ⟨an,cn,rfl,_,_,_⟩:=h2.1.parts;obtain ⟨am,cm,rfl,_,_,_⟩:=h3.parts;rw [zas] at *;rw [zas] at *;rw [zf0] at *;exact ⟨ap,cp,an,cn,am,cm,rfl,⟨_,_,rfl,h1,h2⟩,h3⟩
def znn (w:World)(k:Nat)(vp vn:Value)(m P:Int)(vm:Value)(b:Bool):Prop:=w.heap[k]?=some (.cells #[vp,vn,.int .i64 m,.int .i64 P,vm,.bool b] 59 (0,0))
section
variable {w w' : World} {k : Nat} {vp vn vm : Value} {m P : Int} {b : Bool}
theorem znn.new (w:World)(vp vn:Value)(m P:Int)(vm:Value)(b:Bool):znn (w.alloc (.cells #[vp,vn,.int .i64 m,.int .i64 P,vm,.bool b] 59)) w.heap.size vp vn m P vm b:=World.alloc_heap_new w _
theorem znn.ext (h:znn w k vp vn m P vm b)(hx:Ext w w'):znn w' k vp vn m P vm b:=hx.heap h
theorem znn.cs (h:znn w k vp vn m P vm b):w.cell? ⟨k,0,none⟩=some vp∧w.cell? ⟨k,1,none⟩=some vn∧w.cell? ⟨k,2,none⟩=some (.int .i64 m)∧w.cell? ⟨k,3,none⟩=some (.int .i64 P)∧w.cell? ⟨k,4,none⟩=some vm∧w.cell? ⟨k,5,none⟩=some (.bool b):=by
 unfold znn at h;unfold World.cell?;dsimp only;rw [h];exact ⟨rfl,rfl,rfl,rfl,rfl,rfl⟩
end
theorem zno (vl:Value)(l:List Int)(n:Nat)(w:World)(hvl:Sl w vl (zaq l))(hl:l.length≤1000000) :
  Calls Tryz.prog 77 #[vl,.int .i64 (n:Int)] w fun e w'=>e=.returned (.int .i64 (zkU n l 0 l.length))∧w=w':=by
 obtain ⟨al,cl,rfl,_,hcl,hlc⟩:=hvl.parts;have hlat:∀ k,k<l.length→∃ b off,al=some ⟨b,off,none⟩∧w.cell? ⟨b,off+k,none⟩=some (.int .i64 ((l[k]?).getD 0)):=fun k hk=>by
  obtain ⟨b,off,e,hc⟩:=hlc k (.int .i64 ((l[k]?).getD 0)) (by unfold zaq;rw [List.getElem?_map,List.getElem?_eq_getElem hk];rfl);exact ⟨b,off,e,hc⟩
 rw [zas] at *;have Hlat:=Lib.hid hlat;clear hvl hlc hlat;generalize hLl:l.length=L at *;have HLl:=Lib.hid hLl;clear hLl;go_enter Tryz.func77,Tryz.ntmps77
 go_wp2_with fail
 go_loopw [5,6,9] (fun v5 v6 v9 wr=>∃ k:Nat,v9=.int .i64 k∧k≤L∧Hid (zkU n l 0 L=zkU n l k (L - k))∧wr=w) (fun _ _ v9 _=>L - (zam v9).toNat)
 case atStart=>exact ⟨0,rfl,Nat.zero_le _,Lib.hid rfl,rfl⟩
 case round =>
  obtain ⟨k,rfl,hk,HS,rfl⟩:=hrel;by_cases hkl:k<L
  ·obtain ⟨b,off,rfl,hc⟩:=Hlat.out k hkl;have hgo:zkT n l k=0→zkU n l 0 L=zkU n l (k+1) (L - (k+1)):=fun e=>by
    have:=zkW (n:=n) (l:=l) (k:=k) (by rw [HLl.out];exact hkl) e;rw [HLl.out] at this;exact HS.out.trans this
   have hst:zkT n l k ≠ 0→zkU n l 0 L=zkT n l k:=fun e=>by
    have:=zkX (n:=n) (l:=l) (k:=k) (by rw [HLl.out];exact hkl) e;rw [HLl.out] at this;exact HS.out.trans this
   have hun:zkT n l k=if (l[k]?).getD 0<0∨(n:Int)≤(l[k]?).getD 0 then 3 else if 0<k∧(l[k]?).getD 0≤(l[k - 1]?).getD 0 then 6 else 0:=rfl;have hpv:=fun (h0:0<k)=>Hlat.out (k - 1) (by omega);generalize (l[k]?).getD 0=x at *;generalize (l[k - 1]?).getD 0=y at *;have hk0:(0:Int)≤(k:Int):=(by omega);have hk1:(k:Int)<(L:Int):=(by omega);have Hgo:=Lib.hid hgo;have Hst:=Lib.hid hst;have Hun:=Lib.hid hun;have Hpv:=Lib.hid hpv;clear hgo hst hun hpv;by_cases hx0:x<0
   ·have hec:zkU n l 0 L=3:=by
     have hs:zkT n l k=3:=(by rw [Hun.out,if_pos (.inl hx0)]);exact (Hst.out (by rw [hs];decide)).trans hs
    have Hec:=Lib.hid hec;clear hec;rcases Nat.eq_zero_or_pos k with hk00 | hk00
    ·subst hk00;rw [Nat.add_zero] at hc;go_wp2_with fail
     go_ret
     exact ⟨by rw [Hec.out];rfl,rfl⟩
    ·go_wp2_with fail
     go_ret
     exact ⟨by rw [Hec.out];rfl,rfl⟩
   ·by_cases hxn:(n:Int)≤x
    ·have hec:zkU n l 0 L=3:=by
      have hs:zkT n l k=3:=(by rw [Hun.out,if_pos (.inr hxn)]);exact (Hst.out (by rw [hs];decide)).trans hs
     have Hec:=Lib.hid hec;clear hec;rcases Nat.eq_zero_or_pos k with hk00 | hk00
     ·subst hk00;rw [Nat.add_zero] at hc;go_wp2_with fail
      go_ret
      exact ⟨by rw [Hec.out];rfl,rfl⟩
     ·go_wp2_with fail
      go_ret
      exact ⟨by rw [Hec.out];rfl,rfl⟩
    ·rcases Nat.eq_zero_or_pos k with hk00 | hk00
     ·subst hk00;rw [Nat.add_zero] at hc;have hs:zkT n l 0=0:=(by rw [Hun.out,if_neg (by omega),if_neg (by omega)]);have Hnx:=Lib.hid (Hgo.out hs);clear hs;go_wp2_with fail
      go_roundw
      case rel=>exact ⟨1,by go_num,by omega,Hnx,trivial⟩
      case measure=>simp [zam];omega
     ·obtain ⟨j,rfl⟩:∃ j,k=j+1:=⟨k - 1,by omega⟩;obtain ⟨b',off',e',hc'⟩:=Hpv.out hk00
      cases e'
      rw [Nat.add_sub_cancel] at hc';have hwj:IntKind.i64.wrap (((j+1:Nat):Int) - 1)=(j:Int):=(by rw [show (((j+1:Nat):Int) - 1)=(j:Int) by omega];exact IntWalk.i64_in _ (by omega));have hwj2:IntKind.i64.wrap (j:Int)=(j:Int):=IntWalk.i64_in _ (by omega);have hj0:(0:Int)≤(j:Int):=(by omega);have hj1:(j:Int)<(L:Int):=(by omega);have hjc:((j+1:Nat):Int)=(j:Int)+1:=(by omega);have hjp:(0:Int)<(j:Int)+1:=(by omega);by_cases hxy:x≤y
      ·have hec:zkU n l 0 L=6:=by
        have hs:zkT n l (j+1)=6:=(by rw [Hun.out,if_neg (by omega),if_pos ⟨hk00,hxy⟩]);exact (Hst.out (by rw [hs];decide)).trans hs
       have Hec:=Lib.hid hec;clear hec;go_wp2_with fail
       go_ret
       exact ⟨by rw [Hec.out];rfl,rfl⟩
      ·have hs:zkT n l (j+1)=0:=(by rw [Hun.out,if_neg (by omega),if_neg (fun g=>hxy g.2)]);have Hnx:=Lib.hid (Hgo.out hs);clear hs;go_wp2_with fail
       go_roundw
       case rel=>exact ⟨j+1+1,by go_num,by omega,Hnx,trivial⟩
       case measure=>simp [zam];omega
  ·obtain rfl:k=L:=by omega
   have hec:zkU n l 0 k=0:=(by rw [HS.out,Nat.sub_self];rfl);have Hec:=Lib.hid hec;clear hec;go_wp2_with fail
   go_ret
   exact ⟨by rw [Hec.out];rfl,rfl⟩
def znp (n:Nat)(m P:Int)(M:List Int):Int:=if m<1∨(n:Int)<m then 3 else if P<1∨6<P then 12 else zkU n M 0 M.length
def orE (ce z:Int):Int:=if ce ≠ 0 then ce else z
theorem znq (z:Int):orE 0 z=z:=by unfold orE;rw [if_neg (fun h=>h rfl)]
theorem znr {ce:Int}(z:Int)(h:ce ≠ 0):orE ce z=ce:=by unfold orE;rw [if_pos h]
theorem zns (v:Value)(p:List Int)(rs:List Qw)(m P:Int)(M:List Int)(b:Bool)(ce:Int)(w:World)(hv:QyV w v p rs m P M b)(hM:M.length≤1000000)
  (hck:∀ W sv,Ext w W→ScV W sv p rs→Calls Tryz.prog 34 #[sv] W fun e w'=>e=.returned (.int .i64 ce)∧Ext W w') :
  Calls Tryz.prog 30 #[v] w fun e w'=>e=.returned (.int .i64 (orE ce (znp rs.length m P M)))∧Ext w w':=by
 obtain ⟨ap,cp,an,cn,am,cm,rfl,hs,hm⟩:=hv.let;have hE0:Ext w (w.alloc (.cells #[.slice ap p.length cp,.slice an rs.length cn,.int .i64 m,.int .i64 P,.slice am M.length cm,.bool b] 59)):=(Ext.refl w).alloc _;have hb:=znn.new w (.slice ap p.length cp) (.slice an rs.length cn) m P (.slice am M.length cm) b;have hc1:=hck _ _ hE0 (hs.ext hE0);have hnt:=fun W (hE:Ext w W)=>zno (.slice am M.length cm) M rs.length W (hE.sl hm) hM;have hq:znp rs.length m P M=if m<1∨(rs.length:Int)<m then 3 else if P<1∨6<P then 12 else zkU rs.length M 0 M.length:=rfl;generalize zkU rs.length M 0 M.length=E at *;have Hc1:=Lib.hid hc1;have Hnt:=Lib.hid hnt;have HE0:=Lib.hid hE0;have Hb:=Lib.hid hb;have Hq:=Lib.hid hq;clear hs hm hc1 hnt hE0 hb hq hck hv;generalize znp rs.length m P M=Z at *;generalize rs.length=n at *;generalize M.length=L at *;go_enter Tryz.func30,Tryz.ntmps30
 obtain ⟨q0,q1,_,_,_,_⟩:=Hb.out.cs;go_wp2_with fail
 refine Hc1.out.mono ?_;rintro e w1 ⟨rfl,hx1⟩;obtain ⟨q0,q1,q2,q3,q4,_⟩:=(Hb.out.ext hx1).cs;have Hx1:=Lib.hid (HE0.out.trans hx1);clear hx1;by_cases hce:ce=0
 ·subst hce;by_cases h1:m<1
  ·go_wp2_with fail
   go_ret
   exact ⟨by rw [znq,Hq.out,if_pos (.inl h1)];rfl,Hx1.out⟩
  ·by_cases h2:(n:Int)<m
   ·go_wp2_with fail
    go_ret
    exact ⟨by rw [znq,Hq.out,if_pos (.inr h2)];rfl,Hx1.out⟩
   ·by_cases h3:P<1
    ·go_wp2_with fail
     go_ret
     exact ⟨by rw [znq,Hq.out,if_neg (by omega),if_pos (.inl h3)];rfl,Hx1.out⟩
    ·by_cases h4:6<P
     ·go_wp2_with fail
      go_ret
      exact ⟨by rw [znq,Hq.out,if_neg (by omega),if_pos (.inr h4)];rfl,Hx1.out⟩
     ·go_wp2_with fail
      refine (Hnt.out _ Hx1.out).mono ?_;rintro e w2 ⟨rfl,rfl⟩;go_wp2_with fail
      go_ret
      exact ⟨by rw [znq,Hq.out,if_neg (by omega),if_neg (by omega)];rfl,Hx1.out⟩
 ·have hce1:(ce == 0)=false:=by simpa using hce
  have hce2:(ce != 0)=true:=by simpa using hce
  have Hce:=Lib.hid hce;clear hce;go_wp2_with fail
  go_ret
  exact ⟨by rw [znr _ Hce.out];rfl,Hx1.out⟩
end
section
open Go Go.RowKit
def znt (R:Nat→Prop)(W W':World):Prop:=W.heap.size≤W'.heap.size∧∀ r,R r→r<W.heap.size→W'.heap[r]?=W.heap[r]?
theorem znt.refl (R:Nat→Prop)(W:World):znt R W W:=⟨Nat.le_refl _,fun _ _ _=>rfl⟩
theorem znt.trans {R:Nat→Prop}{X Y Z:World}(h:znt R X Y)(k:znt R Y Z):znt R X Z :=
 ⟨Nat.le_trans h.1 k.1,fun r hr hl=>(k.2 r hr (Nat.lt_of_lt_of_le hl h.1)).trans (h.2 r hr hl)⟩
theorem znt.mono {R R':Nat→Prop}{X Y:World}(h:znt R X Y)(hr:∀ r,R' r→R r):znt R' X Y:=⟨h.1,fun r g hl=>h.2 r (hr r g) hl⟩
theorem znt.put {R:Nat→Prop}{W:World}{l:Nat}(o:Obj)(hl:¬ R l):znt R W (W.putObj l o) :=
 ⟨by rw [World.putObj_size];exact Nat.le_refl _,fun r hr _=>World.putObj_heap_other (fun e=>hl (e ▸ hr))⟩
def znu {β:Type}(b c:Nat)(I:β→World→Prop):Prop:=∀ s A C row,I s A→A.grownBy C row→(∀ r,row=some r→b≤r∧r<c)→I s C
theorem znu.put {β:Type}{b c:Nat}{I:β→World→Prop}(h:znu b c I){s:β}{W:World}{l:Nat}(o:Obj)(hs:I s W)(hb:b≤l)(hc:l<c):I s (W.putObj l o) :=
 h s W _ (some l) hs (grownBy_putObj' W l o) fun r e=>by cases e;exact ⟨hb,hc⟩
theorem znu.alloc {β:Type}{b c:Nat}{I:β→World→Prop}(h:znu b c I){s:β}{W:World}(o:Obj)(hs:I s W):I s (W.alloc o) :=
 h s W _ none hs (World.grownBy_alloc W o none) fun r e=>by cases e
def znv {α:Type}(F:Fence)(n:Nat)(P:Program)(gf:Nat)(lb:Array Value)(encs:α→Array Value)(Pre:Nat→α→World→Prop)(R:Nat→Prop)(k N:Nat)(S:List α→Prop)(w:World):Prop :=
 ∀ (l:Nat)(J:List α→World→Prop)(W:World),W.heap.size=w.heap.size+2→(∀ r,r<w.heap.size→W.heap[r]?=w.heap[r]?)→znu W.heap.size (W.heap.size+k) J →
  (∀ pre x W1,J pre W1→Pre (W.heap.size+k) x W1→W.heap.size+k≤W1.heap.size→pre.length<N→YieldAt F (n - 1) P l (encs x) W1 fun e W'=>e=.returned (.bool true)∧J (pre++[x]) W'∧znt R W1 W') →
  J [] W→CallsIn F n P gf (#[.func (.yield l) #[] #[]]++lb) W fun e W'=>(∃ v,e=.returned v)∧∃ xs,S xs∧J xs W'
variable {F : Fence} {n : Nat} {P : Program}
theorem znw {α:Type}{g:Operand}{ps:Array Tmp}{assign body:Code}{Q:Exit→Act→World→Prop}{a:Act}{w:World}
  (hro:F.round=none) (h1:1≤n) {gf:Nat} {lb:Array Value} (hg:a.eval g=.func (.func gf) #[] lb) (hFg:F.fn gf) (eg:∀ args w,(callFunc gf args).run P w=.ok (.enter gf args) w)
  {encs:α→Array Value} {Pre:Nat→α→World→Prop} {R:Nat→Prop} {k N:Nat} {S:List α→Prop} (hseq:znv F (n - 1) P gf lb encs Pre R k N S w) (hps:∀ x,(encs x).size=ps.size)
  (hPre:∀ x,znu w.heap.size (w.heap.size+2) (fun (_:Unit) W=>Pre (w.heap.size+2+k) x W))
  (hR1:¬ R (w.heap.size+1))
  (I:List α→World→Prop) (hI:znu w.heap.size (w.heap.size+2+k) I) (h0:I [] w) (a₁:α→Act)
  (hassign:∀ (l:Nat)(x:α)(W:World)(K:Act→World→Prop),K (a₁ x) W →
   assign.wpIn (F.inRound l) (n - 1 - 1) P (Exit.then K (fun _ _ _=>False)) { tmps:=(ps.zip (encs x)).foldl (fun t (p,v)=>t.setIfInBounds p v) a.tmps,defers:=[] } W)
  (hbody:∀ (l:Nat)(pre:List α)(x:α)(W:World),I pre W→Pre (w.heap.size+2+k) x W→w.heap.size+2+k≤W.heap.size→pre.length<N →
   body.wpIn (F.inRound l) (n - 1 - 1) P (fun e _ W'=>e=.normal∧znt (fun r=>R r∨r=w.heap.size∨r=w.heap.size+1) W W'∧I (pre++[x]) W') (a₁ x) W)
  (hdone:∀ (xs:List α)(W:World),S xs→I xs W→W.heap[w.heap.size]?=some (.deferred (some []))→Q .normal { a with defers:={ target:=.collected w.heap.size,args:=#[] }::a.defers } W) :
  (Code.rangeFunc g ps assign body).wpIn F n P Q a w:=by
 refine wpIn_rangeFunc fun fn hfn=>?_;rw [hro];obtain ⟨rec0,hrec⟩:∃ rec0:LoopState→Option Code→Loop,rec0=fun st pe=>{ state:=st,pending:=pe,fn,tmps:=a.tmps,params:=ps,assign,body,defers:=w.heap.size }:=⟨_,rfl⟩;have hW:∃ W1,(w.alloc (.deferred (some []))).alloc (.loop (rec0 .ready none))=W1:=⟨_,rfl⟩;obtain ⟨W1,hW1⟩:=hW;have hsz:W1.heap.size=w.heap.size+2:=by rw [← hW1,World.size_alloc,World.size_alloc]
 have hL1:W1.heap[w.heap.size+1]?=some (.loop (rec0 .ready none)):=by
  have:=World.alloc_heap_new (w.alloc (.deferred (some []))) (.loop (rec0 .ready none));rw [World.size_alloc] at this;rw [← hW1];exact this
 have hD1:W1.heap[w.heap.size]?=some (.deferred (some [])):=by
  rw [← hW1];exact (Below.heap_alloc _ _ _ (by rw [World.size_alloc];omega)).trans (World.alloc_heap_new w _)
 have hold:∀ r,r<w.heap.size→W1.heap[r]?=w.heap[r]?:=fun r hr=>by
  rw [← hW1];exact (Below.heap_alloc _ _ _ (by rw [World.size_alloc];omega)).trans (Below.heap_alloc _ _ _ hr)
 have hI1:I [] W1:=by rw [← hW1];exact hI.alloc _ (hI.alloc _ h0)
 -- the iterator's call, with the loop's two blocks beside the caller's statement
 have hcall:=hseq (w.heap.size+1) (fun pre W=>I pre W∧W.heap[w.heap.size+1]?=some (.loop (rec0 .ready none))∧W.heap[w.heap.size]?=some (.deferred (some []))) W1 hsz hold
  (fun s A C row hs hgr hr=>⟨hI s A C row hs.1 hgr fun r e=>by have:=hr r e;omega,
   (hgr.block _ (Array.getElem?_eq_some_iff.1 hs.2.1).1 fun e=>by have:=hr _ e.symm;omega).trans hs.2.1,
   (hgr.block _ (Array.getElem?_eq_some_iff.1 hs.2.2).1 fun e=>by have:=hr _ e.symm;omega).trans hs.2.2⟩)
  (fun pre x W hJ hpre hsize hlen=>by
   obtain ⟨hi,hl,hd⟩:=hJ;have hlt:w.heap.size+1<W.heap.size:=(Array.getElem?_eq_some_iff.1 hl).1;have hy:=run_yield (P:=P) (args:=encs x) hl (by rw [hrec];exact hps x);have hbr:=run_beginRound (P:=P) hl (by rw [hrec]);rw [show { rec0 LoopState.ready none with state:=LoopState.busy }=rec0 .busy none by rw [hrec]] at hbr;rw [hrec] at hy;refine ⟨fn,_,assign,body,hy,roundIn_of_wpIn hfn (hassign _ x W _ ⟨_,hbr,?_⟩)⟩;have hl2:(W.putObj (w.heap.size+1) (.loop (rec0 .busy none))).heap[w.heap.size+1]?=some (.loop (rec0 .busy none)):=World.putObj_heap_same hlt;have hd2:(W.putObj (w.heap.size+1) (.loop (rec0 .busy none))).heap[w.heap.size]?=some (.deferred (some [])):=(World.putObj_heap_other (by omega)).trans hd;refine wpIn_mono (hbody _ pre x _ (hI.put _ hi (by omega) (by omega)) ((hPre x).put (s:=()) _ (by rw [show w.heap.size+2+k=W1.heap.size+k by omega];exact hpre) (by omega) (by omega)) (by rw [World.putObj_size];omega) hlen) ?_;rintro e a3 W3 ⟨rfl,hk3,hi3⟩;have hl3:=(hk3.2 (w.heap.size+1) (.inr (.inr rfl)) (by rw [World.putObj_size];omega)).trans hl2;have hd3:=(hk3.2 w.heap.size (.inr (.inl rfl)) (by rw [World.putObj_size];omega)).trans hd2;have her:=run_endRound (P:=P) none hl3;rw [show { rec0 LoopState.busy none with state:=if (none:Option Code).isNone=true then LoopState.ready else LoopState.done,pending:=(none:Option Code) }=rec0 .ready none by rw [hrec];rfl] at her;refine ⟨_,_,her,rfl,⟨hI.put _ hi3 (by omega) (by omega),World.putObj_heap_same (Array.getElem?_eq_some_iff.1 hl3).1,(World.putObj_heap_other (by omega)).trans hd3⟩,?_⟩;exact ((znt.put _ hR1).trans (hk3.mono fun r hr=>.inl hr)).trans (znt.put _ hR1))
  ⟨hI1,hL1,hD1⟩
 refine ⟨w.heap.size+1,[{ target:=.collected w.heap.size,args:=#[] }],W1,{ target:=.fn (.func gf) lb,args:=#[.func (.yield (w.heap.size+1)) #[] #[]] },W1,gf,
  #[.func (.yield (w.heap.size+1)) #[] #[]]++lb,W1,?_,?_,?_,?_,fun _=>h1,?_⟩
 ·rw [← hW1,hrec];exact run_enterLoop_outer _ _ _ _ _
 ·simp only [resolve,hg]
  simp [go_sem]
 ·intro f' hf';simp [Target.leads] at hf';subst hf';exact hFg
 ·simp [invoke,go_sem,eg]
 ·refine hcall.mono ?_
  rintro e W2 ⟨⟨v,rfl⟩,xs,hS,hi,hl,hd⟩
  have hel:=run_endLoop (P:=P) hl (by rw [hrec];simp)
  rw [show (rec0 .ready none).pending=none by rw [hrec]] at hel
  exact ⟨none,_,hel,hdone xs _ hS (hI.put _ hi (by omega) (by omega)) ((World.putObj_heap_other (by omega)).trans hd)⟩
end
section
open Go.RowKit Go.Lib Go.Shelf
attribute [local go_sem] Oper.semAt_some
structure Iw where
 u:Value
 l:List Int
def znx (V:List Int→Prop)(B:Nat)(x:Iw)(W:World):Prop:=zfi W B x.u x.l∧V x.l
theorem Ext.grows {w w':World}(h:Ext w w'):w.grownBy w' none:=⟨h.os,h.tape,h.output,h.size,fun k hk _=>h.block k hk⟩
theorem znu.ext {β:Type}{b c:Nat}{I:β→World→Prop}(h:znu b c I){s:β}{w w':World}(hs:I s w)(hx:Ext w w'):I s w':=h s w w' none hs hx.grows fun r e=>by cases e
theorem znu.row {β:Type}{b c:Nat}{I:β→World→Prop}(h:znu b c I){s:β}{w w':World}{g:Nat}(hs:I s w)(hx:w.grownBy w' (some g))(h1:b≤g)(h2:g<c):I s w':=h s w w' (some g) hs hx fun r e=>by cases e;exact ⟨h1,h2⟩
theorem znt.ext {R:Nat→Prop}{w w':World}(h:Ext w w'):znt R w w':=⟨h.size,fun r _ hl=>h.block r hl⟩
structure ItS (W:World)(n0 Bq Bn By Bc r0 ly:Nat)(vp vn:Value)(n m:Nat)(P:Int)(am:Option Addr)(cm:Nat)(b:Bool)(M ns:List Int):Prop where
 q:znn W Bq vp vn (m:Int) P (.slice am M.length cm) b
 bn:Boxed W Bn 3 (.int .i64 (n:Int))
 by_:Boxed W By 222 (.func (.yield ly) #[] #[])
 bc:Boxed W Bc 214 (.func (.func 175) #[] #[.pointer (some ⟨Bq,0,none⟩),.pointer (some ⟨By,0,none⟩),.pointer (some ⟨Bn,0,none⟩),.pointer (some ⟨Bc,0,none⟩)])
 row:W.ownsRow r0 3 1 (.slice (some ⟨r0,0,none⟩) ns.length m) ns.length (zaq ns)
 must:∀ i z,M[i]?=some z→∃ g off,am=some ⟨g,off,none⟩∧g<n0∧W.cell? ⟨g,off+i,none⟩=some (.int .i64 z)
def ItR (n0 Bq Bn By Bc r:Nat):Prop:=r<n0∨r=Bq∨r=Bn∨r=By∨r=Bc
section
variable {W W' : World} {n0 Bq Bn By Bc r0 ly : Nat} {vp vn : Value} {n m : Nat} {P : Int} {am : Option Addr} {cm : Nat} {b : Bool} {M ns : List Int}
theorem zny {w w':World}{a:Addr}(h:w'.heap[a.block]?=w.heap[a.block]?):w'.cell? a=w.cell? a:=by unfold World.cell?;rw [h]
theorem ItS.keepRow (h:ItS W n0 Bq Bn By Bc r0 ly vp vn n m P am cm b M ns)(hk:znt (ItR n0 Bq Bn By Bc) W W'){ns':List Int}(hr:W'.ownsRow r0 3 1 (.slice (some ⟨r0,0,none⟩) ns'.length m) ns'.length (zaq ns')) :
  ItS W' n0 Bq Bn By Bc r0 ly vp vn n m P am cm b M ns':=by
 have lt:∀ {r:Nat}{o:Obj},W.heap[r]?=some o→r<W.heap.size:=fun h=>(Array.getElem?_eq_some_iff.1 h).1;refine ⟨(hk.2 Bq (.inr (.inl rfl)) (lt h.q)).trans h.q,(hk.2 Bn (.inr (.inr (.inl rfl))) (lt h.bn)).trans h.bn,(hk.2 By (.inr (.inr (.inr (.inl rfl)))) (lt h.by_)).trans h.by_,
  (hk.2 Bc (.inr (.inr (.inr (.inr rfl)))) (lt h.bc)).trans h.bc,hr,fun i z hz=>?_⟩
 obtain ⟨g,off,e,hg,hc⟩:=h.must i z hz;have hlt:=World.block_lt_of_cell? _ _ hc;exact ⟨g,off,e,hg,(zny (a:=⟨g,off+i,none⟩) (hk.2 g (.inl hg) hlt)).trans hc⟩
theorem ItS.keep (h:ItS W n0 Bq Bn By Bc r0 ly vp vn n m P am cm b M ns)(hk:znt (fun r=>ItR n0 Bq Bn By Bc r∨r=r0) W W'):ItS W' n0 Bq Bn By Bc r0 ly vp vn n m P am cm b M ns:=by
 refine h.keepRow (hk.mono fun r hr=>.inl hr) ?_;obtain ⟨h1,h2⟩:=h.row;refine ⟨h1,?_⟩;rcases h2 with h2 | ⟨g,cap,cur,e,hb,hh,rest⟩
 ·exact .inl h2
 ·refine .inr ⟨g,cap,cur,e,hb,?_,rest⟩;have e2:g=r0:=by injection e with e;injection e with e;injection e with e1;exact e1.symm
  subst e2;exact (hk.2 g (.inr rfl) (Array.getElem?_eq_some_iff.1 hh).1).trans hh
theorem ItS.ext (h:ItS W n0 Bq Bn By Bc r0 ly vp vn n m P am cm b M ns)(hx:Ext W W'):ItS W' n0 Bq Bn By Bc r0 ly vp vn n m P am cm b M ns:=h.keep (znt.ext hx)
theorem znz {g cap:Nat}{x:Int}{ns:List Int}(h:W.ownsRow g 3 1 (.slice (some ⟨g,0,none⟩) (ns++[x]).length cap) (ns++[x]).length (zaq (ns++[x]))):W.ownsRow g 3 1 (.slice (some ⟨g,0,none⟩) ns.length cap) ns.length (zaq ns):=by
 obtain ⟨_,h2⟩:=h;refine ⟨by rw [zas,Nat.mul_one],?_⟩;rcases h2 with ⟨e,_⟩ | ⟨g',cap',cur,e,hb,hh,hn,hc,hs,ht⟩
 ·cases e
 ·injection e with e1 e2 e3;subst e3;injection e1 with e1;injection e1 with e1;subst e1;rw [List.length_append,List.length_singleton] at hn ht;refine .inr ⟨g,cap,cur,rfl,hb,hh,by omega,hc,hs,?_⟩;have:=congrArg (List.take ns.length) ht;rw [List.take_take,show min ns.length ((ns.length+1) * 1)=ns.length * 1 by omega] at this;rw [this,zaq,List.map_append,List.take_left' (by rw [List.length_map])];rfl
theorem ItS.less {x:Int}(h:ItS W n0 Bq Bn By Bc r0 ly vp vn n m P am cm b M (ns++[x])):ItS W n0 Bq Bn By Bc r0 ly vp vn n m P am cm b M ns :=
 ⟨h.q,h.bn,h.by_,h.bc,znz h.row,h.must⟩
end
theorem zn0 {n m:Nat}{M:List Int}{f:Nat}{l:List Int}{u:Nat}(h:l.length=m):cho n m M f l u=if u<M.length then [] else [l]:=by
 cases f <;> rw [cho,if_pos h]
theorem zn1 {n m:Nat}{M:List Int}{f:Nat}{l:List Int}{u:Nat}(h:l.length ≠ m)(hk:f<m - l.length):cho n m M f l u=[]:=by
 cases f with
 | zero=>rw [cho,if_neg h]
 | succ f=>rw [cho,if_neg h,if_neg (by omega)]
theorem zn2 {n m:Nat}{M:List Int}{f:Nat}{l:List Int}{u:Nat}(h:l.length ≠ m)(hk:m - l.length≤f+1)(hit:M[u]?=some ((n - (f+1):Nat):Int)) :
  cho n m M (f+1) l u=if M.length≤(u+1)+(m - l.length - 1) then cho n m M f (l++[((n - (f+1):Nat):Int)]) (u+1) else []:=by
 rw [cho,if_neg h,if_pos hk,if_pos hit]
theorem zn3 {n m:Nat}{M:List Int}{f:Nat}{l:List Int}{u:Nat}(h:l.length ≠ m)(hk:m - l.length≤f+1)(hit:¬ M[u]?=some ((n - (f+1):Nat):Int)) :
  cho n m M (f+1) l u=(if M.length≤u+(m - l.length - 1) then cho n m M f (l++[((n - (f+1):Nat):Int)]) u else [])++cho n m M f l u:=by
 rw [cho,if_neg h,if_pos hk,if_neg hit]
theorem zn4 {P:Program}{ops:Array Oper}{o:Oper}{a:Act}{w:World}{K:Act→World→Prop}{Q:Exit→Act→World→Prop}{E:Prop}
  (hw:Region.wanted o (yielded ops a.tmps)=true) (s x:Operand) (t:TypeId) (hop:o.op=Op.call { callee:=Callee.builtin Builtin.append,args:=#[s,x],argTypes:=#[t,t] })
  (base:Nat) (e:TypeId) (i:TypeInfo) (size:Nat) (h1:P.underlying t=some (.slice e)) (h2:P.info? e=some i) (h4:i.size=size)
  (g k cap:Nat) (xs:List Value) (hs:a.eval s=.slice (some ⟨g,0,none⟩) k cap) (hown:w.ownsRow base e size (.slice (some ⟨g,0,none⟩) k cap) k xs)
  (ad:Addr) (m c:Nat) (news:List Value) (hx:a.eval x=.slice (some ad) m c) (hn:news.length=m * size) (hc:∀ j u,news[j]?=some u→w.cell? (ad.add j)=some u) (h1c:∀ u∈news,u.oneCell'=true) (b1:k+m≤cap)
  (hK:∀ w',w'.ownsRow base e size (.slice (some ⟨g,0,none⟩) (k+m) cap) (k+m) (xs++news)→w.grownBy w' (some g)→K (a.put o.dst (.slice (some ⟨g,0,none⟩) (k+m) cap)) w') :
  if Region.wanted o (yielded ops a.tmps)=true then Oper.wp P o a w K Q else E:=by
 rw [if_pos hw];subst h4;obtain ⟨w',hrun,r1,r2⟩:=run_append_fits (P:=P) w base t o.type e i i.size h1 h2 rfl g k cap xs hown ad m c news hn hc h1c b1;unfold Oper.wp;simp [execOp,hop,resolve,invoke,builtin,hs,hx,hrun,Result.andThen];exact hK w' r1 r2
theorem zn5 {m m':Nat}{P:Program}{l:Nat}{f:FuncId}{tmps:Array Value}{assign body:Code}{w:World}{R:Ending→World→Prop}(h:RoundIn Fence.wide m P l f tmps assign body w R):RoundIn Fence.wide m' P l f tmps assign body w R :=
 ⟨h.1,fun c cs _=>h.2 c cs fun d hd=>by cases hd⟩
section
variable {W : World} {n0 Bq Bn By Bc r0 ly : Nat} {vp vn : Value} {n m : Nat} {P : Int} {am : Option Addr} {cm : Nat} {b : Bool} {M ns : List Int}
theorem zn6 (h:ItS W n0 Bq Bn By Bc r0 ly vp vn n m P am cm b M ns)(hl:ns.length=m)(k u:Nat)(hu:u<M.length) :
  Calls Tryz.prog 175 #[.slice (some ⟨r0,0,none⟩) ns.length m,.int .i64 (k:Int),.int .i64 (u:Int),.pointer (some ⟨Bq,0,none⟩),.pointer (some ⟨By,0,none⟩),.pointer (some ⟨Bn,0,none⟩),.pointer (some ⟨Bc,0,none⟩)] W
   fun e w'=>e=.returned (.bool true)∧Ext W w':=by
 obtain ⟨_,_,q2,_,q4,_⟩:=h.q.cs;rw [hl];clear h hl;generalize M.length=L at *;have hd1:decide (u<L)=true:=decide_eq_true hu;have hd2:(u:Int)<(L:Int):=by omega
 have hd3:decide ((u:Int)<(L:Int))=true:=decide_eq_true hd2;go_enter Tryz.func175,Tryz.ntmps175
 go_wp2_with fail
 go_quiet (fail)
 go_wp2_with fail
 go_ret
 exact ⟨rfl,(Ext.refl W).drewN _⟩
theorem zn7 {V:List Int→Prop}{c N:Nat}{J:List Iw→World→Prop}{R:Nat→Prop}(hJ:znu By c J)(hR:∀ r,ItR n0 Bq Bn By Bc r∨r=r0→R r)
  (hY:∀ pre x W1,J pre W1→znx V c x W1→c≤W1.heap.size→pre.length<N→YieldAt Fence.wide 1 Tryz.prog ly #[x.u] W1 fun e W'=>e=.returned (.bool true)∧J (pre++[x]) W'∧znt R W1 W')
  {pre:List Iw} (hV:V ns) (hj:J pre W) (hpn:pre.length<N) (hW:c≤W.heap.size)
  (h:ItS W n0 Bq Bn By Bc r0 ly vp vn n m P am cm b M ns) (hl:ns.length=m) (k u:Nat) (hu:¬ u<M.length) (_hM:M.length≤1000) (hm:m≤1000) :
  Calls Tryz.prog 175 #[.slice (some ⟨r0,0,none⟩) ns.length m,.int .i64 (k:Int),.int .i64 (u:Int),.pointer (some ⟨Bq,0,none⟩),.pointer (some ⟨By,0,none⟩),.pointer (some ⟨Bn,0,none⟩),.pointer (some ⟨Bc,0,none⟩)] W
   fun e w'=>e=.returned (.bool true)∧∃ x:Iw,x.l=ns∧J (pre++[x]) w'∧ItS w' n0 Bq Bn By Bc r0 ly vp vn n m P am cm b M ns∧W.heap.size≤w'.heap.size:=by
 obtain ⟨_,_,q2,_,q4,_⟩:=h.q.cs;have q5:=h.by_.cell;have hcl:=fun W1 (hE:Ext W W1)=>zlf r0 0 m ns W1 (by omega) (fun j z hz=>by
  have hr:=World.ownsRow.cells (hE.own h.row) (g:=r0) rfl j (.int .i64 z) (by unfold zaq;rw [List.getElem?_map,hz];rfl);rw [Addr.add_lit] at hr;exact hr)
 rw [hl] at hcl ⊢;have hyy:=fun W1 u1 (hE:Ext W W1)(ho:zfi W1 c u1 ns)=>hY pre ⟨u1,ns⟩ W1 (hJ.ext hj hE) ⟨ho,hV⟩ (Nat.le_trans hW hE.size) hpn;have Hcl:=Lib.hid hcl;have Hyy:=Lib.hid hyy;have HI:=Lib.hid h;have HW:=Lib.hid hW;have HR:=Lib.hid hR;clear hcl hyy h hY hJ hj hpn hW hR;generalize hLL:M.length=L at *;have hd1:decide (u<L)=false:=decide_eq_false hu;have hd2:¬ (u:Int)<(L:Int):=by omega
 have hd3:decide ((u:Int)<(L:Int))=false:=decide_eq_false hd2;refine (callsIn_wide (n:=3)).1 ?_;refine callsIn_of_wp Tryz.func175 rfl trivial ?_ rfl;simp only [Tryz.ntmps175,List.size_toArray,List.length_cons,List.length_nil,Nat.reduceAdd,Nat.reduceSub,Array.replicate_succ,Array.replicate_zero,List.push_toArray,List.append_toArray,List.nil_append,List.cons_append];gi_wp2_with fail;have hmo:Tryz.prog.follows .mixedOrders=true:=by kernel_rfl
 gi_region_with_o (first
  | (refine ⟨trivial,?_⟩;gi_at_call 37;refine (callsIn_wide.2 (Hcl.out _ (Ext.refl W).drew)).mono ?_;rintro e W1 ⟨u1,rfl,ho,hne,hx⟩;have hx1:=(Ext.refl W).drew.trans hx;have q6:=hx1.cell q5;obtain ⟨fn,tmps,assign,body,hy,hR⟩:=Hyy.out W1 u1 hx1 (zan ho HW.out);have HR1:=Lib.hid hR;have Hx1:=Lib.hid hx1;clear hR hx1 hx ho hne)
  | (refine (zn5 HR1.out).mono ?_;rintro e W2 ⟨rfl,hj2,hk2⟩;have Hj2:=Lib.hid hj2;have Hk2:=Lib.hid hk2;clear hj2 hk2))
 all_goals
  gi_wp2_with fail;go_ret
  exact ⟨rfl,⟨u1,ns⟩,rfl,Hj2.out,(HI.out.ext Hx1.out).keep (Hk2.out.mono HR.out),Nat.le_trans Hx1.out.size Hk2.out.1⟩
end
end
end Go.Proofs.YtebabancfnmfjaaGreatDoor
