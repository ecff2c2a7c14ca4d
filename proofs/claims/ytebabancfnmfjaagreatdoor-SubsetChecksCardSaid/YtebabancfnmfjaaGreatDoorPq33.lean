/- Walks: subset.Fits where the query is right; Candidates. A range over a function whose iterator writes blocks of its own between two rounds; every round is left off its end. Walks: subset.subsets: the recursion that yields the candidates in order. Walks: subset.subsets: the recursion where the list is full. -/
import Derived.Test.YtebabancfnmfjaaGreatDoorPq32
import Derived.Test.YtebabancfnmfjaaGreatDoorPq30
import Derived.Test.YtebabancfnmfjaaGreatDoorPq00
import Derived.RangeFuncNested
import Derived.RangeFuncRecord
import Derived.RangeFuncBound
import Derived.Test.YtebabancfnmfjaaGreatDoorPq10
import Derived.Shelf.RegionOpen
import Derived.Laws.OwnMore
set_option maxRecDepth 100000
set_option maxHeartbeats 4000000
namespace Go.Proofs.YtebabancfnmfjaaGreatDoor
section
open Go.RowKit Go.Lib Go.Shelf
attribute [local go_sem] Oper.semAt_some
theorem zo1 : ∀ args w,(callFunc 79 args).run Tryz.prog w=.ok (.enter 79 args) w:=enters_of Tryz.func79 (by kernel_rfl) rfl
theorem zo2 (b:Nat)(x:Int)(vl:Value)(l:List Int)(w:World)(hb:w.cell? ⟨b,0,none⟩=some vl)(hv:Sl w vl (zap l))(hl:l.length≤1000) :
  Calls Tryz.prog 79 #[.int .i64 x,.pointer (some ⟨b,0,none⟩)] w fun e w'=>e=.returned (.bool (!l.contains x))∧Ext w w':=by
 have hh:=zo0 vl l x w hv hl;obtain ⟨a,c,rfl,_,_,_⟩:=hv.parts;have Hh:=Lib.hid hh;clear hh hv hl;generalize l.contains x=r at *;generalize (zap l).length=n at *;go_enter Tryz.func79,Tryz.ntmps79
 go_wp2_with fail
 refine Hh.out.mono ?_;rintro e w1 ⟨rfl,rfl⟩;go_wp2
 go_ret
 exact ⟨rfl,Ext.refl _⟩
def zo3 (P:Int)(p:List Int)(N:List (List Rat))(n:Nat)(m:Int)(M l:List Int):Value :=
 if zj4 n l=0 then .tuple #[.bool (decide ((l.length:Int)=m) && (!(M.any fun x=>!l.contains x) && tst P p (zjA p N l))),.int .i64 0] else .tuple #[.bool false,.int .i64 (zj4 n l)]
theorem zo4 (v vl:Value)(p:List Int)(rs:List Qw)(m P:Int)(M:List Int)(b:Bool)(l:List Int)(w:World)(he:Env w)(hv:QyV w v p rs m P M b)(h:Wd p (rs.map Qw.x))(hvl:Sl w vl (zap l))(hl60:l.length≤60)(hq:znq rs.length m P M=0)(hM:M.length≤1000)
  (hw:zj4 rs.length l=0→2≤P→P≤6→Wc p (zjA p (rs.map Qw.x) l)) :
  Calls Tryz.prog 31 #[v,vl] w fun e w'=>e=.returned (zo3 P p (rs.map Qw.x) rs.length m M l)∧Ext w w':=by
 have hck:=fun W vq (hE:Ext w W)(hq:QyV W vq p rs m P M b)=>znt vq p rs m P M b 0 W hq (by omega) (fun W' sv hE' hs=>zik sv p rs W' (he.ext (hE.trans hE')) hs h.right);rw [hq,znr] at hck;have hnt:=fun W (hE:Ext w W)=>znp vl l rs.length W (hE.sl hvl) (by omega);have hhas:=fun (hse:zj4 rs.length l=0) W vq (hE:Ext w W)(hq:QyV W vq p rs m P M b)=>zow vq vl p rs m P M b l W (he.ext hE) hq h (hE.sl hvl) hl60 hse (hw hse);obtain ⟨ap,cp,an,cn,am,cm,rfl,hs,hmm⟩:=hv.let;obtain ⟨al,cl,rfl,_,_,_⟩:=hvl.parts;rw [zar] at *;have hcon:=fun W (hE:Ext w W)(hb:W.cell? ⟨w.heap.size+1,0,none⟩=some (.slice al l.length cl))=>zoz 79 #[.pointer (some ⟨w.heap.size+1,0,none⟩)] (.slice am M.length cm) M (fun x=>!l.contains x) W (hE.sl hmm) hM zo1 (fun W2 hE2 x hx=>zo2 _ x _ l W2 (hE2.cell hb) ((hE.trans hE2).sl hvl) (by omega));have hE0:Ext w ((w.alloc (.cells #[.slice ap p.length cp,.slice an rs.length cn,.int .i64 m,.int .i64 P,.slice am M.length cm,.bool b] 59)).alloc (.cells #[.slice al l.length cl] 24)):=((Ext.refl w).alloc _).alloc _;have hb:=(zno.new w (.slice ap p.length cp) (.slice an rs.length cn) m P (.slice am M.length cm) b).ext ((Ext.refl _).alloc (.cells #[.slice al l.length cl] 24));have hb1:((w.alloc (.cells #[.slice ap p.length cp,.slice an rs.length cn,.int .i64 m,.int .i64 P,.slice am M.length cm,.bool b] 59)).alloc (.cells #[.slice al l.length cl] 24)).cell? ⟨w.heap.size+1,0,none⟩=some (.slice al l.length cl):=by
  have:=zoo (w.alloc (.cells #[.slice ap p.length cp,.slice an rs.length cn,.int .i64 m,.int .i64 P,.slice am M.length cm,.bool b] 59)) (.slice al l.length cl) 24;rwa [World.size_alloc] at this
 have hv0:=hv.ext hE0;have hfv:zo3 P p (rs.map Qw.x) rs.length m M l=if l=[] then .tuple #[.bool false,.int .i64 13] else if zj3 rs.length l 0 l.length=0 then .tuple #[.bool (decide ((l.length:Int)=m) && (!(M.any fun x=>!l.contains x) && tst P p (zjA p (rs.map Qw.x) l))),.int .i64 0] else .tuple #[.bool false,.int .i64 (zj3 rs.length l 0 l.length)]:=by
  unfold zo3 zj4;by_cases hn:l=[]
  ·rw [if_pos hn,if_pos hn,if_neg (by decide)]
  ·rw [if_neg hn,if_neg hn]
 have hse:l ≠ []→zj3 rs.length l 0 l.length=0→zj4 rs.length l=0:=fun a b=>by unfold zj4;rw [if_neg a];exact b
 generalize hW0:(w.alloc (.cells #[.slice ap p.length cp,.slice an rs.length cn,.int .i64 m,.int .i64 P,.slice am M.length cm,.bool b] 59)).alloc (.cells #[.slice al l.length cl] 24)=W0 at *;have hc0:=hck W0 _ hE0 hv0;have hL0:l=[] ↔ l.length=0:=by rw [List.length_eq_zero_iff]
 have Hc0:=Lib.hid hc0;have Hnt:=Lib.hid hnt;have Hhas:=Lib.hid hhas;have Hcon:=Lib.hid hcon;have HE0:=Lib.hid hE0;have Hb:=Lib.hid hb;have Hb1:=Lib.hid hb1;have Hv0:=Lib.hid hv0;have Hfv:=Lib.hid hfv;have Hse:=Lib.hid hse;have HL0:=Lib.hid hL0;have HW0:=Lib.hid hW0;clear hck hnt hhas hcon hE0 hb hb1 hv0 hfv hse hL0 hc0 hs hmm hvl hv h he hw hq hl60 hM hW0;generalize zo3 P p (rs.map Qw.x) rs.length m M l=V at *;generalize zj3 rs.length l 0 l.length=E at *;generalize tst P p (zjA p (rs.map Qw.x) l)=T at *;generalize (M.any fun x=>!l.contains x)=A at *;generalize rs.length=n at *;generalize hll:l.length=L at *;have Hll:=Lib.hid hll;clear hll;generalize M.length=ML at *;go_enter Tryz.func31,Tryz.ntmps31
 go_wp2_with fail
 rw [HW0.out];obtain ⟨q0,q1,q2,q3,q4,q5⟩:=Hb.out.cs;go_wp2_with fail
 refine Hc0.out.mono ?_;rintro e w1 ⟨rfl,hx1⟩;obtain ⟨q0,q1,q2,q3,q4,q5⟩:=(Hb.out.ext hx1).cs;have q6:=hx1.cell Hb1.out;have Hx1:=Lib.hid hx1;have HE1:=Lib.hid (HE0.out.trans hx1);clear hx1;by_cases hl0:L=0
 ·have HV:=Lib.hid (show V=Value.tuple #[.bool false,.int .i64 13] by rw [Hfv.out,if_pos (HL0.out.2 hl0)]);subst hl0;go_wp2_with fail
  go_ret2
  exact ⟨by rw [HV.out] <;> rfl,HE1.out⟩
 ·have Hn:=Lib.hid (show ¬ l=[] from fun e=>hl0 (HL0.out.1 e));have hl1:¬ (L:Int)=0:=by omega
  go_wp2_with fail
  refine (Hnt.out _ HE1.out).mono ?_;rintro e w2 ⟨rfl,rfl⟩;by_cases hE:E=0
  ·subst hE;by_cases hlm:(L:Int)=m
   ·have hdm:decide ((L:Int)=m)=true:=decide_eq_true hlm;have Hdm:=Lib.hid hdm;clear hdm;go_wp2_with fail
    refine (Hcon.out w1 HE1.out q6).mono ?_;rintro e w3 ⟨rfl,hx3⟩;have HE3:=Lib.hid (HE1.out.trans hx3)
    cases A with
    | true =>
     have HV:=Lib.hid (show V=Value.tuple #[.bool false,.int .i64 0] by have h:=Hfv.out;rw [if_neg Hn.out] at h;simpa using h)
     clear hx3
     go_wp2_with fail
     go_ret2
     exact ⟨by rw [HV.out] <;> rfl,HE3.out⟩
    | false =>
     obtain ⟨q0,q1,q2,q3,q4,q5⟩:=(Hb.out.ext (Hx1.out.trans hx3)).cs
     have q6:=(Hx1.out.trans hx3).cell Hb1.out
     have hh:=Hhas.out (Hse.out Hn.out (by trivial)) w3 _ HE3.out (Hv0.out.ext (Hx1.out.trans hx3))
     have Hh:=Lib.hid hh
     have HV:=Lib.hid (show V=Value.tuple #[.bool T,.int .i64 0] by have h:=Hfv.out;rw [if_neg Hn.out] at h;simpa [Hdm.out,hlm] using h)
     clear hh hx3
     go_wp2_with fail
     refine Hh.out.mono ?_
     rintro e w4 ⟨rfl,hx4⟩
     have HE4:=Lib.hid (HE3.out.trans hx4)
     clear hx4 q0 q1 q2 q3 q4 q5 q6
     go_wp2_with fail
     go_ret2
     exact ⟨by rw [HV.out] <;> rfl,HE4.out⟩
   ·have hdm:decide ((L:Int)=m)=false:=decide_eq_false hlm;have HV:=Lib.hid (show V=Value.tuple #[.bool false,.int .i64 0] by have h:=Hfv.out;rw [if_neg Hn.out] at h;simpa [hdm,hlm] using h);have hbn:((L:Int) == m)=false:=(by simpa using hlm);have hbm:((L:Int) != m)=true:=(by simpa using hlm);clear hdm;go_wp2_with fail
    go_ret2
    exact ⟨by rw [HV.out] <;> rfl,HE1.out⟩
  ·have hE1:(E == 0)=false:=(by simpa using hE);have hE2:(E != 0)=true:=(by simpa using hE);have HV:=Lib.hid (show V=Value.tuple #[.bool false,.int .i64 E] by rw [Hfv.out,if_neg Hn.out,if_neg hE]);clear hE;go_wp2_with fail
   go_ret2
   exact ⟨by rw [HV.out] <;> rfl,HE1.out⟩
theorem zo5 (v:Value)(p:List Int)(rs:List Qw)(m P:Int)(M:List Int)(b:Bool)(w:World)(he:Env w)(hv:QyV w v p rs m P M b)(h:Wd p (rs.map Qw.x))(hn:rs.length≤60)(hm0:0≤m)(hm:m≤rs.length)(hM:M.length≤rs.length)(hq:znq rs.length m P M=0) :
  Calls Tryz.prog 21 #[v] w fun e w'=>e=.returned (.tuple #[.string (I (zn9 rs.length m M.length)),.int .i64 0])∧Ext w w':=by
 have hck:=fun W vq (hE:Ext w W)(hq:QyV W vq p rs m P M b)=>znt vq p rs m P M b 0 W hq (by omega) (fun W' sv hE' hs=>zik sv p rs W' (he.ext (hE.trans hE')) hs h.right);rw [hq,znr] at hck;have hca:=fun W u (hE:Ext w W)(hu:QyV W u p rs m P M b)=>znB u p rs m P M b W (he.ext hE) hu hn hm0 hm hM;obtain ⟨ap,cp,an,cn,am,cm,rfl,hs,hmm⟩:=hv.let;have hE0:Ext w (w.alloc (.cells #[.slice ap p.length cp,.slice an rs.length cn,.int .i64 m,.int .i64 P,.slice am M.length cm,.bool b] 59)):=(Ext.refl w).alloc _;have hb:=zno.new w (.slice ap p.length cp) (.slice an rs.length cn) m P (.slice am M.length cm) b;have hv0:=hv.ext hE0;have hc0:=hck _ _ hE0 hv0;have Hc0:=Lib.hid hc0;have Hca:=Lib.hid hca;have HE0:=Lib.hid hE0;have Hb:=Lib.hid hb;have Hv0:=Lib.hid hv0;clear hck hca hE0 hb hv0 hc0 hs hmm hv h he hq hM hn hm0 hm;obtain ⟨q0,q1,q2,q3,q4,q5⟩:=Hb.out.cs;generalize I (zn9 rs.length m M.length)=S at *;go_enter Tryz.func21,Tryz.ntmps21
 go_wp2_with fail
 refine Hc0.out.mono ?_;rintro e w1 ⟨rfl,hx1⟩;obtain ⟨q0,q1,q2,q3,q4,q5⟩:=(Hb.out.ext hx1).cs;have hca1:=Hca.out w1 _ (HE0.out.trans hx1) (Hv0.out.ext hx1);have HE1:=Lib.hid (HE0.out.trans hx1);have Hca1:=Lib.hid hca1;clear hx1 hca1;go_wp2_with fail
 refine Hca1.out.mono ?_;rintro e w2 ⟨rfl,hx2⟩;have HE2:=Lib.hid (HE1.out.trans hx2);clear hx2 q0 q1 q2 q3 q4 q5;go_wp2_with fail
 go_ret2
 exact ⟨rfl,HE2.out⟩
end
section
open Go Go.RowKit
def zo6 (R:Nat→Prop)(W W':World):Prop:=W.heap.size≤W'.heap.size∧∀ r,R r→r<W.heap.size→W'.heap[r]?=W.heap[r]?
theorem zo6.refl (R:Nat→Prop)(W:World):zo6 R W W:=⟨Nat.le_refl _,fun _ _ _=>rfl⟩
theorem zo6.trans {R:Nat→Prop}{X Y Z:World}(h:zo6 R X Y)(k:zo6 R Y Z):zo6 R X Z :=
 ⟨Nat.le_trans h.1 k.1,fun r hr hl=>(k.2 r hr (Nat.lt_of_lt_of_le hl h.1)).trans (h.2 r hr hl)⟩
theorem zo6.mono {R R':Nat→Prop}{X Y:World}(h:zo6 R X Y)(hr:∀ r,R' r→R r):zo6 R' X Y:=⟨h.1,fun r g hl=>h.2 r (hr r g) hl⟩
theorem zo6.put {R:Nat→Prop}{W:World}{l:Nat}(o:Obj)(hl:¬ R l):zo6 R W (W.putObj l o) :=
 ⟨by rw [World.putObj_size];exact Nat.le_refl _,fun r hr _=>World.putObj_heap_other (fun e=>hl (e ▸ hr))⟩
def zo7 {β:Type}(b c:Nat)(I:β→World→Prop):Prop:=∀ s A C row,I s A→A.grownBy C row→(∀ r,row=some r→b≤r∧r<c)→I s C
theorem zo7.put {β:Type}{b c:Nat}{I:β→World→Prop}(h:zo7 b c I){s:β}{W:World}{l:Nat}(o:Obj)(hs:I s W)(hb:b≤l)(hc:l<c):I s (W.putObj l o) :=
 h s W _ (some l) hs (grownBy_putObj' W l o) fun r e=>by cases e;exact ⟨hb,hc⟩
theorem zo7.alloc {β:Type}{b c:Nat}{I:β→World→Prop}(h:zo7 b c I){s:β}{W:World}(o:Obj)(hs:I s W):I s (W.alloc o) :=
 h s W _ none hs (World.grownBy_alloc W o none) fun r e=>by cases e
def zo8 {α:Type}(F:Fence)(n:Nat)(P:Program)(gf:Nat)(lb:Array Value)(encs:α→Array Value)(Pre:Nat→α→World→Prop)(R:Nat→Prop)(k N:Nat)(S:List α→Prop)(w:World):Prop :=
 ∀ (l:Nat)(J:List α→World→Prop)(W:World),W.heap.size=w.heap.size+2→(∀ r,r<w.heap.size→W.heap[r]?=w.heap[r]?)→zo7 W.heap.size (W.heap.size+k) J →
  (∀ pre x W1,J pre W1→Pre (W.heap.size+k) x W1→W.heap.size+k≤W1.heap.size→pre.length<N→YieldAt F (n - 1) P l (encs x) W1 fun e W'=>e=.returned (.bool true)∧J (pre++[x]) W'∧zo6 R W1 W') →
  J [] W→CallsIn F n P gf (#[.func (.yield l) #[] #[]]++lb) W fun e W'=>(∃ v,e=.returned v)∧∃ xs,S xs∧J xs W'
variable {F : Fence} {n : Nat} {P : Program}
theorem zo9 {α:Type}{g:Operand}{ps:Array Tmp}{assign body:Code}{Q:Exit→Act→World→Prop}{a:Act}{w:World}
  (hro:F.round=none) (h1:1≤n) {gf:Nat} {lb:Array Value} (hg:a.eval g=.func (.func gf) #[] lb) (hFg:F.fn gf) (eg:∀ args w,(callFunc gf args).run P w=.ok (.enter gf args) w)
  {encs:α→Array Value} {Pre:Nat→α→World→Prop} {R:Nat→Prop} {k N:Nat} {S:List α→Prop} (hseq:zo8 F (n - 1) P gf lb encs Pre R k N S w) (hps:∀ x,(encs x).size=ps.size)
  (hPre:∀ x,zo7 w.heap.size (w.heap.size+2) (fun (_:Unit) W=>Pre (w.heap.size+2+k) x W))
  (hR1:¬ R (w.heap.size+1))
  (I:List α→World→Prop) (hI:zo7 w.heap.size (w.heap.size+2+k) I) (h0:I [] w) (a₁:α→Act)
  (hassign:∀ (l:Nat)(x:α)(W:World)(K:Act→World→Prop),K (a₁ x) W →
   assign.wpIn (F.inRound l) (n - 1 - 1) P (Exit.then K (fun _ _ _=>False)) { tmps:=(ps.zip (encs x)).foldl (fun t (p,v)=>t.setIfInBounds p v) a.tmps,defers:=[] } W)
  (hbody:∀ (l:Nat)(pre:List α)(x:α)(W:World),I pre W→Pre (w.heap.size+2+k) x W→w.heap.size+2+k≤W.heap.size→pre.length<N →
   body.wpIn (F.inRound l) (n - 1 - 1) P (fun e _ W'=>e=.normal∧zo6 (fun r=>R r∨r=w.heap.size∨r=w.heap.size+1) W W'∧I (pre++[x]) W') (a₁ x) W)
  (hdone:∀ (xs:List α)(W:World),S xs→I xs W→W.heap[w.heap.size]?=some (.deferred (some []))→Q .normal { a with defers:={ target:=.collected w.heap.size,args:=#[] }::a.defers } W) :
  (Code.rangeFunc g ps assign body).wpIn F n P Q a w:=by
 refine wpIn_rangeFunc fun fn hfn=>?_;rw [hro];obtain ⟨rec0,hrec⟩:∃ rec0:LoopState→Option Code→Loop,rec0=fun st pe=>{ state:=st,pending:=pe,fn,tmps:=a.tmps,params:=ps,assign,body,defers:=w.heap.size }:=⟨_,rfl⟩;have hW:∃ W1,(w.alloc (.deferred (some []))).alloc (.loop (rec0 .ready none))=W1:=⟨_,rfl⟩;obtain ⟨W1,hW1⟩:=hW;have hsz:W1.heap.size=w.heap.size+2:=by rw [← hW1,World.size_alloc,World.size_alloc]
 have hL1:W1.heap[w.heap.size+1]?=some (.loop (rec0 .ready none)):=by
  have:=World.alloc_heap_new (w.alloc (.deferred (some []))) (.loop (rec0 .ready none));rw [World.size_alloc] at this;rw [← hW1];exact this
 have hD1:W1.heap[w.heap.size]?=some (.deferred (some [])):=by
  rw [← hW1];exact (Below.heap_alloc _ _ _ (by rw [World.size_alloc];omega)).trans (World.alloc_heap_new w _)
 have hold:∀ r,r<w.heap.size→W1.heap[r]?=w.heap[r]?:=fun r hr=>by
  rw [← hW1];exact (Below.heap_alloc _ _ _ (by rw [World.size_alloc];omega)).trans (Below.heap_alloc _ _ _ hr)
 have hI1:I [] W1:=by rw [← hW1];exact hI.alloc _ (hI.alloc _ h0)
 -- the iterator's call, with the loop's two blocks beside the caller's statement
 have hcall:=hseq (w.heap.size+1) (fun pre W=>I pre W∧W.heap[w.heap.size+1]?=some (.loop (rec0 .ready none))∧W.heap[w.heap.size]?=some (.deferred (some []))) W1 hsz hold
  (fun s A C row hs hgr hr=>⟨hI s A C row hs.1 hgr fun r e=>by have:=hr r e;omega,
   (hgr.block _ (Array.getElem?_eq_some_iff.1 hs.2.1).1 fun e=>by have:=hr _ e.symm;omega).trans hs.2.1,
   (hgr.block _ (Array.getElem?_eq_some_iff.1 hs.2.2).1 fun e=>by have:=hr _ e.symm;omega).trans hs.2.2⟩)
  (fun pre x W hJ hpre hsize hlen=>by
   obtain ⟨hi,hl,hd⟩:=hJ;have hlt:w.heap.size+1<W.heap.size:=(Array.getElem?_eq_some_iff.1 hl).1;have hy:=run_yield (P:=P) (args:=encs x) hl (by rw [hrec];exact hps x);have hbr:=run_beginRound (P:=P) hl (by rw [hrec]);rw [show { rec0 LoopState.ready none with state:=LoopState.busy }=rec0 .busy none by rw [hrec]] at hbr;rw [hrec] at hy;refine ⟨fn,_,assign,body,hy,roundIn_of_wpIn hfn (hassign _ x W _ ⟨_,hbr,?_⟩)⟩;have hl2:(W.putObj (w.heap.size+1) (.loop (rec0 .busy none))).heap[w.heap.size+1]?=some (.loop (rec0 .busy none)):=World.putObj_heap_same hlt;have hd2:(W.putObj (w.heap.size+1) (.loop (rec0 .busy none))).heap[w.heap.size]?=some (.deferred (some [])):=(World.putObj_heap_other (by omega)).trans hd;refine wpIn_mono (hbody _ pre x _ (hI.put _ hi (by omega) (by omega)) ((hPre x).put (s:=()) _ (by rw [show w.heap.size+2+k=W1.heap.size+k by omega];exact hpre) (by omega) (by omega)) (by rw [World.putObj_size];omega) hlen) ?_;rintro e a3 W3 ⟨rfl,hk3,hi3⟩;have hl3:=(hk3.2 (w.heap.size+1) (.inr (.inr rfl)) (by rw [World.putObj_size];omega)).trans hl2;have hd3:=(hk3.2 w.heap.size (.inr (.inl rfl)) (by rw [World.putObj_size];omega)).trans hd2;have her:=run_endRound (P:=P) none hl3;rw [show { rec0 LoopState.busy none with state:=if (none:Option Code).isNone=true then LoopState.ready else LoopState.done,pending:=(none:Option Code) }=rec0 .ready none by rw [hrec];rfl] at her;refine ⟨_,_,her,rfl,⟨hI.put _ hi3 (by omega) (by omega),World.putObj_heap_same (Array.getElem?_eq_some_iff.1 hl3).1,(World.putObj_heap_other (by omega)).trans hd3⟩,?_⟩;exact ((zo6.put _ hR1).trans (hk3.mono fun r hr=>.inl hr)).trans (zo6.put _ hR1))
  ⟨hI1,hL1,hD1⟩
 refine ⟨w.heap.size+1,[{ target:=.collected w.heap.size,args:=#[] }],W1,{ target:=.fn (.func gf) lb,args:=#[.func (.yield (w.heap.size+1)) #[] #[]] },W1,gf,
  #[.func (.yield (w.heap.size+1)) #[] #[]]++lb,W1,?_,?_,?_,?_,fun _=>h1,?_⟩
 ·rw [← hW1,hrec];exact run_enterLoop_outer _ _ _ _ _
 ·simp only [resolve,hg]
  simp [go_sem]
 ·intro f' hf';simp [Target.leads] at hf';subst hf';exact hFg
 ·simp [invoke,go_sem,eg]
 ·refine hcall.mono ?_
  rintro e W2 ⟨⟨v,rfl⟩,xs,hS,hi,hl,hd⟩
  have hel:=run_endLoop (P:=P) hl (by rw [hrec];simp)
  rw [show (rec0 .ready none).pending=none by rw [hrec]] at hel
  exact ⟨none,_,hel,hdone xs _ hS (hI.put _ hi (by omega) (by omega)) ((World.putObj_heap_other (by omega)).trans hd)⟩
end
section
open Go.RowKit Go.Lib Go.Shelf
attribute [local go_sem] Oper.semAt_some
structure Iw where
 u:Value
 l:List Int
def zoA (V:List Int→Prop)(B:Nat)(x:Iw)(W:World):Prop:=zfh W B x.u x.l∧V x.l
theorem Ext.grows {w w':World}(h:Ext w w'):w.grownBy w' none:=⟨h.os,h.tape,h.output,h.size,fun k hk _=>h.block k hk⟩
theorem zo7.ext {β:Type}{b c:Nat}{I:β→World→Prop}(h:zo7 b c I){s:β}{w w':World}(hs:I s w)(hx:Ext w w'):I s w':=h s w w' none hs hx.grows fun r e=>by cases e
theorem zo7.row {β:Type}{b c:Nat}{I:β→World→Prop}(h:zo7 b c I){s:β}{w w':World}{g:Nat}(hs:I s w)(hx:w.grownBy w' (some g))(h1:b≤g)(h2:g<c):I s w':=h s w w' (some g) hs hx fun r e=>by cases e;exact ⟨h1,h2⟩
theorem zo6.ext {R:Nat→Prop}{w w':World}(h:Ext w w'):zo6 R w w':=⟨h.size,fun r _ hl=>h.block r hl⟩
structure ItS (W:World)(n0 Bq Bn By Bc r0 ly:Nat)(vp vn:Value)(n m:Nat)(P:Int)(am:Option Addr)(cm:Nat)(b:Bool)(M ns:List Int):Prop where
 q:zno W Bq vp vn (m:Int) P (.slice am M.length cm) b
 bn:Boxed W Bn 3 (.int .i64 (n:Int))
 by_:Boxed W By 222 (.func (.yield ly) #[] #[])
 bc:Boxed W Bc 214 (.func (.func 175) #[] #[.pointer (some ⟨Bq,0,none⟩),.pointer (some ⟨By,0,none⟩),.pointer (some ⟨Bn,0,none⟩),.pointer (some ⟨Bc,0,none⟩)])
 row:W.ownsRow r0 3 1 (.slice (some ⟨r0,0,none⟩) ns.length m) ns.length (zap ns)
 must:∀ i z,M[i]?=some z→∃ g off,am=some ⟨g,off,none⟩∧g<n0∧W.cell? ⟨g,off+i,none⟩=some (.int .i64 z)
def ItR (n0 Bq Bn By Bc r:Nat):Prop:=r<n0∨r=Bq∨r=Bn∨r=By∨r=Bc
section
variable {W W' : World} {n0 Bq Bn By Bc r0 ly : Nat} {vp vn : Value} {n m : Nat} {P : Int} {am : Option Addr} {cm : Nat} {b : Bool} {M ns : List Int}
theorem zoB {w w':World}{a:Addr}(h:w'.heap[a.block]?=w.heap[a.block]?):w'.cell? a=w.cell? a:=by unfold World.cell?;rw [h]
theorem ItS.keepRow (h:ItS W n0 Bq Bn By Bc r0 ly vp vn n m P am cm b M ns)(hk:zo6 (ItR n0 Bq Bn By Bc) W W'){ns':List Int}(hr:W'.ownsRow r0 3 1 (.slice (some ⟨r0,0,none⟩) ns'.length m) ns'.length (zap ns')) :
  ItS W' n0 Bq Bn By Bc r0 ly vp vn n m P am cm b M ns':=by
 have lt:∀ {r:Nat}{o:Obj},W.heap[r]?=some o→r<W.heap.size:=fun h=>(Array.getElem?_eq_some_iff.1 h).1;refine ⟨(hk.2 Bq (.inr (.inl rfl)) (lt h.q)).trans h.q,(hk.2 Bn (.inr (.inr (.inl rfl))) (lt h.bn)).trans h.bn,(hk.2 By (.inr (.inr (.inr (.inl rfl)))) (lt h.by_)).trans h.by_,
  (hk.2 Bc (.inr (.inr (.inr (.inr rfl)))) (lt h.bc)).trans h.bc,hr,fun i z hz=>?_⟩
 obtain ⟨g,off,e,hg,hc⟩:=h.must i z hz;have hlt:=World.block_lt_of_cell? _ _ hc;exact ⟨g,off,e,hg,(zoB (a:=⟨g,off+i,none⟩) (hk.2 g (.inl hg) hlt)).trans hc⟩
theorem ItS.keep (h:ItS W n0 Bq Bn By Bc r0 ly vp vn n m P am cm b M ns)(hk:zo6 (fun r=>ItR n0 Bq Bn By Bc r∨r=r0) W W'):ItS W' n0 Bq Bn By Bc r0 ly vp vn n m P am cm b M ns:=by
 refine h.keepRow (hk.mono fun r hr=>.inl hr) ?_;obtain ⟨h1,h2⟩:=h.row;refine ⟨h1,?_⟩;rcases h2 with h2 | ⟨g,cap,cur,e,hb,hh,rest⟩
 ·exact .inl h2
 ·refine .inr ⟨g,cap,cur,e,hb,?_,rest⟩;have e2:g=r0:=by injection e with e;injection e with e;injection e with e1;exact e1.symm
  subst e2;exact (hk.2 g (.inr rfl) (Array.getElem?_eq_some_iff.1 hh).1).trans hh
theorem ItS.ext (h:ItS W n0 Bq Bn By Bc r0 ly vp vn n m P am cm b M ns)(hx:Ext W W'):ItS W' n0 Bq Bn By Bc r0 ly vp vn n m P am cm b M ns:=h.keep (zo6.ext hx)
theorem zoC {g cap:Nat}{x:Int}{ns:List Int}(h:W.ownsRow g 3 1 (.slice (some ⟨g,0,none⟩) (ns++[x]).length cap) (ns++[x]).length (zap (ns++[x]))):W.ownsRow g 3 1 (.slice (some ⟨g,0,none⟩) ns.length cap) ns.length (zap ns):=by
 obtain ⟨_,h2⟩:=h;refine ⟨by rw [zar,Nat.mul_one],?_⟩;rcases h2 with ⟨e,_⟩ | ⟨g',cap',cur,e,hb,hh,hn,hc,hs,ht⟩
 ·cases e
 ·injection e with e1 e2 e3;subst e3;injection e1 with e1;injection e1 with e1;subst e1;rw [List.length_append,List.length_singleton] at hn ht;refine .inr ⟨g,cap,cur,rfl,hb,hh,by omega,hc,hs,?_⟩;have:=congrArg (List.take ns.length) ht;rw [List.take_take,show min ns.length ((ns.length+1) * 1)=ns.length * 1 by omega] at this;rw [this,zap,List.map_append,List.take_left' (by rw [List.length_map])];rfl
theorem ItS.less {x:Int}(h:ItS W n0 Bq Bn By Bc r0 ly vp vn n m P am cm b M (ns++[x])):ItS W n0 Bq Bn By Bc r0 ly vp vn n m P am cm b M ns :=
 ⟨h.q,h.bn,h.by_,h.bc,zoC h.row,h.must⟩
end
theorem zoD {n m:Nat}{M:List Int}{f:Nat}{l:List Int}{u:Nat}(h:l.length=m):cho n m M f l u=if u<M.length then [] else [l]:=by
 cases f <;> rw [cho,if_pos h]
theorem zoE {n m:Nat}{M:List Int}{f:Nat}{l:List Int}{u:Nat}(h:l.length ≠ m)(hk:f<m - l.length):cho n m M f l u=[]:=by
 cases f with
 | zero=>rw [cho,if_neg h]
 | succ f=>rw [cho,if_neg h,if_neg (by omega)]
theorem zoF {n m:Nat}{M:List Int}{f:Nat}{l:List Int}{u:Nat}(h:l.length ≠ m)(hk:m - l.length≤f+1)(hit:M[u]?=some ((n - (f+1):Nat):Int)) :
  cho n m M (f+1) l u=if M.length≤(u+1)+(m - l.length - 1) then cho n m M f (l++[((n - (f+1):Nat):Int)]) (u+1) else []:=by
 rw [cho,if_neg h,if_pos hk,if_pos hit]
theorem zoG {n m:Nat}{M:List Int}{f:Nat}{l:List Int}{u:Nat}(h:l.length ≠ m)(hk:m - l.length≤f+1)(hit:¬ M[u]?=some ((n - (f+1):Nat):Int)) :
  cho n m M (f+1) l u=(if M.length≤u+(m - l.length - 1) then cho n m M f (l++[((n - (f+1):Nat):Int)]) u else [])++cho n m M f l u:=by
 rw [cho,if_neg h,if_pos hk,if_neg hit]
theorem zoH {P:Program}{ops:Array Oper}{o:Oper}{a:Act}{w:World}{K:Act→World→Prop}{Q:Exit→Act→World→Prop}{E:Prop}
  (hw:Region.wanted o (yielded ops a.tmps)=true) (s x:Operand) (t:TypeId) (hop:o.op=Op.call { callee:=Callee.builtin Builtin.append,args:=#[s,x],argTypes:=#[t,t] })
  (base:Nat) (e:TypeId) (i:TypeInfo) (size:Nat) (h1:P.underlying t=some (.slice e)) (h2:P.info? e=some i) (h4:i.size=size)
  (g k cap:Nat) (xs:List Value) (hs:a.eval s=.slice (some ⟨g,0,none⟩) k cap) (hown:w.ownsRow base e size (.slice (some ⟨g,0,none⟩) k cap) k xs)
  (ad:Addr) (m c:Nat) (news:List Value) (hx:a.eval x=.slice (some ad) m c) (hn:news.length=m * size) (hc:∀ j u,news[j]?=some u→w.cell? (ad.add j)=some u) (h1c:∀ u∈news,u.oneCell'=true) (b1:k+m≤cap)
  (hK:∀ w',w'.ownsRow base e size (.slice (some ⟨g,0,none⟩) (k+m) cap) (k+m) (xs++news)→w.grownBy w' (some g)→K (a.put o.dst (.slice (some ⟨g,0,none⟩) (k+m) cap)) w') :
  if Region.wanted o (yielded ops a.tmps)=true then Oper.wp P o a w K Q else E:=by
 rw [if_pos hw];subst h4;obtain ⟨w',hrun,r1,r2⟩:=run_append_fits (P:=P) w base t o.type e i i.size h1 h2 rfl g k cap xs hown ad m c news hn hc h1c b1;unfold Oper.wp;simp [execOp,hop,resolve,invoke,builtin,hs,hx,hrun,Result.andThen];exact hK w' r1 r2
theorem zoI {m m':Nat}{P:Program}{l:Nat}{f:FuncId}{tmps:Array Value}{assign body:Code}{w:World}{R:Ending→World→Prop}(h:RoundIn Fence.wide m P l f tmps assign body w R):RoundIn Fence.wide m' P l f tmps assign body w R :=
 ⟨h.1,fun c cs _=>h.2 c cs fun d hd=>by cases hd⟩
section
variable {W : World} {n0 Bq Bn By Bc r0 ly : Nat} {vp vn : Value} {n m : Nat} {P : Int} {am : Option Addr} {cm : Nat} {b : Bool} {M ns : List Int}
theorem zoJ (h:ItS W n0 Bq Bn By Bc r0 ly vp vn n m P am cm b M ns)(hl:ns.length=m)(k u:Nat)(hu:u<M.length) :
  Calls Tryz.prog 175 #[.slice (some ⟨r0,0,none⟩) ns.length m,.int .i64 (k:Int),.int .i64 (u:Int),.pointer (some ⟨Bq,0,none⟩),.pointer (some ⟨By,0,none⟩),.pointer (some ⟨Bn,0,none⟩),.pointer (some ⟨Bc,0,none⟩)] W
   fun e w'=>e=.returned (.bool true)∧Ext W w':=by
 obtain ⟨_,_,q2,_,q4,_⟩:=h.q.cs;rw [hl];clear h hl;generalize M.length=L at *;have hd1:decide (u<L)=true:=decide_eq_true hu;have hd2:(u:Int)<(L:Int):=by omega
 have hd3:decide ((u:Int)<(L:Int))=true:=decide_eq_true hd2;go_enter Tryz.func175,Tryz.ntmps175
 go_wp2_with fail
 go_quiet (fail)
 go_wp2_with fail
 go_ret
 exact ⟨rfl,(Ext.refl W).drewN _⟩
theorem zoK {V:List Int→Prop}{c N:Nat}{J:List Iw→World→Prop}{R:Nat→Prop}(hJ:zo7 By c J)(hR:∀ r,ItR n0 Bq Bn By Bc r∨r=r0→R r)
  (hY:∀ pre x W1,J pre W1→zoA V c x W1→c≤W1.heap.size→pre.length<N→YieldAt Fence.wide 1 Tryz.prog ly #[x.u] W1 fun e W'=>e=.returned (.bool true)∧J (pre++[x]) W'∧zo6 R W1 W')
  {pre:List Iw} (hV:V ns) (hj:J pre W) (hpn:pre.length<N) (hW:c≤W.heap.size)
  (h:ItS W n0 Bq Bn By Bc r0 ly vp vn n m P am cm b M ns) (hl:ns.length=m) (k u:Nat) (hu:¬ u<M.length) (_hM:M.length≤1000) (hm:m≤1000) :
  Calls Tryz.prog 175 #[.slice (some ⟨r0,0,none⟩) ns.length m,.int .i64 (k:Int),.int .i64 (u:Int),.pointer (some ⟨Bq,0,none⟩),.pointer (some ⟨By,0,none⟩),.pointer (some ⟨Bn,0,none⟩),.pointer (some ⟨Bc,0,none⟩)] W
   fun e w'=>e=.returned (.bool true)∧∃ x:Iw,x.l=ns∧J (pre++[x]) w'∧ItS w' n0 Bq Bn By Bc r0 ly vp vn n m P am cm b M ns∧W.heap.size≤w'.heap.size:=by
 obtain ⟨_,_,q2,_,q4,_⟩:=h.q.cs;have q5:=h.by_.cell;have hcl:=fun W1 (hE:Ext W W1)=>zjE r0 0 m ns W1 (by omega) (fun j z hz=>by
  have hr:=World.ownsRow.cells (hE.own h.row) (g:=r0) rfl j (.int .i64 z) (by unfold zap;rw [List.getElem?_map,hz];rfl);rw [Addr.add_lit] at hr;exact hr)
 rw [hl] at hcl ⊢;have hyy:=fun W1 u1 (hE:Ext W W1)(ho:zfh W1 c u1 ns)=>hY pre ⟨u1,ns⟩ W1 (hJ.ext hj hE) ⟨ho,hV⟩ (Nat.le_trans hW hE.size) hpn;have Hcl:=Lib.hid hcl;have Hyy:=Lib.hid hyy;have HI:=Lib.hid h;have HW:=Lib.hid hW;have HR:=Lib.hid hR;clear hcl hyy h hY hJ hj hpn hW hR;generalize hLL:M.length=L at *;have hd1:decide (u<L)=false:=decide_eq_false hu;have hd2:¬ (u:Int)<(L:Int):=by omega
 have hd3:decide ((u:Int)<(L:Int))=false:=decide_eq_false hd2;refine (callsIn_wide (n:=3)).1 ?_;refine callsIn_of_wp Tryz.func175 rfl trivial ?_ rfl;simp only [Tryz.ntmps175,List.size_toArray,List.length_cons,List.length_nil,Nat.reduceAdd,Nat.reduceSub,Array.replicate_succ,Array.replicate_zero,List.push_toArray,List.append_toArray,List.nil_append,List.cons_append];gi_wp2_with fail;have hmo:Tryz.prog.follows .mixedOrders=true:=by kernel_rfl
 gi_region_with_o (first
  | (refine ⟨trivial,?_⟩;gi_at_call 37;refine (callsIn_wide.2 (Hcl.out _ (Ext.refl W).drew)).mono ?_;rintro e W1 ⟨u1,rfl,ho,hne,hx⟩;have hx1:=(Ext.refl W).drew.trans hx;have q6:=hx1.cell q5;obtain ⟨fn,tmps,assign,body,hy,hR⟩:=Hyy.out W1 u1 hx1 (zam ho HW.out);have HR1:=Lib.hid hR;have Hx1:=Lib.hid hx1;clear hR hx1 hx ho hne)
  | (refine (zoI HR1.out).mono ?_;rintro e W2 ⟨rfl,hj2,hk2⟩;have Hj2:=Lib.hid hj2;have Hk2:=Lib.hid hk2;clear hj2 hk2))
 all_goals
  gi_wp2_with fail;go_ret
  exact ⟨rfl,⟨u1,ns⟩,rfl,Hj2.out,(HI.out.ext Hx1.out).keep (Hk2.out.mono HR.out),Nat.le_trans Hx1.out.size Hk2.out.1⟩
end
end
end Go.Proofs.YtebabancfnmfjaaGreatDoor
