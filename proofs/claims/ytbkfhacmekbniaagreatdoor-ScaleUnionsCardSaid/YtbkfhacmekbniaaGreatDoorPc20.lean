/- Walk: scale.Chain of at most nine links. Walks: law 31's whole, octave, multiples. Walks: law 31's reduce, order, and the closures of its collect. Walk: law 31's collect of at most nine sizes. Walks: law 31's Size of a world's numbers. Plain: the sizes of a world are sizes that a scale is made of. Walks: law 31's primes of a world. Walks: law 31's Make. What the laws of worlds begin with: a world in its box. Plain: modes again, the subset of all notes, the collection of a scale's own notes, the sum of the steps. -/
import Derived.Test.YtbkfhacmekbniaaGreatDoorPc18
import Derived.Test.YtbkfhacmekbniaaGreatDoorPc19
import Derived.Test.YtbkfhacmekbniaaGreatDoorPc16
import Derived.Test.YtbkfhacmekbniaaGreatDoorPc17
import Derived.Test.YtbkfhacmekbniaaGreatDoorShelfF
set_option maxRecDepth 100000
set_option maxHeartbeats 800000
namespace Go.Proofs.YtbkfhacmekbniaaGreatDoor
open Go.RowKit Go.Lib Go.Shelf
attribute [local go_sem] Oper.semAt_some
def zkb (g:List Rat)(a:Int)(n:Nat):List (List Rat):=(List.range n).map fun (i:Nat)=>ze3 g ((a+(i:Int):Int):Rat)
theorem zkc (g:List Rat)(a:Int)(n:Nat):zkb g a (n+1)=zkb g a n++[ze3 g ((a+(n:Int):Int):Rat)]:=by unfold zkb;rw [List.range_succ,List.map_append];rfl
theorem zkd (g:List Rat)(a:Int)(n:Nat):(zkb g a n).length=n:=by unfold zkb;simp
def QsR (W:World)(xs:List (List Rat))(v:Value)(wr:World):Prop:=∃ out:List Qw,QwM wr W.heap.size W.heap.size v out∧out.map Qw.x=xs∧Ext W wr
theorem QsR.more {W wr V:World}{v v7 u:Value}{x:List Rat}{out:List Qw}{xs:List (List Rat)}{o:Obj}(hE:Ext W wr)(hq:QwM wr W.heap.size W.heap.size v out)(hm:out.map Qw.x=xs)(ho:zfw wr W.heap.size u x)
  (hown:V.ownsRow W.heap.size 32 1 v7 (out.length+1) (qwc out++[u])) (hgrow:(wr.alloc o).grownBy V v.ownBlock):QsR W (xs++[x]) v7 V:=by
 have:=QwM.more (r:=⟨_,u,zf0 ho.rd⟩) hE hq ho hown hgrow;exact ⟨_,this.1,by rw [List.map_append,hm];rfl,this.2⟩
def zke (l:List Int):List Rat:=l.map fun (z:Int)=>(z:Rat)
theorem zkf (l:List Int):(zke l).length=l.length:=by unfold zke;simp
theorem zkg {l:List Int}{k:Nat}{z:Int}(h:l[k]?=some z):(zke l).take (k+1)=(zke l).take k++[(z:Rat)]:=by
 have h2:(zke l)[k]?=some (z:Rat):=by unfold zke;rw [List.getElem?_map,h];rfl
 obtain ⟨hk,e⟩:=List.getElem?_eq_some_iff.1 h2;rw [List.take_succ_eq_append_getElem hk,e]
theorem zkh (v:Value)(l:List Int)(w:World)(he:Env w)(hv:Sl w v (zak l))(hl9:l.length≤1000)(hl:∀ z∈l,z.natAbs<1000000000) :
  Calls Tryz.prog 33 #[v] w fun e w'=>∃ u,e=.returned u∧zfw w' w.heap.size u (zke l)∧Ext w w':=by
 obtain ⟨i0,hi,hz0,hz1,hz2⟩:=info_parts zfx;have hof:=fun (z:Int)(h:z∈l) W (hE:Ext w W)=>zjU z 1 W (he.ext hE) (hl z h) (by decide) (by decide);obtain ⟨a,c,rfl,_,_,hc⟩:=hv.parts;have hnx:∀ k,k<l.length→∃ z,l[k]?=some z∧z∈l:=fun k hk=>⟨_,List.getElem?_eq_getElem hk,List.getElem_mem _⟩;have hcell:∀ k z,l[k]?=some z→∃ b off,a=some ⟨b,off,none⟩∧w.cell? ⟨b,off+k,none⟩=some (.int .i64 z):=fun k z h=>hc k _ (by unfold zak;rw [List.getElem?_map,h];rfl);have hrl:=zkf l;rw [zam];generalize hn:l.length=n at *;have Hof:=hid hof;have Hnx:=hid hnx;have Hcell:=hid hcell;have Hrl:=hid hrl;clear hv hc he hl hof hnx hcell hrl hn;go_enter Tryz.func33,Tryz.ntmps33
 go_wp2_with fail
 go_loopw [3,5,8] (fun v3 v5 v8 wr=>∃ k:Nat,v8=.int .i64 k∧k≤n∧wr.ownsRow w.heap.size 60 2 v3 k (rcs ((zke l).take k))∧Hid (Ext w wr)) (fun _ _ v8 _=>n - (zag v8).toNat)
 case atStart=>exact ⟨0,rfl,Nat.zero_le _,World.ownsRow_nil w _ _ 2,hid (Ext.refl _)⟩
 case round =>
  obtain ⟨k,rfl,hk,ho,HE⟩:=hrel;obtain ⟨a5,c5,rfl⟩:=zfl ho;by_cases hkn:k<n
  ·obtain ⟨z,hz,hzm⟩:=Hnx.out k hkn;obtain ⟨b,off,rfl,h0⟩:=Hcell.out k z hz;have htk:=zkg hz;have hcl:=fun W (hE:Ext w W)=>Hof.out z hzm W hE;rw [show mkRat z 1=(z:Rat) from Rat.mkRat_one z] at hcl;unfold Rv at hcl;generalize hs1:I ((z:Rat)).num=s1 at *;generalize hs2:I ((((z:Rat)).den:Nat):Int)=s2 at *;have hrn:rcs ((zke l).take (k+1))=rcs ((zke l).take k)++[.string s1,.string s2]:=(by rw [htk,zft,hs1,hs2]);have Hrn:=hid hrn;clear hrn hs1 hs2 htk;have hk0:(0:Int)≤(k:Int):=(by omega);have hk1:(k:Int)<(n:Int):=(by omega);have c0:=HE.out.cell h0;have hm3:k+1≤maxLen:=(by unfold maxLen;omega);have hm4:(k+1) * 32≤140737488355328:=(by omega);have Hcl:=hid hcl;have Ho:=hid ho;clear hcl ho h0 hz hzm;go_wp2_with fail
   refine (Hcl.out wr HE.out).mono ?_;rintro e VA ⟨rfl,hxa⟩;have HEA:=hid (HE.out.trans hxa);have hoA:=hxa.own Ho.out;have hbase:=HEA.out.size;clear hxa c0;go_wp2_with (at_builtin;refine wpList_append_own _ rfl _ _ 32 rfl w.heap.size 60 i0 (.agg #[.string ByteArray.empty,.string ByteArray.empty]) 2 32 Tryz.underlying32 hi hz0 hz1 hz2 rfl (by decide) _ _ _ rfl (hoA.alloc _) ⟨VA.heap.size,0,none⟩ 1 1 [.string s1,.string s2] rfl rfl (zjW VA _ _ _) (by simp [Value.oneCell']) hm3 hm4 (by rw [World.size_alloc];omega) ?_;intro v7 V7 hown7 hgrow7 _)
   go_roundw
   case rel=>exact ⟨k+1,by go_num,by omega,by rw [Hrn.out];exact hown7,hid ((HEA.out.alloc _).grown hgrow7 fun j hj=>(World.ownsRow.lt (hoA.alloc (.cells #[.string s1,.string s2] 60)) j hj).1)⟩
   case measure=>simp [zag];omega
  ·obtain rfl:n=k:=by omega
   rw [List.take_of_length_le (by rw [Hrl.out];exact Nat.le_refl _)] at ho;have Ho:=hid ho;clear ho;go_wp2
   go_ret
   exact ⟨_,rfl,by unfold zfw;rw [Hrl.out];exact Ho.out,HE.out⟩
theorem zki (vp:Value)(p:List Int)(w:World)(he:Env w)(hp:Sl w vp (zak p))(hp0:0<p.length)(hp9:p.length≤100) :
  Calls Tryz.prog 10 #[vp] w fun e w'=>∃ u,e=.returned u∧zfw w' w.heap.size u (ov (p.length - 1))∧Ext w w':=by
 obtain ⟨i0,hi,hz0,hz1,hz2⟩:=info_parts zfj;have hwh:=fun W v (hE:Ext w W)(hv:Sl W v (zak (List.replicate p.length 0)))=>zkh v (List.replicate p.length 0) W (he.ext hE) hv (by rw [List.length_replicate];omega) (fun z hz=>by rw [List.eq_of_mem_replicate hz];decide);have hof:=fun W (hE:Ext w W)=>zjU 1 1 W (he.ext hE) (by decide) (by decide) (by decide);rw [show mkRat 1 1=(1:Rat) from Rat.mkRat_one 1] at hof;obtain ⟨ap,cp,rfl,_,_,_⟩:=hp.parts;rw [zam];have hrl:(zke (List.replicate p.length 0)).length=p.length:=by rw [zkf,List.length_replicate]
 have hrc:((rcs (zke (List.replicate p.length 0))).set 0 (.string (I (1:Rat).num))).set 1 (.string (I (((1:Rat).den:Nat):Int)))=rcs (ov (p.length - 1)):=by
  obtain ⟨m,hm⟩:∃ m,p.length=m+1:=⟨p.length - 1,by omega⟩;rw [hm,Nat.add_sub_cancel];unfold zke ov;rw [List.map_replicate,List.replicate_succ,zfr,zfr];rfl
 have hovl:(ov (p.length - 1)).length=p.length:=by rw [zhM];omega
 unfold Rv at hof;generalize I (1:Rat).num=s1 at *;generalize I (((1:Rat).den:Nat):Int)=s2 at *;generalize hn:p.length=n at *;have Hwh:=hid hwh;have Hof:=hid hof;have Hrl:=hid hrl;have Hrc:=hid hrc;have Hovl:=hid hovl;clear hp he hwh hof hrl hrc hovl hn;go_enter Tryz.func10,Tryz.ntmps10
 go_wp2_with (at_make;refine wpList_make_full _ rfl _ _ 28 rfl w.heap.size 3 i0 _ 1 Tryz.underlying28 hi hz0 hz1 _ _ _ _ n rfl rfl rfl rfl (by rw [hz2];omega) (by unfold maxLen;omega) (Nat.le_refl _) ?_;intro w1 hown hgrow)
 have hx1:Ext w w1:=(Ext.refl w).grown hgrow (by simp);rw [show (Value.int .i64 0).cells=#[Value.int .i64 0] from rfl,toList_madeCells_one] at hown;have hsl:Sl w1 (.slice (some ⟨w.heap.size,0,none⟩) n n) (zak (List.replicate n 0)):=by
  have:=zai hown;rw [Nat.mul_one] at this;unfold zak;rw [List.map_replicate];exact this
 have hw1:=Hwh.out w1 _ hx1 hsl;have Hx1:=hid hx1;have Hw1:=hid hw1;clear hown hgrow hx1 hsl hw1;go_wp2_with fail
 refine Hw1.out.mono ?_;rintro e w2 ⟨u2,rfl,ho2,hx2⟩;have ho2':=ho2;unfold zfw at ho2';rw [Hrl.out] at ho2';rcases ho2'.2 with ⟨_,h0⟩ | ⟨g,cap,cur,rfl,hbg,hg,h1,h2,h3,h4⟩
 ·omega
 ·have hf:=Hof.out w2 (Hx1.out.trans hx2);have Hf:=hid hf;have Ho2:=hid ho2';have Hx2:=hid (Hx1.out.trans hx2);have hbw:w.heap.size≤g:=Nat.le_trans Hx1.out.size hbg;clear hf ho2 ho2' hx2 hg h1 h2 h3 h4;go_wp2_with fail
  refine Hf.out.mono ?_;rintro e w3 ⟨rfl,hx3⟩;have ho3:=hx3.own Ho2.out;have c0:=World.ownsRow.cellAt ho3 0 (by omega);have c1:=World.ownsRow.cellAt ho3 1 (by omega);have hlen:(rcs (zke (List.replicate n 0))).length=2 * n:=by rw [zfu,Hrl.out]
  obtain ⟨e0,he0⟩:∃ q0,(rcs (zke (List.replicate n 0)))[0]?=some q0:=⟨_,List.getElem?_eq_getElem (by omega)⟩;obtain ⟨e1,he1⟩:∃ q0,(rcs (zke (List.replicate n 0)))[1]?=some q0:=⟨_,List.getElem?_eq_getElem (by omega)⟩;rw [he0] at c0;rw [he1] at c1;have f0:=zjM ho3 0;have f1:=zjM ho3 1;have hs0:=World.ownsRow.stored ho3 0 (.string s1);have hs1:=World.ownsRow.stored hs0.1 1 (.string s2);rw [Hrc.out] at hs1;have hE3:=((Hx2.out.trans hx3).setCell (p:=⟨g,0,none⟩) hbw (.string s1)).setCell (p:=⟨g,1,none⟩) hbw (.string s2);have Hs1:=hid (zah hs1.1 Hx1.out.size);have HE3:=hid hE3;have hni:(0:Int)<(n:Int):=by omega
  clear hs0 hs1 hE3 ho3 hx3 hlen he0 he1;go_wp2
  go_ret
  exact ⟨_,rfl,by unfold zfw;rw [Hovl.out];exact Hs1.out,HE3.out⟩
theorem zkj {r:Rat}(h1:r.num.natAbs≤30000)(h2:r.den≤1000):Sn r:=⟨h1,h2⟩
theorem zkk : Sn 0:=by unfold Sn;decide
theorem zkl {z:Int}(h:z.natAbs≤30000):Sn (z:Rat):=by
 unfold Sn;rw [Rat.num_intCast,Rat.den_intCast];exact ⟨h,by omega⟩
theorem zkm {n:Nat}{p:List Int}{x:List Rat}{c:Int}(hp:Pr p x.length)(h:Nic n x)(hc:0≤c)(hc2:c≤500)(h1:-((c * 67108864:Int):Rat)≤sF p x)(h2:sF p x≤((c * 67108864:Int):Rat)):∀ r∈x,Sn r:=by
 rcases h with ⟨_,hb⟩ | ⟨hn,hn9,ho⟩
 ·obtain ⟨a,tl,rfl⟩:∃ a tl,x=a::tl:=by
   rcases hp with ⟨_,hl⟩ | ⟨_,hl⟩ <;> (cases x with | nil=>cases hl | cons a tl=>exact ⟨a,tl,rfl⟩)
  have hA:=zi2 hp hb h1 h2;match tl,hb with
  | [b],⟨A,B,ha,hb2,g1,g2⟩ =>
   obtain ⟨ha1,ha2⟩:=zeF ha
   intro r hr
   simp only [List.mem_cons,List.not_mem_nil,or_false] at hr
   rcases hr with rfl | rfl
   ·exact zkj (by omega) (by omega)
   ·rcases zeG hb2 with ⟨e1,e2⟩ | ⟨e1,e2⟩
    ·exact zkj (by omega) (by omega)
    ·exact zkj (by omega) (by omega)
  | [b,d],⟨A,B,C,ha,hb2,hd,g1,g2,g3,g4⟩ =>
   obtain ⟨ha1,ha2⟩:=zeF ha
   obtain ⟨hd1,hd2⟩:=zeF hd
   intro r hr
   simp only [List.mem_cons,List.not_mem_nil,or_false] at hr
   rcases hr with rfl | rfl | rfl
   ·exact zkj (by omega) (by omega)
   ·rcases zeG hb2 with ⟨e1,e2⟩ | ⟨e1,e2⟩
    ·exact zkj (by omega) (by omega)
    ·exact zkj (by omega) (by omega)
   ·exact zkj (by omega) (by omega)
 ·rcases hp with ⟨rfl,hl⟩ | ⟨rfl,hl⟩
  ·match x,hl,ho with
   | [a,b],_,⟨hb,A,ha⟩ =>
    subst hb
    have hbd:=zi3 (s:=sF [2,3] [a,0]) hn hn9 ha (by simp only [sF,lgs.1];grind) h1 h2
    intro r hr
    simp only [List.mem_cons,List.not_mem_nil,or_false] at hr
    rcases hr with rfl | rfl
    ·exact zkj (by omega) (by omega)
    ·exact zkk
  ·match x,hl,ho with
   | [a,b,d],_,⟨hb,hd,A,ha⟩ =>
    subst hb
    subst hd
    have hbd:=zi3 (s:=sF [2,3,5] [a,0,0]) hn hn9 ha (by simp only [sF,lgs.1];grind) h1 h2
    intro r hr
    simp only [List.mem_cons,List.not_mem_nil,or_false] at hr
    rcases hr with rfl | rfl | rfl
    ·exact zkj (by omega) (by omega)
    ·exact zkk
    ·exact zkk
theorem Lw.sn {p:List Int}{c:Int}{l:List (List Rat)}(h:Lw p c l)(hc:c≤500){x:List Rat}(hx:x∈l):∀ r∈x,Sn r:=by
 obtain ⟨n,hn⟩:=h.nic;exact zkm (by rw [h.len x hx];exact h.pr) (hn x hx) h.c0 hc (h.bd x hx).1 (h.bd x hx).2
theorem Lw.fl {p:List Int}{c:Int}{l:List (List Rat)}(h:Lw p c l){x:List Rat}(hx:x∈l):-c≤flP p x∧flP p x≤c:=by
 obtain ⟨n,hn⟩:=h.nic;exact ziX (by rw [h.len x hx];exact h.pr) (hn x hx) (h.bd x hx).1 (h.bd x hx).2
theorem zkn (va vb:Value)(x y:List Rat)(bx:Nat)(w:World)(h0:w.cell? ⟨bx,0,none⟩=some va)(ha:Rd w va x)(hb:Rd w vb y)(hx:x.length≤1000)(hy:y.length≤1000) :
  Calls Tryz.prog 44 #[vb,.pointer (some ⟨bx,0,none⟩)] w fun e w'=>e=.returned (.bool (decide (x=y)))∧Ext w w':=by
 have h:=zji va vb x y w ha hb hx hy;obtain ⟨aa,ca,rfl,_,_,_⟩:=ha.parts;obtain ⟨ab,cb,rfl,_,_,_⟩:=hb.parts;generalize decide (x=y)=b at *;clear ha hb;have H:=hid h;clear h;go_enter Tryz.func44,Tryz.ntmps44
 go_wp2_with fail
 refine H.out.mono ?_;rintro e w1 ⟨rfl,hx1⟩;have Hx1:=hid hx1;clear hx1;go_wp2
 go_ret
 exact ⟨rfl,Hx1.out⟩
theorem zko : ∀ args w,(callFunc 44 args).run Tryz.prog w=.ok (.enter 44 args) w:=enters_of Tryz.func44 (by kernel_rfl) rfl
theorem zkp : ∀ args w,(callFunc 46 args).run Tryz.prog w=.ok (.enter 46 args) w:=enters_of Tryz.func46 (by kernel_rfl) rfl
theorem zkq {w:World}{v:Value}{x:List Rat}{n:Nat}(h:Rd w v x)(hn:x.length=n):∃ a c,v=.slice a n c∧Rd w (.slice a n c) x:=by
 obtain ⟨a,c,rfl,_,_,_⟩:=h.parts;rw [hn] at *;exact ⟨a,c,rfl,h⟩
def LcR (W:World)(vb:Value)(o:List Rat)(p:List Int)(l:List (List Rat))(k:Nat)(v:Value)(wr:World):Prop:=∃ out:List Qw,wr.ownsRow W.heap.size 32 1 v (out.length+1) (vb::qwc out)∧(∀ r∈out,zfw wr W.heap.size r.u r.x)∧o::out.map Qw.x=ziP p [o] (l.take k)∧out.length≤k∧Ext W wr
theorem LcR.skip {W wr w':World}{vb:Value}{o:List Rat}{p:List Int}{l:List (List Rat)}{k:Nat}{v:Value}{x:List Rat}{out:List Qw}(hq:wr.ownsRow W.heap.size 32 1 v (out.length+1) (vb::qwc out))(he:∀ r∈out,zfw wr W.heap.size r.u r.x)(hm:o::out.map Qw.x=ziP p [o] (l.take k))(hl:out.length≤k)(hE:Ext W wr)(hx:Ext wr w')(hr:l[k]?=some x)(hs:rst p x=zer p.length∨rst p x∈o::out.map Qw.x):LcR W vb o p l (k+1) v w' :=
 ⟨out,hx.own hq,fun r hr=>hx.ownQ (he r hr),by rw [ziR hr,ziO,if_pos (by rw [← hm];exact hs)];exact hm,by omega,hE.trans hx⟩
theorem LcR.more {W wr V:World}{vb:Value}{o:List Rat}{p:List Int}{l:List (List Rat)}{k:Nat}{v v7 u:Value}{x:List Rat}{out:List Qw}{ob:Obj}(hE:Ext W wr)(hq:wr.ownsRow W.heap.size 32 1 v (out.length+1) (vb::qwc out))(he:∀ r∈out,zfw wr W.heap.size r.u r.x)(hm:o::out.map Qw.x=ziP p [o] (l.take k))(hl:out.length≤k)(hr:l[k]?=some x)(hs:¬ (rst p x=zer p.length∨rst p x∈o::out.map Qw.x))(ho:zfw wr W.heap.size u (rst p x))
  (hown:V.ownsRow W.heap.size 32 1 v7 (out.length+1+1) ((vb::qwc out)++[u])) (hgrow:(wr.alloc ob).grownBy V v.ownBlock):LcR W vb o p l (k+1) v7 V:=by
 have hal:=World.ownsRow.alloc hq ob;have hkeep:∀ s:Qw,zfw wr W.heap.size s.u s.x→zfw V W.heap.size s.u s.x:=fun s hs=>World.ownsRow.kept (World.ownsRow.alloc hs ob) hgrow (zfm (World.ownsRow.alloc hs ob) hal (by decide));refine ⟨out++[⟨rst p x,u,zf0 ho.rd⟩],?_,fun s hs=>?_,?_,by rw [List.length_append];simp;omega,(hE.alloc ob).grown hgrow fun k hk=>(World.ownsRow.lt hal k hk).1⟩
 ·rw [List.length_append,List.length_singleton,zjl];exact hown
 ·rcases List.mem_append.1 hs with g | g
  ·exact hkeep s (he s g)
  ·rw [List.mem_singleton] at g;subst g;exact hkeep ⟨rst p x,u,zf0 ho.rd⟩ ho
 ·rw [ziR hr,ziO,if_neg (by rw [← hm];exact hs),List.map_append,← List.cons_append,hm];rfl
structure I3 where
 a:Int
 b:Int
 c:Int
def I3.at (x:I3):Nat→Int
 | 0=>x.a
 | 1=>x.b
 | _=>x.c
def I3.ok (x:I3):Prop:=∀ i,-128≤x.at i∧x.at i≤127
def I3.v (x:I3):Value:=.agg #[.int .i8 x.a,.int .i8 x.b,.int .i8 x.c]
def dnm (x:I3)(i:Nat):Nat:=if i=1∧x.b<0 then 2 else 1
def zkr (x:I3)(i:Nat):Rat:=mkRat ((x.at i).tmod 9) (dnm x i)
def szW (n:Nat)(x:I3):List Rat:=(List.range n).map (zkr x)
theorem zks (n:Nat)(x:I3):(szW n x).length=n:=by unfold szW;simp
theorem zkt {n:Nat}{x:I3}{k:Nat}(h:k<n):(szW n x).take (k+1)=(szW n x).take k++[zkr x k]:=by
 have h2:(szW n x)[k]?=some (zkr x k):=by unfold szW;rw [List.getElem?_map,List.getElem?_range h];rfl
 obtain ⟨hk,e⟩:=List.getElem?_eq_some_iff.1 h2;rw [List.take_succ_eq_append_getElem hk,e]
theorem zku (z:Int):(z.tmod 9).natAbs≤8:=by
 have h1:=Int.tmod_lt_of_pos z (show (0:Int)<9 by decide);have h2:=Int.lt_tmod_of_pos z (show (0:Int)<9 by decide);omega
theorem zkv {z:Int}(h:-128≤z∧z≤127):wrap64 z=z:=by
 unfold wrap64;omega
theorem zkw {x:I3}{k:Nat}(h:-128≤x.at k∧x.at k≤127)(hk:k<3):wrap64 (1+wrap64 ((k:Int) % 2 * (x.at k % 256 / 128)))=(dnm x k:Int):=by
 unfold dnm;obtain rfl | rfl | rfl:k=0∨k=1∨k=2:=by omega
 ·simp [wrap64]
 ·have e:x.at 1=x.b:=rfl;rw [e] at h ⊢;by_cases hb:x.b<0
  ·have:x.b % 256 / 128=1:=(by omega);rw [this,if_pos ⟨rfl,hb⟩];simp [wrap64]
  ·have:x.b % 256 / 128=0:=(by omega);rw [this,if_neg (fun g=>hb g.2)];simp [wrap64]
 ·simp [wrap64]
theorem zkx (vp:Value)(p:List Int)(x:I3)(w:World)(he:Env w)(hp:Sl w vp (zak p))(hp3:p.length≤3)(hx:x.ok) :
  Calls Tryz.prog 8 #[vp,x.v] w fun e w'=>∃ u,e=.returned u∧zfw w' w.heap.size u (szW p.length x)∧Ext w w':=by
 obtain ⟨i0,hi,hz0,hz1,hz2⟩:=info_parts zfx;have hof:=fun (k:Nat) W (hE:Ext w W)=>zjU ((x.at k).tmod 9) (dnm x k) W (he.ext hE) (by have:=zku (x.at k);omega) (by unfold dnm;split <;> decide) (by unfold dnm;split <;> decide)
 obtain ⟨a,c,rfl,_,_,hc⟩:=hp.parts;have hcut:∀ k,k<p.length→(szW p.length x).take (k+1)=(szW p.length x).take k++[zkr x k]:=fun k hk=>zkt hk;have hrl:=zks p.length x;obtain ⟨W1,hW1⟩:∃ W1,W1=w.alloc (.cells #[.int .i8 x.a,.int .i8 x.b,.int .i8 x.c] 23):=⟨_,rfl⟩;have hE0:Ext w W1:=by rw [hW1];exact (Ext.refl w).alloc _
 have hb1:W1.heap[w.heap.size]?=some (.cells #[.int .i8 x.a,.int .i8 x.b,.int .i8 x.c] 23 (0,0)):=by rw [hW1];exact World.alloc_heap_new w _
 have hcell:∀ W,Ext W1 W→∀ k,k<3→W.cell? ⟨w.heap.size,k,none⟩=some (.int .i8 (x.at k)):=fun W hE k hk=>by
  have hb:=hE.heap hb1;unfold World.cell?;dsimp only;rw [hb];obtain rfl | rfl | rfl:k=0∨k=1∨k=2:=by omega
  ·rfl
  ·rfl
  ·rfl
 unfold I3.v;rw [zam];generalize hn:p.length=n at *;have Hof:=hid hof;have Hcell:=hid hcell;have Hcut:=hid hcut;have Hrl:=hid hrl;have HE0:=hid hE0;have Hx:=hid hx;clear hp hc he hof hcut hcell hrl hE0 hn hb1 hx;go_enter Tryz.func8,Tryz.ntmps8
 go_wp2_with fail
 rw [← hW1];clear hW1;go_loopw [5,6,7,10] (fun v5 v6 v7 v10 wr=>∃ k:Nat,v10=.int .i64 k∧k≤n∧wr.ownsRow W1.heap.size 60 2 v5 k (rcs ((szW n x).take k))∧Hid (Ext W1 wr)) (fun _ _ _ v10 _=>n - (zag v10).toNat)
 case atStart=>exact ⟨0,rfl,Nat.zero_le _,World.ownsRow_nil W1 _ _ 2,hid (Ext.refl _)⟩
 case round =>
  obtain ⟨k,rfl,hk,ho,HE⟩:=hrel;obtain ⟨a5,c5,rfl⟩:=zfl ho;by_cases hkn:k<n
  ·have htk:=Hcut.out k hkn;have hcl:=fun W (hE:Ext w W)=>Hof.out k W hE;have hsp:mkRat ((x.at k).tmod 9) (dnm x k)=zkr x k:=rfl;rw [hsp] at hcl;unfold Rv at hcl;generalize hs1:I (zkr x k).num=s1 at *;generalize hs2:I (((zkr x k).den:Nat):Int)=s2 at *;have hrn:rcs ((szW n x).take (k+1))=rcs ((szW n x).take k)++[.string s1,.string s2]:=(by rw [htk,zft,hs1,hs2]);have Hrn:=hid hrn;clear hrn hs1 hs2 htk hsp;have hk0:(0:Int)≤(k:Int):=(by omega);have hk1:(k:Int)<(n:Int):=(by omega);have hk3:(k:Int)<3:=(by omega);have c0:=Hcell.out wr HE.out k (by omega);have hm3:k+1≤maxLen:=(by unfold maxLen;omega);have hm4:(k+1) * 32≤140737488355328:=(by omega);have hw:wrap64 (x.at k)=x.at k:=zkv (Hx.out k);have hd:wrap64 (1+wrap64 ((k:Int) % 2 * (x.at k % 256 / 128)))=(dnm x k:Int):=zkw (Hx.out k) (by omega);have Hcl:=hid hcl;have Ho:=hid ho;have Hw:=hid hw;have Hd:=hid hd;clear hcl ho hw hd;go_wp2_with fail
   rw [Hw.out,Hd.out];refine (Hcl.out wr (HE0.out.trans HE.out)).mono ?_;rintro e VA ⟨rfl,hxa⟩;have HEA:=hid (HE.out.trans hxa);have hoA:=hxa.own Ho.out;have hbase:=HEA.out.size;clear hxa c0;go_wp2_with (at_builtin;refine wpList_append_own _ rfl _ _ 32 rfl W1.heap.size 60 i0 (.agg #[.string ByteArray.empty,.string ByteArray.empty]) 2 32 Tryz.underlying32 hi hz0 hz1 hz2 rfl (by decide) _ _ _ rfl (hoA.alloc _) ⟨VA.heap.size,0,none⟩ 1 1 [.string s1,.string s2] rfl rfl (zjW VA _ _ _) (by simp [Value.oneCell']) hm3 hm4 (by rw [World.size_alloc];omega) ?_;intro v7 V7 hown7 hgrow7 _)
   go_roundw
   case rel=>exact ⟨k+1,by go_num,by omega,by rw [Hrn.out];exact hown7,hid ((HEA.out.alloc _).grown hgrow7 fun j hj=>(World.ownsRow.lt (hoA.alloc (.cells #[.string s1,.string s2] 60)) j hj).1)⟩
   case measure=>simp [zag];omega
  ·obtain rfl:n=k:=by omega
   rw [List.take_of_length_le (by rw [Hrl.out];exact Nat.le_refl _)] at ho;have Ho:=hid ho;clear ho;go_wp2
   go_ret
   exact ⟨_,rfl,by unfold zfw;rw [Hrl.out];exact zah Ho.out HE0.out.size,HE0.out.trans HE.out⟩
end Go.Proofs.YtbkfhacmekbniaaGreatDoor

namespace Go.Proofs.YtbkfhacmekbniaaGreatDoor
open Go.RowKit Go.Lib
def sz3 (p:List Int)(A B C:Int):List Rat:=if p.length=2 then [(A:Rat),(B:Rat) / 2] else [(A:Rat),(B:Rat) / 2,(C:Rat)]
theorem zky (B:Int):(B:Rat) / 2 * 2=B:=by grind
theorem zkz (A B C:Int):sz3 [2,3] A B C=[(A:Rat),(B:Rat) / 2]:=rfl
theorem zk0 (A B C:Int):sz3 [2,3,5] A B C=[(A:Rat),(B:Rat) / 2,(C:Rat)]:=rfl
def Pw (p:List Int):Prop:=p=[2,3]∨p=[2,3,5]
theorem Pw.pr {p:List Int}(h:Pw p):Pr p p.length:=by
 rcases h with rfl | rfl
 ·exact .inl ⟨rfl,rfl⟩
 ·exact .inr ⟨rfl,rfl⟩
theorem zk1 {p:List Int}(h:Pw p)(A B C:Int):(sz3 p A B C).length=p.length:=by rcases h with rfl | rfl <;> rfl
theorem zk2 {p:List Int}(h:Pw p):zer p.length=sz3 p 0 0 0:=by rcases h with rfl | rfl <;> decide +kernel
theorem zk3 {p:List Int}(h:Pw p)(A B C A' B' C':Int):ze2 (sz3 p A B C) (sz3 p A' B' C')=sz3 p (A - A') (B - B') (C - C'):=by
 rcases h with rfl | rfl
 ·rw [zkz,zkz,zkz,Rat.intCast_sub,Rat.intCast_sub];have e:(B:Rat) / 2 - (B':Rat) / 2=((B:Rat) - (B':Rat)) / 2:=by grind
  simp only [ze2,List.zipWith_cons_cons,List.zipWith_nil_left,e]
 ·rw [zk0,zk0,zk0,Rat.intCast_sub,Rat.intCast_sub,Rat.intCast_sub];have e:(B:Rat) / 2 - (B':Rat) / 2=((B:Rat) - (B':Rat)) / 2:=by grind
  simp only [ze2,List.zipWith_cons_cons,List.zipWith_nil_left,e]
theorem zk4 {p:List Int}(h:Pw p)(A B C k:Int):ze3 (sz3 p A B C) (k:Rat)=sz3 p (A * k) (B * k) (C * k):=by
 have e:(B:Rat) / 2 * (k:Rat)=(B:Rat) * (k:Rat) / 2:=by grind
 rcases h with rfl | rfl
 ·rw [zkz,zkz,Rat.intCast_mul,Rat.intCast_mul];simp only [ze3,List.map_cons,List.map_nil,e]
 ·rw [zk0,zk0,Rat.intCast_mul,Rat.intCast_mul,Rat.intCast_mul];simp only [ze3,List.map_cons,List.map_nil,e]
theorem zk5 {p:List Int}(h:Pw p){A B C:Int}(h1:-256≤B)(h2:B≤256)(h3:-128≤C)(h4:C≤128):Bx 256 (sz3 p A B C):=by
 rcases h with rfl | rfl
 ·exact ⟨A,B,rfl,zky B,h1,h2⟩
 ·exact ⟨A,B,C,rfl,zky B,rfl,h1,h2,by omega,by omega⟩
theorem zk6 {p:List Int}(h:Pw p){A B C:Int}(hA:-64≤A∧A≤64)(hB:-128≤B∧B≤128)(hC:-64≤C∧C≤64):∃ m:Int,sF p (sz3 p A B C)=(m:Rat)∧-26843545600≤m∧m≤26843545600:=by
 have e:(B:Rat) / 2 * (106365032:Int)=((B * 53182516:Int):Rat):=by
  have e0:((106365032:Int):Rat)=((53182516:Int):Rat) * 2:=by
   rw [show (2:Rat)=((2:Int):Rat) from rfl,← Rat.intCast_mul];rfl
  rw [Rat.intCast_mul,e0];grind
 rcases h with rfl | rfl
 ·refine ⟨A * 67108864+B * 53182516,?_,by omega,by omega⟩;rw [zkz];simp only [sF,lgs.1,lgs.2.1,e];rw [Rat.intCast_add,Rat.intCast_mul A];grind
 ·refine ⟨A * 67108864+B * 53182516+C * 155821956,?_,by omega,by omega⟩;rw [zk0];simp only [sF,lgs.1,lgs.2.1,lgs.2.2,e];rw [Rat.intCast_add,Rat.intCast_add,Rat.intCast_mul A,Rat.intCast_mul C];grind
theorem zk7 {p:List Int}(hp:Pw p){l:List (List Rat)}(h:∀ x∈l,∃ A B C:Int,(-64≤A∧A≤64)∧(-128≤B∧B≤128)∧(-64≤C∧C≤64)∧x=sz3 p A B C):Lw p 400 l:=by
 have h2:∀ x∈zer p.length::l,∃ A B C:Int,(-64≤A∧A≤64)∧(-128≤B∧B≤128)∧(-64≤C∧C≤64)∧x=sz3 p A B C:=fun x hx=>by
  rcases List.mem_cons.1 hx with e | e
  ·exact ⟨0,0,0,by omega,by omega,by omega,by rw [e,zk2 hp]⟩
  ·exact h x e
 refine ⟨hp.pr,fun x hx=>?_,by omega,by omega,fun x hx=>?_,0,fun x hx y hy=>?_⟩
 ·obtain ⟨A,B,C,_,_,_,rfl⟩:=h x hx;exact zk1 hp ..
 ·obtain ⟨A,B,C,hA,hB,hC,rfl⟩:=h x hx;obtain ⟨m,e,m0,m1⟩:=zk6 hp hA hB hC;rw [e,← Rat.intCast_neg];exact ⟨Rat.intCast_le_intCast.2 (by omega),Rat.intCast_le_intCast.2 (by omega)⟩
 ·obtain ⟨A,B,C,hA,hB,hC,rfl⟩:=h2 x hx;obtain ⟨A',B',C',hA',hB',hC',rfl⟩:=h2 y hy;rw [zk3 hp];exact .inl ⟨rfl,zk5 hp (by omega) (by omega) (by omega) (by omega)⟩
def oc3 (p:List Int)(n:Nat)(i:Int):List Rat:=if p.length=2 then [(i:Rat) / (n:Rat),0] else [(i:Rat) / (n:Rat),0,0]
theorem zk8 (n:Nat)(i:Int):oc3 [2,3] n i=[(i:Rat) / (n:Rat),0]:=rfl
theorem zk9 (n:Nat)(i:Int):oc3 [2,3,5] n i=[(i:Rat) / (n:Rat),0,0]:=rfl
theorem zkA {p:List Int}(h:Pw p)(n:Nat)(i:Int):(oc3 p n i).length=p.length:=by rcases h with rfl | rfl <;> rfl
theorem zkB {n:Nat}(hn:0<n):(n:Rat) ≠ 0:=fun h=>by
 have:=Rat.natCast_inj.1 (show ((n:Nat):Rat)=((0:Nat):Rat) from h);omega
theorem zkC {p:List Int}(h:Pw p)(n:Nat):zer p.length=oc3 p n 0:=by
 have e:((0:Int):Rat) / (n:Rat)=0:=by rw [Rat.div_def,show ((0:Int):Rat)=0 from rfl,Rat.zero_mul]
 rcases h with rfl | rfl
 ·rw [zk8,e];rfl
 ·rw [zk9,e];rfl
theorem zkD {p:List Int}(h:Pw p)(n:Nat)(i j:Int):ze2 (oc3 p n i) (oc3 p n j)=oc3 p n (i - j):=by
 have e:(i:Rat) / (n:Rat) - (j:Rat) / (n:Rat)=((i:Rat) - (j:Rat)) / (n:Rat):=by grind
 have z:(0:Rat) - 0=0:=by decide +kernel
 rcases h with rfl | rfl
 ·rw [zk8,zk8,zk8,Rat.intCast_sub];simp only [ze2,List.zipWith_cons_cons,List.zipWith_nil_left,e,z]
 ·rw [zk9,zk9,zk9,Rat.intCast_sub];simp only [ze2,List.zipWith_cons_cons,List.zipWith_nil_left,e,z]
theorem zkE {p:List Int}(h:Pw p){n:Nat}(hn:0<n)(i:Int):Oc n (oc3 p n i):=by
 have e:(i:Rat) / (n:Rat) * (n:Rat)=(i:Rat):=Rat.div_mul_cancel (zkB hn);rcases h with rfl | rfl
 ·exact ⟨rfl,i,e⟩
 ·exact ⟨rfl,rfl,i,e⟩
theorem zkF {p:List Int}(h:Pw p)(n:Nat)(i:Int):sF p (oc3 p n i)=(i:Rat) / (n:Rat) * ((67108864:Int):Rat):=by
 rcases h with rfl | rfl
 ·rw [zk8];simp only [sF,lgs.1,lgs.2.1];grind
 ·rw [zk9];simp only [sF,lgs.1,lgs.2.1,lgs.2.2];grind
theorem zkG {p:List Int}(h:Pw p)(n:Nat)(i:Int):ze3 (ze3 (ov (p.length - 1)) (mkRat 1 n)) (i:Rat)=oc3 p n i:=by
 have e:(1:Rat) * mkRat 1 n * (i:Rat)=(i:Rat) / (n:Rat):=by
  rw [Rat.mkRat_eq_div];show (1:Rat) * (((1:Int):Rat) / (n:Rat)) * (i:Rat)=_;rw [show ((1:Int):Rat)=1 from rfl];grind
 have z:(0:Rat) * mkRat 1 n * (i:Rat)=0:=by rw [Rat.zero_mul,Rat.zero_mul]
 rcases h with rfl | rfl
 ·rw [zk8];show [(1:Rat) * mkRat 1 n * (i:Rat),(0:Rat) * mkRat 1 n * (i:Rat)]=_;rw [e,z]
 ·rw [zk9];show [(1:Rat) * mkRat 1 n * (i:Rat),(0:Rat) * mkRat 1 n * (i:Rat),(0:Rat) * mkRat 1 n * (i:Rat)]=_;rw [e,z]
theorem zkH {p:List Int}(hp:Pw p){n:Nat}(hn:0<n)(hn9:n≤9):Lw p 400 (zkb (ze3 (ov (p.length - 1)) (mkRat 1 n)) 1 n):=by
 have h:∀ x∈zkb (ze3 (ov (p.length - 1)) (mkRat 1 n)) 1 n,∃ i:Int,0≤i∧i≤(n:Int)∧x=oc3 p n i:=fun x hx=>by
  unfold zkb at hx;rw [List.mem_map] at hx;obtain ⟨i,hi,rfl⟩:=hx;rw [List.mem_range] at hi;exact ⟨1+(i:Int),by omega,by omega,zkG hp n _⟩
 have h2:∀ x∈zer p.length::zkb (ze3 (ov (p.length - 1)) (mkRat 1 n)) 1 n,∃ i:Int,0≤i∧i≤(n:Int)∧x=oc3 p n i:=fun x hx=>by
  rcases List.mem_cons.1 hx with e | e
  ·exact ⟨0,by omega,by omega,by rw [e,zkC hp n]⟩
  ·exact h x e
 refine ⟨hp.pr,fun x hx=>?_,by omega,by omega,fun x hx=>?_,n,fun x hx y hy=>?_⟩
 ·obtain ⟨i,_,_,rfl⟩:=h x hx;exact zkA hp ..
 ·obtain ⟨i,i0,i1,rfl⟩:=h x hx;rw [zkF hp];have hnp:(0:Rat)<(n:Rat):=Rat.intCast_lt_intCast.2 (show (0:Int)<(n:Int) by omega);have hq:(n:Rat) * ((i:Rat) / (n:Rat))=(i:Rat):=by rw [Rat.mul_comm];exact Rat.div_mul_cancel (zkB hn)
  have q0:(0:Rat)≤(i:Rat) / (n:Rat):=Rat.le_of_mul_le_mul_left (by rw [hq,Rat.mul_zero];exact Rat.intCast_le_intCast.2 i0) hnp;have q1:(i:Rat) / (n:Rat)≤1:=Rat.le_of_mul_le_mul_left (by rw [hq,Rat.mul_one];exact Rat.intCast_le_intCast.2 i1) hnp;generalize (i:Rat) / (n:Rat)=q at *;have e1:((400 * 67108864:Int):Rat)=400 * ((67108864:Int):Rat):=by
   rw [show (400:Rat)=((400:Int):Rat) from rfl,← Rat.intCast_mul]
  have e2:(0:Rat)<((67108864:Int):Rat):=Rat.intCast_lt_intCast.2 (show (0:Int)<67108864 by decide);rw [e1];generalize ((67108864:Int):Rat)=t at *;have m0:=Rat.mul_nonneg q0 (Rat.le_of_lt e2);have m1:=Rat.mul_le_mul_of_nonneg_right q1 (Rat.le_of_lt e2);constructor <;> grind
 ·obtain ⟨i,_,_,rfl⟩:=h2 x hx;obtain ⟨j,_,_,rfl⟩:=h2 y hy;rw [zkD hp];exact .inr ⟨hn,by omega,zkE hp hn _⟩
theorem zkI {p:List Int}(hp:Pw p)(x:I3):∃ A B C:Int,(-8≤A∧A≤8)∧(-16≤B∧B≤16)∧(-8≤C∧C≤8)∧szW p.length x=sz3 p A B C:=by
 have ha:=zku x.a;have hb:=zku x.b;have hc:=zku x.c;have e0:zkr x 0=((x.a.tmod 9:Int):Rat):=Rat.mkRat_one _;have e2:zkr x 2=((x.c.tmod 9:Int):Rat):=Rat.mkRat_one _;have e1:zkr x 1=(((if x.b<0 then x.b.tmod 9 else x.b.tmod 9 * 2):Int):Rat) / 2:=by
  unfold zkr dnm;rw [show x.at 1=x.b from rfl];by_cases h:x.b<0
  ·rw [if_pos ⟨rfl,h⟩,if_pos h,Rat.mkRat_eq_div];rfl
  ·rw [if_neg (fun g=>h g.2),if_neg h,Rat.mkRat_one,Rat.intCast_mul,show ((2:Int):Rat)=2 from rfl];grind
 refine ⟨x.a.tmod 9,if x.b<0 then x.b.tmod 9 else x.b.tmod 9 * 2,x.c.tmod 9,by omega,by split <;> omega,by omega,?_⟩
 rcases hp with rfl | rfl
 ·rw [zkz];show [zkr x 0,zkr x 1]=_;rw [e0,e1]
 ·rw [zk0];show [zkr x 0,zkr x 1,zkr x 2]=_;rw [e0,e1,e2]
theorem zkJ {p:List Int}(hp:Pw p)(x:I3){n:Nat}(hn9:n≤9):Lw p 400 (zkb (szW p.length x) 0 n):=by
 obtain ⟨A,B,C,hA,hB,hC,e⟩:=zkI hp x;rw [e];refine zk7 hp fun y hy=>?_;unfold zkb at hy;rw [List.mem_map] at hy;obtain ⟨i,hi,rfl⟩:=hy;rw [List.mem_range] at hi;have hk:0≤(0+(i:Int))∧(0+(i:Int))≤8:=by omega
 generalize 0+(i:Int)=k at *;have mb:∀ z b:Int,-b≤z→z≤b→0≤b→-(b * 8)≤z * k∧z * k≤b * 8:=fun z b h1 h2 h3=>by
  have a1:z * k≤b * k:=Int.mul_le_mul_of_nonneg_right h2 hk.1;have a2:b * k≤b * 8:=Int.mul_le_mul_of_nonneg_left hk.2 h3;have a3:-b * k≤z * k:=Int.mul_le_mul_of_nonneg_right h1 hk.1;rw [Int.neg_mul] at a3;omega
 have m1:=mb A 8 hA.1 hA.2 (by omega);have m2:=mb B 16 hB.1 hB.2 (by omega);have m3:=mb C 8 hC.1 hC.2 (by omega);exact ⟨A * k,B * k,C * k,by omega,by omega,by omega,zk4 hp ..⟩
theorem zkK {p:List Int}(hp:Pw p)(xs:Nat→I3)(n:Nat):Lw p 400 ((List.range n).map fun i=>szW p.length (xs i)):=by
 refine zk7 hp fun y hy=>?_;rw [List.mem_map] at hy;obtain ⟨i,_,rfl⟩:=hy;obtain ⟨A,B,C,hA,hB,hC,e⟩:=zkI hp (xs i);exact ⟨A,B,C,by omega,by omega,by omega,e⟩
structure Wl where
 three:Bool
 kind:Nat
 num:Nat
 xs:Nat→I3
namespace Wl
def p (a:Wl):List Int:=if a.three then [2,3,5] else [2,3]
def n (a:Wl):Nat:=1+a.num % 9
def sizes (a:Wl):List (List Rat):=if a.kind % 3=0 then zkb (ze3 (ov (a.p.length - 1)) (mkRat 1 a.n)) 1 a.n else if a.kind % 3=1 then zkb (szW a.p.length (a.xs 0)) 0 a.n else (List.range (min a.n 8)).map fun i=>szW a.p.length (a.xs i)
structure Ok (a:Wl):Prop where
 kind:a.kind<256
 num:a.num<256
 xs:∀ i,(a.xs i).ok
theorem pw (a:Wl):Pw a.p:=by unfold p;split <;> first | exact .inl rfl | exact .inr rfl
theorem n9 (a:Wl):0<a.n∧a.n≤9:=by unfold n;omega
theorem lw (a:Wl):Lw a.p 400 a.sizes:=by
 unfold sizes;split
 ·exact zkH a.pw a.n9.1 a.n9.2
 ·split
  ·exact zkJ a.pw _ a.n9.2
  ·exact zkK a.pw _ _
theorem few (a:Wl):a.sizes.length≤9:=by
 have:=a.n9;unfold sizes;split
 ·rw [zkd];omega
 ·split
  ·rw [zkd];omega
  ·rw [List.length_map,List.length_range];omega
end Wl
end Go.Proofs.YtbkfhacmekbniaaGreatDoor

namespace Go.Proofs.YtbkfhacmekbniaaGreatDoor
open Go.RowKit Go.Lib Go.Shelf
attribute [local go_sem] Oper.semAt_some
def Wl.cs (a:Wl):Array Value:=#[.bool a.three,.int .u8 a.kind,.int .u8 a.num,.int .i8 (a.xs 0).a,.int .i8 (a.xs 0).b,.int .i8 (a.xs 0).c,.int .i8 (a.xs 1).a,.int .i8 (a.xs 1).b,.int .i8 (a.xs 1).c,.int .i8 (a.xs 2).a,.int .i8 (a.xs 2).b,.int .i8 (a.xs 2).c,.int .i8 (a.xs 3).a,.int .i8 (a.xs 3).b,.int .i8 (a.xs 3).c,.int .i8 (a.xs 4).a,.int .i8 (a.xs 4).b,.int .i8 (a.xs 4).c,.int .i8 (a.xs 5).a,.int .i8 (a.xs 5).b,.int .i8 (a.xs 5).c,.int .i8 (a.xs 6).a,.int .i8 (a.xs 6).b,.int .i8 (a.xs 6).c,.int .i8 (a.xs 7).a,.int .i8 (a.xs 7).b,.int .i8 (a.xs 7).c]
def Wl.v (a:Wl):Value:=.agg a.cs
theorem zkL {w:World}{B:Nat}(T:TypeId)(xs:Array Value)(hB:B≤w.heap.size)(hm:xs.size≤maxLen):(w.alloc (.cells xs T)).ownsRow B T 1 (.slice (some ⟨w.heap.size,0,none⟩) xs.size xs.size) xs.size xs.toList :=
 ⟨by simp,.inr ⟨w.heap.size,xs.size,xs,rfl,hB,World.alloc_heap_new w _,Nat.le_refl _,hm,by simp,by rw [Nat.mul_one,← Array.length_toList,List.take_length]⟩⟩
theorem zkM (a:Wl)(w:World) :
  Calls Tryz.prog 7 #[a.v] w fun e w'=>∃ u,e=.returned u∧w'.ownsRow w.heap.size 3 1 u a.p.length (zak a.p)∧Ext w w':=by
 obtain ⟨W1,hW1⟩:∃ W1,W1=w.alloc (.cells a.cs 26):=⟨_,rfl⟩;have hE:Ext w W1:=by rw [hW1];exact (Ext.refl w).alloc _
 have hc:W1.cell? ⟨w.heap.size,0,none⟩=some (.bool a.three):=by
  unfold World.cell?;rw [hW1];dsimp only;rw [World.alloc_heap_new w _];rfl
 have HE:=hid hE;unfold Wl.v;unfold Wl.p;clear hE
 cases h3:a.three
 ·rw [h3] at hc;unfold Wl.cs at hW1 ⊢;rw [h3] at hW1 ⊢;clear h3;go_enter Tryz.func7,Tryz.ntmps7
  go_wp2_with fail
  go_ret
  rw [← hW1];have hon:=zkL (w:=W1) (B:=w.heap.size) 3 #[.int .i64 2,.int .i64 3] HE.out.size (by unfold maxLen;simp);have hsz:W1.heap.size=w.heap.size+1:=by rw [hW1,World.size_alloc]
  rw [hsz] at hon;exact ⟨_,rfl,hon,HE.out.alloc _⟩
 ·rw [h3] at hc;unfold Wl.cs at hW1 ⊢;rw [h3] at hW1 ⊢;clear h3;go_enter Tryz.func7,Tryz.ntmps7
  go_wp2_with fail
  go_ret
  rw [← hW1];have hon:=zkL (w:=W1) (B:=w.heap.size) 3 #[.int .i64 2,.int .i64 3,.int .i64 5] HE.out.size (by unfold maxLen;simp);have hsz:W1.heap.size=w.heap.size+1:=by rw [hW1,World.size_alloc]
  rw [hsz] at hon;exact ⟨_,rfl,hon,HE.out.alloc _⟩
theorem zkN {z:Int}(h0:-1000000≤z)(h1:z≤1000000):IntKind.i64.wrap z=z :=
 IntWalk.i64_in _ (by omega)
theorem zkO {n:Nat}(h0:0<n)(h9:n≤9):Sn (mkRat 1 n):=by
 unfold Sn;obtain rfl | rfl | rfl | rfl | rfl | rfl | rfl | rfl | rfl:n=1∨n=2∨n=3∨n=4∨n=5∨n=6∨n=7∨n=8∨n=9:=by omega
 all_goals decide +kernel
theorem zkP (k:Nat):∀ q∈ov k,Sn q:=by
 intro q hq;unfold ov at hq;rcases List.mem_cons.1 hq with e | e
 ·rw [e];unfold Sn;decide +kernel
 ·rw [List.eq_of_mem_replicate e];unfold Sn;decide +kernel
theorem zkQ (x:I3)(i:Nat):Sn (zkr x i):=by
 have h:=zku (x.at i);unfold zkr;generalize (x.at i).tmod 9=z at *;have key:∀ j:Fin 17,Sn (mkRat ((j.val:Int) - 8) 1)∧Sn (mkRat ((j.val:Int) - 8) 2):=by unfold Sn;decide +kernel
 have h2:=key ⟨(z+8).toNat,by omega⟩;dsimp only at h2;rw [show (((z+8).toNat:Nat):Int) - 8=z by omega] at h2;unfold dnm;split
 ·exact h2.2
 ·exact h2.1
theorem zkR (n:Nat)(x:I3):∀ q∈szW n x,Sn q:=by
 intro q hq;unfold szW at hq;obtain ⟨i,_,rfl⟩:=List.mem_map.1 hq;exact zkQ x i
theorem zkS (k n:Nat)(h0:0<n)(h9:n≤9):∀ q∈ze3 (ov k) (mkRat 1 n),Sn q:=by
 intro q hq;unfold ze3 ov at hq;rw [List.map_cons,List.map_replicate] at hq;rcases List.mem_cons.1 hq with e | e
 ·rw [e,Rat.one_mul];exact zkO h0 h9
 ·rw [List.eq_of_mem_replicate e,Rat.zero_mul];unfold Sn;decide +kernel
theorem zkT {W:World}{b B:Nat}{u v x y vp vn:Value}{p:List Int}{out:List Qw}(hb:zjy 36 W b u v)(hp:W.ownsRow B 3 1 vp p.length (zak p))(hn:W.ownsRow B 32 1 vn out.length (qwc out))(hr:∀ r∈out,zfw W B r.u r.x):ScV ((W.setCell ⟨b,0,none⟩ x).setCell ⟨b,1,none⟩ y) (.agg #[vp,vn]) p out:=by
 refine ⟨vp,vn,rfl,?_,?_,fun r h=>?_⟩
 ·have:=zga (zjy.put0 hb x) (zga hb hp (by decide) 0 x) (by decide) 1 y;rw [← zam] at this;exact zai this
 ·have:=zga (zjy.put0 hb x) (zga hb hn (by decide) 0 x) (by decide) 1 y;rw [← zfz] at this;exact zai this
 ·exact zfw.rd (zga (zjy.put0 hb x) (zga hb (hr r h) (by decide) 0 x) (by decide) 1 y)
theorem zkU {W:World}{b B B':Nat}{u v x y vp vn vb:Value}{p:List Int}{o:List Rat}{out:List Qw}(hb:zjy 36 W b u v)(hp:W.ownsRow B 3 1 vp p.length (zak p))(hn:W.ownsRow B 32 1 vn out.length (qwc out))(hB:B≤B')(ho:zfw W B vb o)(hr:∀ r∈out,(r.u=vb∧r.x=o)∨zfw W B' r.u r.x):ScV ((W.setCell ⟨b,0,none⟩ x).setCell ⟨b,1,none⟩ y) (.agg #[vp,vn]) p out :=
 zkT hb hp hn fun r h=>by
  rcases hr r h with ⟨e1,e2⟩ | e
  ·rw [e1,e2];exact ho
  ·exact e.mono hB
theorem zkV {p:List Int}{l l' N:List (List Rat)}(h:l=l')(hc:ziY p l N):ziY p l' N:=by rw [← h];exact hc
end Go.Proofs.YtbkfhacmekbniaaGreatDoor

namespace Go.Proofs.YtbkfhacmekbniaaGreatDoor
open Go.RowKit Go.Lib Go.Shelf
theorem zkW (a:Wl)(w W:World)(h:Ext (w.alloc (.cells a.cs 26)) W):W.rangeAt w.heap.size 0 a.cs.toList:=fun j v hj=>by
 unfold World.cell?;dsimp only;rw [h.heap (World.alloc_heap_new w _),Nat.zero_add];show a.cs[j]?=some v;rw [← Array.getElem?_toList];exact hj
theorem zkX (a:Wl):(Tryz.prog.info? 26).map (·.size)=some a.cs.toList.length:=by
 rw [Array.length_toList];kernel_rfl
theorem zkY (a:Wl){N:List (List Rat)}(h:ziY a.p a.sizes N):Wd a.p N:=zjd a.lw h (by have:=a.few;omega)
end Go.Proofs.YtbkfhacmekbniaaGreatDoor

namespace Go.Proofs.YtbkfhacmekbniaaGreatDoor
section
variable {p : List Int} {N : List (List Rat)} (h : Wd p N)
include h
omit h in
theorem zkZ {i:Nat}(hi:i<N.length):N[i]?=some (zat p N (i+1)):=by
 unfold zat;rw [List.getElem?_cons_succ,List.getElem?_eq_getElem hi,Option.getD_some]
theorem Wd.zlow {i:Nat}(hi:i<N.length):rst p (zat p N i)=zat p N i:=by
 obtain ⟨n,hn⟩:=h.dif;have hl:=h.zlen (Nat.le_of_lt hi);have hni:=hn _ (h.zmem (Nat.le_of_lt hi)) _ (List.mem_cons_self ..);rw [← hl,zi7] at hni;obtain ⟨a,tl,e,hl2,hb⟩:=ziV (by rw [hl];exact h.pr) hni;have hbd:=h.zbd hi;unfold rst;rw [e] at hl hbd ⊢;have hf:flP p (a::tl)=0:=by
  rw [zhU (by rw [hl];exact h.pr) hb,Int.eq_iff_le_and_ge];constructor
  ·have g1:=Rat.floor_le (sF p (a::tl) / 67108864);have:((sF p (a::tl) / 67108864).floor:Rat)<((1:Int):Rat):=(by rw [show ((1:Int):Rat)=1 from rfl];grind);have:=Rat.intCast_lt_intCast.1 this;omega
  ·show (0:Int)≤_;rw [Rat.le_floor_iff,show ((0:Int):Rat)=0 from rfl];grind
 rw [hf];exact ziC _
theorem Wd.zov : rst p (ov (p.length - 1))=zer p.length:=by
 obtain ⟨n,hn⟩:=h.dif;have hl:=h.zlen (Nat.le_refl _);have hni:=hn _ (h.zmem (Nat.le_refl _)) _ (List.mem_cons_self ..);rw [← hl,zi7] at hni;rw [h.zlast] at hni hl;obtain ⟨a,tl,e,hl2,hb⟩:=ziV (by rw [hl];exact h.pr) hni;have hf:flP p (ov (p.length - 1))=1:=by
  have hs:=h.sov;rw [e] at hs hl ⊢;rw [zhU (by rw [hl];exact h.pr) hb,hs];decide +kernel
 unfold rst;rw [hf,zja h.pr,ziB];exact ziC _
theorem Wd.lw : Lw p 1 N:=by
 obtain ⟨n,hn⟩:=h.dif;refine ⟨h.pr,h.len,by omega,by omega,fun x hx=>?_,n,hn⟩;obtain ⟨i,hi,e⟩:=List.getElem_of_mem hx;have hz:=zkZ (p:=p) hi;rw [List.getElem?_eq_getElem hi,e] at hz;rw [Option.some.inj hz,show ((1 * 67108864:Int):Rat)=67108864 from rfl];rcases Nat.lt_or_ge (i+1) N.length with g | g
 ·have:=h.zbd g;constructor <;> grind
 ·rw [show i+1=N.length by omega,h.zlast,h.sov];constructor <;> grind
end
end Go.Proofs.YtbkfhacmekbniaaGreatDoor
