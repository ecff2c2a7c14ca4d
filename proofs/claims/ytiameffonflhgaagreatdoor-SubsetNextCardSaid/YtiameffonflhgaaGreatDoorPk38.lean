/- Walks: law 38's indices, check, isMode. What the laws of drafts begin with. What the rows' condition gives the walks, and the last step of a law (the seat of chapters 31 and 32). A world that came in. A pair of bytes that came in; sixteen bits that came in. A draft that came in. What the rows ask of the program as a whole (once a seat). A list of lists of ints that a call made, in memory. Plain: the reference's lists by growing, in parts; what its search finds is what the program's finds. -/
import Derived.Test.YtiameffonflhgaaGreatDoorPk37
import Derived.Test.YtiameffonflhgaaGreatDoorPk30
import Derived.Test.YtiameffonflhgaaGreatDoorPk29
import Derived.Test.YtiameffonflhgaaGreatDoorPk35
import Derived.Test.YtiameffonflhgaaGreatDoorPk00
import Derived.Below
import Derived.ChangeSame
import Derived.OpenShut
import Derived.LaidMore
import Derived.ProofKit
import Derived.Stop.Joined
import Derived.Laws.IdiomArrays
import Derived.Test.YtiameffonflhgaaGreatDoorRows
import Derived.Test.YtiameffonflhgaaGreatDoorTie
import Derived.Test.YtiameffonflhgaaGreatDoorCards
import Derived.Handy
import Derived.Lay
import Derived.SevenTiedAt
import Derived.Stop.LaidErr
import Derived.Carry
import Derived.Test.YtiameffonflhgaaGreatDoorPk23
import Derived.Lib.SmallJoins
import Derived.Test.YtiameffonflhgaaGreatDoorPk34
set_option maxRecDepth 100000
set_option maxHeartbeats 4000000
namespace Go.Proofs.YtiameffonflhgaaGreatDoor
section
open Go.RowKit Go.Lib Go.Shelf
attribute [local go_sem] Oper.semAt_some
theorem zqz (vl:Value)(l:List Int)(n:Nat)(w:World)(hvl:Sl w vl (zaq l))(hl:l.length≤1000000) :
  Calls Tryz.prog 76 #[vl,.int .i64 (n:Int)] w fun e w'=>e=.returned (.int .i64 (zld n l 0 l.length))∧Ext w w':=by
 obtain ⟨al,cl,rfl,_,_,_⟩:=hvl.parts;rw [zas] at *;have hlat:=zqc hvl;have Hlat:=Lib.hid hlat;clear hvl hlat;generalize hLl:l.length=L at *;have HLl:=Lib.hid hLl;clear hLl;go_enter Tryz.func76,Tryz.ntmps76
 go_wp2_with fail
 go_loopw [5] (fun v5 wr=>∃ k:Nat,v5=.int .i64 k∧k≤L∧Hid (zld n l 0 L=zld n l k (L - k))∧Ext w wr) (fun v5 _=>L - (zam v5).toNat)
 case atStart=>exact ⟨0,rfl,Nat.zero_le _,Lib.hid rfl,Ext.refl _⟩
 case round =>
  obtain ⟨k,rfl,hk,HS,hE⟩:=hrel;have HE:=Lib.hid hE;by_cases hkl:k<L
  ·obtain ⟨b,off,rfl,hc0⟩:=Hlat.out k hkl;have hc:=hE.cell hc0;clear hE hc0;have hgo:zlc n l k=0→zld n l 0 L=zld n l (k+1) (L - (k+1)):=fun e=>by
    have:=zlf (n:=n) (l:=l) (k:=k) (by rw [HLl.out];exact hkl) e;rw [HLl.out] at this;exact HS.out.trans this
   have hst:zlc n l k ≠ 0→zld n l 0 L=zlc n l k:=fun e=>by
    have:=zlg (n:=n) (l:=l) (k:=k) (by rw [HLl.out];exact hkl) e;rw [HLl.out] at this;exact HS.out.trans this
   have hun:zlc n l k=if (l[k]?).getD 0<0∨(n:Int)≤(l[k]?).getD 0 then 3 else if 0<k∧(l[k]?).getD 0≤(l[k - 1]?).getD 0 then 6 else 0:=rfl;have hpv:=fun (h0:0<k)=>Hlat.out (k - 1) (by omega);generalize (l[k]?).getD 0=x at *;generalize (l[k - 1]?).getD 0=y at *;have hk0:(0:Int)≤(k:Int):=(by omega);have hk1:(k:Int)<(L:Int):=(by omega);have Hgo:=Lib.hid hgo;have Hst:=Lib.hid hst;have Hun:=Lib.hid hun;have Hpv:=Lib.hid hpv;clear hgo hst hun hpv;by_cases hx0:x<0
   ·have hec:zld n l 0 L=3:=by
     have hs:zlc n l k=3:=(by rw [Hun.out,if_pos (.inl hx0)]);exact (Hst.out (by rw [hs];decide)).trans hs
    have Hec:=Lib.hid hec;clear hec;go_wp2_with fail
    go_ret
    exact ⟨by rw [Hec.out];rfl,HE.out⟩
   ·by_cases hxn:(n:Int)≤x
    ·have hec:zld n l 0 L=3:=by
      have hs:zlc n l k=3:=(by rw [Hun.out,if_pos (.inr hxn)]);exact (Hst.out (by rw [hs];decide)).trans hs
     have Hec:=Lib.hid hec;clear hec;go_wp2_with fail
     go_ret
     exact ⟨by rw [Hec.out];rfl,HE.out⟩
    ·rcases Nat.eq_zero_or_pos k with hk00 | hk00
     ·subst hk00;have hs:zlc n l 0=0:=(by rw [Hun.out,if_neg (by omega),if_neg (by omega)]);have Hnx:=Lib.hid (Hgo.out hs);clear hs;rw [Nat.add_zero] at hc;go_wp2_with fail
      go_quiet (fail)
      go_wp2_with fail
      go_roundw
      case rel=>exact ⟨1,by go_num,by omega,Hnx,HE.out.drewN _⟩
      case measure=>simp [zam];omega
     ·obtain ⟨j,rfl⟩:∃ j,k=j+1:=⟨k - 1,by omega⟩;obtain ⟨b',off',e',hc1⟩:=Hpv.out hk00
      cases e'
      have hc':=HE.out.cell hc1;clear hc1;rw [Nat.add_sub_cancel] at hc';have hwj:IntKind.i64.wrap (((j+1:Nat):Int) - 1)=(j:Int):=(by rw [show (((j+1:Nat):Int) - 1)=(j:Int) by omega];exact IntWalk.i64_in _ (by omega));have hwj2:IntKind.i64.wrap (j:Int)=(j:Int):=IntWalk.i64_in _ (by omega);have hj0:(0:Int)≤(j:Int):=(by omega);have hj1:(j:Int)<(L:Int):=(by omega);have hjc:((j+1:Nat):Int)=(j:Int)+1:=(by omega);have hjp:(0:Int)<(j:Int)+1:=(by omega);by_cases hxy:x≤y
      ·have hec:zld n l 0 L=6:=by
        have hs:zlc n l (j+1)=6:=(by rw [Hun.out,if_neg (by omega),if_pos ⟨hk00,hxy⟩]);exact (Hst.out (by rw [hs];decide)).trans hs
       have Hec:=Lib.hid hec;clear hec;go_wp2_with fail
       go_quiet (fail)
       go_wp2_with fail
       go_ret
       exact ⟨by rw [Hec.out];rfl,HE.out.drewN _⟩
      ·have hs:zlc n l (j+1)=0:=(by rw [Hun.out,if_neg (by omega),if_neg (fun g=>hxy g.2)]);have Hnx:=Lib.hid (Hgo.out hs);clear hs;go_wp2_with fail
       go_quiet (fail)
       go_wp2_with fail
       go_roundw
       case rel=>exact ⟨j+1+1,by go_num,by omega,Hnx,HE.out.drewN _⟩
       case measure=>simp [zam];omega
  ·obtain rfl:k=L:=by omega
   have hec:zld n l 0 k=0:=(by rw [HS.out,Nat.sub_self];rfl);have Hec:=Lib.hid hec;clear hec hE;go_wp2_with fail
   go_ret
   exact ⟨by rw [Hec.out];rfl,HE.out⟩
theorem zq0 (v:Value)(p:List Int)(rs:List Qw)(m P:Int)(M:List Int)(b:Bool)(w:World)(he:Env w)(hv:QyV w v p rs m P M b)(h:Wd p (rs.map Qw.x))(hM:M.length≤1000000)(hq:znM rs.length m P M=0) :
  Calls Tryz.prog 31 #[v] w fun e w'=>e=.returned (.int .i64 0)∧Ext w w':=by
 have hck:=fun W sv (hE:Ext w W)(hs:ScV W sv p rs)=>ziX sv p rs W (he.ext hE) hs h.right;obtain ⟨ap,cp,an,cn,am,cm,rfl,hs,hm⟩:=hv.let;have hE0:Ext w (w.alloc (.cells #[.slice ap p.length cp,.slice an rs.length cn,.int .i64 m,.int .i64 P,.slice am M.length cm,.bool b] 59)):=(Ext.refl w).alloc _;have hb:=znK.new w (.slice ap p.length cp) (.slice an rs.length cn) m P (.slice am M.length cm) b;have hc1:=hck _ _ hE0 (hs.ext hE0);have hnt:=fun W (hE:Ext w W)=>zqz (.slice am M.length cm) M rs.length W (hE.sl hm) hM;obtain ⟨h1,h2,h3,h4,h5⟩:¬ m<1∧¬ (rs.length:Int)<m∧¬ P<1∧¬ 6<P∧zld rs.length M 0 M.length=0:=by
  unfold znM at hq;split at hq
  ·cases hq
  ·split at hq
   ·cases hq
   ·rename_i a c;exact ⟨fun e=>a (.inl e),fun e=>a (.inr e),fun e=>c (.inl e),fun e=>c (.inr e),hq⟩
 rw [h5] at hnt;have Hc1:=Lib.hid hc1;have Hnt:=Lib.hid hnt;have HE0:=Lib.hid hE0;have Hb:=Lib.hid hb;clear hs hm hc1 hnt hE0 hb hq hck hv h5 he h;generalize rs.length=n at *;generalize M.length=L at *;obtain ⟨q0,q1,_,_,_,_⟩:=Hb.out.cs;go_enter Tryz.func31,Tryz.ntmps31
 go_wp2_with fail
 refine Hc1.out.mono ?_;rintro e w1 ⟨rfl,hx1⟩;obtain ⟨q0,q1,q2,q3,q4,_⟩:=(Hb.out.ext hx1).cs;have Hx1:=Lib.hid (HE0.out.trans hx1);clear hx1;go_wp2_with fail
 refine (Hnt.out _ Hx1.out).mono ?_;rintro e w2 ⟨rfl,hx2⟩;have Hx2:=Lib.hid (Hx1.out.trans hx2);clear hx2;go_wp2_with fail
 go_ret
 exact ⟨rfl,Hx2.out⟩
theorem zq1 (v1 v2:Value)(p:List Int)(rs ts:List Qw)(w:World)(he:Env w)(h1:ScV w v1 p rs)(h2:ScV w v2 p ts)(g1:Wd p (rs.map Qw.x))(g2:Wd p (ts.map Qw.x)) :
  Calls Tryz.prog 80 #[v1,v2] w fun e w'=>e=.returned (.bool (znu p (rs.map Qw.x) (ts.map Qw.x)))∧Ext w w':=by
 have hr:=fun W u1 u2 (hE:Ext w W)(k1:ScV W u1 p rs)(k2:ScV W u2 p ts)=>(zpL u1 u2 p p rs ts W (he.ext hE) k1 k2 g1 g2).mono fun e w' ⟨k,b,e1,e2,e3⟩=>(show ∃ k:Int,e=Ending.returned (.tuple #[.int .i64 k,.bool (znu p (rs.map Qw.x) (ts.map Qw.x)),.int .i64 0])∧Ext W w' from by
  have e4:b=znu p (rs.map Qw.x) (ts.map Qw.x):=by
   rcases e2 with ⟨rfl,_,h⟩ | ⟨rfl,i,_,hi,_,e,_⟩
   ·refine (Bool.eq_false_iff.2 fun g=>?_).symm;obtain ⟨i,hi,e⟩:=znv.1 g;exact h i hi ⟨rfl,e⟩
   ·exact (znv.2 ⟨i,hi,e⟩).symm
  exact ⟨k,by rw [e1,e4],e3⟩)
 obtain ⟨a1,c1,b1,d1,rfl,h1⟩:=zom h1;obtain ⟨a2,c2,b2,d2,rfl,h2⟩:=zom h2;obtain ⟨hb1,hb2,hE⟩:=zpI w (.slice a1 p.length c1) (.slice b1 rs.length d1) (.slice a2 p.length c2) (.slice b2 ts.length d2);have hc:=hr _ _ _ hE (h1.ext hE) (h2.ext hE);have q0:=hb1.c0;have q1:=hb1.c1;have q2:=hb2.c0;have q3:=hb2.c1;have Hc:=Lib.hid hc;have HE:=Lib.hid hE;clear hr hc hE h1 h2 g1 g2 he hb1 hb2;generalize znu p (rs.map Qw.x) (ts.map Qw.x)=R at *;go_enter Tryz.func80,Tryz.ntmps80
 go_wp2_with fail
 refine Hc.out.mono ?_;rintro e w1 ⟨k,rfl,hx⟩;have HE1:=Lib.hid (HE.out.trans hx);clear hx q0 q1 q2 q3;go_wp2_with fail
 go_ret
 exact ⟨rfl,HE1.out⟩
end
section
open Go.RowKit Go.Lib Go.Shelf
theorem zq2 (d:Dl)(w W:World)(h:Ext (w.alloc (.cells d.cs 85)) W):W.rangeAt w.heap.size 0 d.cs.toList:=fun j v hj=>by
 unfold World.cell?;dsimp only;rw [h.heap (World.alloc_heap_new w _),Nat.zero_add];show d.cs[j]?=some v;rw [← Array.getElem?_toList];exact hj
theorem zq3 (d:Dl):(Tryz.prog.info? 85).map (·.size)=some d.cs.toList.length:=by
 rw [Array.length_toList];kernel_rfl
theorem zq4 (d:Dl){n:Nat}(h0:0<n):znM n (d.m n:Int) d.P (d.M n)=0∧1≤d.m n∧d.m n≤n∧1≤d.P∧d.P≤6∧zld n (d.M n) 0 (d.M n).length=0∧(d.M n).length≤n:=by
 have h1:d.size % n<n:=Nat.mod_lt _ h0;have h2:1≤d.m n∧d.m n≤n:=by unfold Dl.m;omega
 have h3:1≤d.P∧d.P≤6:=by unfold Dl.P;omega
 have h4:=zqp n fun i=>d.must.testBit i;have h5:zld n (d.M n) 0 (d.M n).length=0:=zpW h4.1 h4.2;refine ⟨?_,h2.1,h2.2,h3.1,h3.2,h5,zqq n _⟩;unfold znM;rw [if_neg (by omega),if_neg (by omega)];exact h5
section
variable {w : World} {k : Nat} {vp vn vm : Value} {m P : Int} {b : Bool}
theorem znK.set2 (h:znK w k vp vn m P vm b)(z:Int):znK (w.setCell ⟨k,2,none⟩ (.int .i64 z)) k vp vn z P vm b:=heap_setCell_same _ _ 2 _ _ _ h
theorem znK.set3 (h:znK w k vp vn m P vm b)(z:Int):znK (w.setCell ⟨k,3,none⟩ (.int .i64 z)) k vp vn m z vm b:=heap_setCell_same _ _ 3 _ _ _ h
theorem znK.set4 (h:znK w k vp vn m P vm b)(u:Value):znK (w.setCell ⟨k,4,none⟩ u) k vp vn m P u b:=heap_setCell_same _ _ 4 _ _ _ h
theorem znK.fz (h:znK w k vp vn m P vm b)(j:Nat):w.frozen? ⟨k,j,none⟩=false:=frozen_of_row w k j _ _ h
end
end
section
open Go.ChangeShapes Go.WideShapes Go.ChangeAt Go.WideMaps Go.WideElems Go.RowKit
theorem zq5 {n:Int}(h:(Lit.int .u8 n).wf=true):0≤n∧n≤255:=by
 simp [Lit.wf,IntKind.min,IntKind.max,IntKind.signed,IntKind.bits] at h;omega
section
variable {H : Type} {enc : TypeId × Value → H} {P : Program}
theorem zq6 {f:Func}{s:ChangeSpec}{apart fresh handsOn again:Bool}{W W':World}{args:Array Value}{v:Value}{ds gs:List (DataW H)}{before pa pv:List MemPlace}
  (hW:DataW.Whole enc P f.params.toList s.vars apart W args.toList ds gs before)
  (hres:∀ (b:Nat)(sp:Nat→Bool)(hd:Bool),DataW.TrodAll enc P W' b sp hd f.resultTypes.toList (v.resultList f.resultTypes.size) (s.fn H (ds++gs)).results [])
  (hargs:∀ sp:Nat→Bool,(∀ p∈before,sp p.block=true)→DataW.TrodAll enc P W' 0 sp true f.params.toList args.toList (s.fn H (ds++gs)).args pa)
  (hvars:∀ sp:Nat→Bool,(∀ p∈before,sp p.block=true)→DataW.TrodVars enc P W' sp s.vars (s.fn H (ds++gs)).vars pv)
  (hps:before=pa++pv) (hb:Below W.heap.size W W')
  (hok:∀ (j:Nat)(t:TypeId)(r:Value),f.resultTypes[j]?=some t→(v.resultList f.resultTypes.size)[j]?=some r→Value.okWide P W' .any 0 t r) :
  s.post enc P f apart fresh handsOn again W args v W':=by
 have hlt:∀ p∈before,p.block<W.heap.size:=fun p hp=>hW.lt p hp;have hold:∀ p∈before,(fun b=>decide (b<W.heap.size)) p.block=true:=fun p hp=>by simpa using hlt p hp
 refine ⟨ds,gs,before,[],pa,pv,hW,hres _ _ _,hargs _ hold,hvars _ hold,World.keptBut_mono (fun p hp=>⟨hp,?_⟩) (hb.frame (·∈before)),fun _=>?_⟩
 ·rw [hps,List.mem_append] at hp;exact Or.inr hp
 ·obtain ⟨_,_,_,_,_,hz,hn⟩:=hW;refine ⟨hok,_,_,([]++pa)++pv,⟨[]++pa,pv,trodAll_append (hargs _ (fun _ _=>rfl)) (hres _ _ _),hvars _ (fun _ _=>rfl),rfl,?_,?_⟩,?_⟩
  ·intro b off hp;have hin:MemPlace.cell b off∈before:=(by rw [hps];simpa using hp);rw [hb.frozen (hlt _ hin)];exact hz b off hin
  ·intro ha;have:=hn ha;rw [hps] at this;simpa using this
  ·intro p hp _;rw [hps];simpa using hp
end
theorem zq7 : ownKnob Tryz.prog.godebug=none:=by kernel_rfl
theorem zq8 : (Tryz.prog.globals[0]?).map (·.type)=some 329:=by kernel_rfl
theorem zq9 : Tryz.prog.cellsOf 228=1:=by kernel_rfl
theorem zqA : Tryz.prog.cellsOf 329=20:=by kernel_rfl
theorem zqB {W : World} (h : laidMetH Tryz.prog [("math/bits.deBruijn32tab", Rows.laid_math_bits_deBruijn32tab), ("math/bits.deBruijn64tab", Rows.laid_math_bits_deBruijn64tab), ("internal/strconv.uint64pow10", Rows.laid_internal_strconv_uint64pow10), ("strconv.ErrRange", Rows.laid_strconv_ErrRange), ("strconv.ErrSyntax", Rows.laid_strconv_ErrSyntax)] W) : Env W := by
 rw [MakeChecks.laidMetH_plain _ _ _ (by kernel_rfl)] at h;exact Lib.tabIs_of_head (k:=.u64) (zs:=Lib.pow10Tab) za4 zq8 Tryz.underlying329 Tryz.underlying228 zq9 zqA h.tail.tail
def zqC : List (String × DataW Unit) := [("math/bits.deBruijn32tab", Rows.laid_math_bits_deBruijn32tab), ("math/bits.deBruijn64tab", Rows.laid_math_bits_deBruijn64tab), ("internal/strconv.uint64pow10", Rows.laid_internal_strconv_uint64pow10), ("strconv.ErrRange", Rows.laid_strconv_ErrRange), ("strconv.ErrSyntax", Rows.laid_strconv_ErrSyntax)]
theorem zqD (os:Os)(args:Array Value):((World.laidAll Tryz.prog os zqC).forCall (fun _ _=>0) ⟨#[],args,[]⟩).Shaped Tryz.prog:=World.shaped_of_ZipB (by kernel_rfl) (by kernel_rfl)
theorem zqE (os:Os)(args:Array Value):laidMetH Tryz.prog zqC ((World.laidAll Tryz.prog os zqC).forCall (fun _ _=>0) ⟨#[],args,[]⟩).memory:=by
 rw [MakeChecks.laidMetH_plain _ _ _ (by kernel_rfl)];exact laidMet_laidAll _ (by kernel_rfl) (by kernel_rfl)
theorem zqF : laidOutB Tryz.prog=true:=by kernel_rfl
section
variable {H : Type} {enc : TypeId × Value → H} {W W' : World} {sp : Nat → Bool}
theorem zqG : ∀ {ts:List TypeId}{vs:List Value}{ds:List (DataW H)}{ps:List MemPlace},(∀ t∈ts,Tryz.prog.readableRec t=true∧t<Tryz.prog.types.size) →
  DataW.TrodAll enc Tryz.prog W 0 (fun _=>true) true ts vs ds ps→(∀ x∈ps,W.sameAt W' x)→(∀ x∈ps,sp x.block=true)→DataW.TrodAll enc Tryz.prog W' 0 sp true ts vs ds ps
 | [],_,_,_,_,h,_,_=>by
  obtain ⟨rfl,rfl,rfl⟩:=trodAll_nil h;exact trodAll_mk0
 | t::ts,vs,ds,ps,hts,h,hs,hp=>by
  obtain ⟨v,vs',d,ds',p,p',rfl,rfl,rfl,h1,h2⟩:=trodAll_cons h;obtain ⟨hr,hw⟩:=hts t (List.mem_cons_self ..);exact trodAll_cons_mk (WideElems.Trod_stays zqF hr hw h1 (fun x hx=>hs x (List.mem_append_left _ hx)) (fun x hx=>hp x (List.mem_append_left _ hx)))
   (zqG (fun t ht=>hts t (List.mem_cons_of_mem _ ht)) h2 (fun x hx=>hs x (List.mem_append_right _ hx)) (fun x hx=>hp x (List.mem_append_right _ hx)))
end
theorem zqH {H:Type}{enc:TypeId × Value→H}{f:Func}{s:ChangeSpec}{W W':World}{args:Array Value}{ds:List (DataW H)}{before:List MemPlace}(hv:s.vars=[])(hts:∀ t∈f.params.toList,Tryz.prog.readableRec t=true∧t<Tryz.prog.types.size)
  (hres:f.resultTypes=#[4]) (hfn:s.fn H ds={ results:=[.lit (.bool true)],args:=ds })
  (hW:DataW.Whole enc Tryz.prog f.params.toList s.vars false W args.toList ds [] before) (hb:Below W.heap.size W W'):s.post enc Tryz.prog f false true false false W args (.bool true) W':=by
 have hW':=hW;obtain ⟨p,q,hA0,hV,rfl,_,_⟩:=hW;rw [hv] at hV;obtain ⟨_,rfl⟩:=trodVars_none hV;have hlt:∀ x∈p++[],x.block<W.heap.size:=fun x hx=>hW'.lt x hx;refine zq6 (pa:=p) (pv:=[]) hW' (fun _ _ _=>?_) (fun sp hsp=>?_) (fun _ _=>?_) rfl hb ?_
 ·rw [List.append_nil,hfn,hres];exact trodAll_mk1 (shut_bool Tryz.underlying4 _)
 ·rw [List.append_nil,hfn];exact zqG hts hA0 (fun x hx=>hb.same (hlt x (List.mem_append_left _ hx))) (fun x hx=>hsp x (List.mem_append_left _ hx))
 ·rw [List.append_nil,hfn,hv];rfl
 ·exact ok_one hres rfl (okWide_bool_mk Tryz.underlying4 _)
theorem zqI : Tryz.prog.cellsOf 4=1:=by kernel_rfl
theorem zqJ : Tryz.prog.cellsOf 5=1:=by kernel_rfl
theorem zqK : Tryz.prog.cellsOf 79=1:=by kernel_rfl
theorem zqL : Tryz.prog.cellsOf 80=3:=by kernel_rfl
theorem zqM : Tryz.prog.cellsOf 81=24:=by kernel_rfl
theorem zqN : Tryz.prog.cellsOf 83=27:=by kernel_rfl
section
variable {H : Type} {enc : TypeId × Value → H} {w : World} {base : Nat} {spare : Nat → Bool} {held : Bool}
theorem zqO {fuel:Nat}{c0 c1 c2:Value}{x:DataW H × List MemPlace}(h:DataW.trod enc Tryz.prog w base spare held fuel 80 [c0,c1,c2]=some x) :
  ∃ z:I3,c0=.int .i8 z.a∧c1=.int .i8 z.b∧c2=.int .i8 z.c∧z.ok:=by
 obtain ⟨y0,y1,y2,n,rfl,h0,h1,h2⟩:=trod_array3 Tryz.underlying80 zqK h;obtain ⟨a,ha,rfl,wa⟩:=DataW.trod_int Tryz.underlying79 h0;obtain ⟨b,hb,rfl,wb⟩:=DataW.trod_int Tryz.underlying79 h1;obtain ⟨c,hc,rfl,wc⟩:=DataW.trod_int Tryz.underlying79 h2;simp only [List.cons.injEq,and_true] at ha hb hc;have ba:=bounds_i8 wa;have bb:=bounds_i8 wb;have bc:=bounds_i8 wc;refine ⟨⟨a,b,c⟩,ha,hb,hc,fun i=>?_⟩;match i with
 | 0=>exact ba
 | 1=>exact bb
 | _+2=>exact bc
theorem zqP {n:Int}(h:(Lit.int .u8 n).wf=true):∃ k:Nat,n=k∧k<256:=by
 have:=zq5 h;exact ⟨n.toNat,by omega,by omega⟩
def zqQ (z0 z1 z2 z3 z4 z5 z6 z7:I3):Nat→I3
 | 0=>z0
 | 1=>z1
 | 2=>z2
 | 3=>z3
 | 4=>z4
 | 5=>z5
 | 6=>z6
 | 7=>z7
 | _=>⟨0,0,0⟩
end
theorem zqR {n:Int}(h:(Lit.int .u16 n).wf=true):∃ k:Nat,n=k∧k<65536:=by
 have:=bounds_u16 h;exact ⟨n.toNat,by omega,by omega⟩
theorem zqS : Tryz.prog.cellsOf 22=1:=by kernel_rfl
theorem zqT : Tryz.prog.cellsOf 85=31:=by kernel_rfl
section
variable {H : Type} {enc : TypeId × Value → H} {w : World} {base : Nat} {spare : Nat → Bool} {held : Bool}
theorem zqU {t:TypeId}{f0 f1 f2 f3 f4:Field}{fuel:Nat}{cs:List Value}{x:DataW H × List MemPlace}(ht:Tryz.prog.underlying t=some (.struct #[f0,f1,f2,f3,f4]))(h:DataW.trod enc Tryz.prog w base spare held fuel t cs=some x) :
  ∃ y0 y1 y2 y3 y4 n,DataW.trod enc Tryz.prog w base spare held n f0.type ((cs.drop f0.offset).take (Tryz.prog.cellsOf f0.type))=some y0∧DataW.trod enc Tryz.prog w base spare held n f1.type ((cs.drop f1.offset).take (Tryz.prog.cellsOf f1.type))=some y1 ∧
   DataW.trod enc Tryz.prog w base spare held n f2.type ((cs.drop f2.offset).take (Tryz.prog.cellsOf f2.type))=some y2∧DataW.trod enc Tryz.prog w base spare held n f3.type ((cs.drop f3.offset).take (Tryz.prog.cellsOf f3.type))=some y3 ∧
   DataW.trod enc Tryz.prog w base spare held n f4.type ((cs.drop f4.offset).take (Tryz.prog.cellsOf f4.type))=some y4:=by
 obtain ⟨xs,n,_,_,_,hlen,hf⟩:=DataW.trod_struct ht h;match xs,hlen with
 | [y0,y1,y2,y3,y4],_=>exact ⟨y0,y1,y2,y3,y4,n,by simpa using hf 0 f0 rfl,by simpa using hf 1 f1 rfl,by simpa using hf 2 f2 rfl,by simpa using hf 3 f3 rfl,by simpa using hf 4 f4 rfl⟩
theorem zqV {fuel:Nat}{c0 c1 c2 c3 c4 c5 c6 c7 c8 c9 c10 c11 c12 c13 c14 c15 c16 c17 c18 c19 c20 c21 c22 c23 c24 c25 c26:Value}{x:DataW H × List MemPlace}(hf:DataW.trod enc Tryz.prog w base spare held fuel 83 [c0,c1,c2,c3,c4,c5,c6,c7,c8,c9,c10,c11,c12,c13,c14,c15,c16,c17,c18,c19,c20,c21,c22,c23,c24,c25,c26]=some x) :
  ∃ a:Wl,(#[c0,c1,c2,c3,c4,c5,c6,c7,c8,c9,c10,c11,c12,c13,c14,c15,c16,c17,c18,c19,c20,c21,c22,c23,c24,c25,c26]:Array Value)=a.cs∧a.Ok:=by
 obtain ⟨y0,y1,y2,y3,k,hx,_,h0,h1,h2,h3⟩:=Go.Joins.trod_struct4 Tryz.underlying83 hf;simp only [zqI,zqJ,zqM,List.drop_zero,List.take_succ_cons,List.take_zero,List.drop_succ_cons] at h0 h1 h2 h3;obtain ⟨b,hb,rfl⟩:=DataW.trod_bool Tryz.underlying4 h0;obtain ⟨n,hn,rfl,wn⟩:=DataW.trod_int Tryz.underlying5 h1;obtain ⟨m,hm,rfl,wm⟩:=DataW.trod_int Tryz.underlying5 h2;simp only [List.cons.injEq,and_true] at hb hn hm;obtain ⟨n',rfl,n1⟩:=zqP wn;obtain ⟨m',rfl,m1⟩:=zqP wm;obtain ⟨xs,j,_,_,_,hxl,hg⟩:=DataW.trod_array Tryz.underlying81 h3;obtain ⟨q0,hq0⟩:∃ q,xs[0]?=some q:=⟨_,List.getElem?_eq_getElem (by omega)⟩;have g0:=hg 0 (by omega);rw [hq0,zqL] at g0;simp only [Nat.reduceMul,List.drop_zero,List.take_succ_cons,List.take_zero] at g0;obtain ⟨z0,e0a,e0b,e0c,o0⟩:=zqO g0;obtain ⟨q1,hq1⟩:∃ q,xs[1]?=some q:=⟨_,List.getElem?_eq_getElem (by omega)⟩;have g1:=hg 1 (by omega);rw [hq1,zqL] at g1;simp only [Nat.reduceMul,List.drop_zero,List.take_succ_cons,List.take_zero,List.drop_succ_cons] at g1;obtain ⟨z1,e1a,e1b,e1c,o1⟩:=zqO g1;obtain ⟨q2,hq2⟩:∃ q,xs[2]?=some q:=⟨_,List.getElem?_eq_getElem (by omega)⟩;have g2:=hg 2 (by omega);rw [hq2,zqL] at g2;simp only [Nat.reduceMul,List.drop_zero,List.take_succ_cons,List.take_zero,List.drop_succ_cons] at g2;obtain ⟨z2,e2a,e2b,e2c,o2⟩:=zqO g2;obtain ⟨q3,hq3⟩:∃ q,xs[3]?=some q:=⟨_,List.getElem?_eq_getElem (by omega)⟩;have g3:=hg 3 (by omega);rw [hq3,zqL] at g3;simp only [Nat.reduceMul,List.drop_zero,List.take_succ_cons,List.take_zero,List.drop_succ_cons] at g3;obtain ⟨z3,e3a,e3b,e3c,o3⟩:=zqO g3;obtain ⟨q4,hq4⟩:∃ q,xs[4]?=some q:=⟨_,List.getElem?_eq_getElem (by omega)⟩;have g4:=hg 4 (by omega);rw [hq4,zqL] at g4;simp only [Nat.reduceMul,List.drop_zero,List.take_succ_cons,List.take_zero,List.drop_succ_cons] at g4;obtain ⟨z4,e4a,e4b,e4c,o4⟩:=zqO g4;obtain ⟨q5,hq5⟩:∃ q,xs[5]?=some q:=⟨_,List.getElem?_eq_getElem (by omega)⟩;have g5:=hg 5 (by omega);rw [hq5,zqL] at g5;simp only [Nat.reduceMul,List.drop_zero,List.take_succ_cons,List.take_zero,List.drop_succ_cons] at g5;obtain ⟨z5,e5a,e5b,e5c,o5⟩:=zqO g5;obtain ⟨q6,hq6⟩:∃ q,xs[6]?=some q:=⟨_,List.getElem?_eq_getElem (by omega)⟩;have g6:=hg 6 (by omega);rw [hq6,zqL] at g6;simp only [Nat.reduceMul,List.drop_zero,List.take_succ_cons,List.take_zero,List.drop_succ_cons] at g6;obtain ⟨z6,e6a,e6b,e6c,o6⟩:=zqO g6;obtain ⟨q7,hq7⟩:∃ q,xs[7]?=some q:=⟨_,List.getElem?_eq_getElem (by omega)⟩;have g7:=hg 7 (by omega);rw [hq7,zqL] at g7;simp only [Nat.reduceMul,List.drop_zero,List.take_succ_cons,List.take_zero,List.drop_succ_cons] at g7;obtain ⟨z7,e7a,e7b,e7c,o7⟩:=zqO g7;refine ⟨⟨b,n',m',zqQ z0 z1 z2 z3 z4 z5 z6 z7⟩,?_,n1,m1,fun i=>?_⟩
 ·rw [hb,hn,hm,e0a,e0b,e0c,e1a,e1b,e1c,e2a,e2b,e2c,e3a,e3b,e3c,e4a,e4b,e4c,e5a,e5b,e5c,e6a,e6b,e6c,e7a,e7b,e7c];rfl
 ·match i with
  | 0=>exact o0
  | 1=>exact o1
  | 2=>exact o2
  | 3=>exact o3
  | 4=>exact o4
  | 5=>exact o5
  | 6=>exact o6
  | 7=>exact o7
  | _+8=>exact fun k=>(match k with | 0=>(by decide:-128≤(0:Int)∧(0:Int)≤127) | 1=>(by decide:-128≤(0:Int)∧(0:Int)≤127) | _+2=>(by decide:-128≤(0:Int)∧(0:Int)≤127):-128≤(⟨0,0,0⟩:I3).at k∧(⟨0,0,0⟩:I3).at k≤127)
theorem zqW {r:Reach}{b0:Nat}{v:Value}{d:DataW H}{p:List MemPlace}(hv:Value.okWide Tryz.prog w r b0 85 v)(h:DataW.Trod enc Tryz.prog w base spare held 85 v d p) :
  ∃ a:Dl,v=a.v∧a.Ok:=by
 obtain ⟨cs,rfl,hsz⟩:=okWide_struct Tryz.underlying85 hv;rw [zqT] at hsz;obtain ⟨l⟩:=cs;match l,hsz with
 | [c0,c1,c2,c3,c4,c5,c6,c7,c8,c9,c10,c11,c12,c13,c14,c15,c16,c17,c18,c19,c20,c21,c22,c23,c24,c25,c26,c27,c28,c29,c30],_ =>
  obtain ⟨fuel,hf⟩:=h
  obtain ⟨y0,y1,y2,y3,y4,k,h0,h1,h2,h3,h4⟩:=zqU Tryz.underlying85 hf
  simp only [Value.cells,zqI,zqJ,zqS,zqN,List.drop_zero,List.take_succ_cons,List.take_zero,List.drop_succ_cons] at h0 h1 h2 h3 h4
  obtain ⟨a,ha,ok⟩:=zqV h0
  obtain ⟨s,hs,_,ws⟩:=DataW.trod_int Tryz.underlying5 h1
  obtain ⟨q,hq,_,wq⟩:=DataW.trod_int Tryz.underlying5 h2
  obtain ⟨m,hm,_,wm⟩:=DataW.trod_int Tryz.underlying22 h3
  obtain ⟨b,hb,_⟩:=DataW.trod_bool Tryz.underlying4 h4
  simp only [List.cons.injEq,and_true] at hs hq hm hb
  obtain ⟨s',rfl,s1⟩:=zqP ws
  obtain ⟨q',rfl,q1⟩:=zqP wq
  obtain ⟨m',rfl,m1⟩:=zqR wm
  refine ⟨⟨a,s',q',m',b⟩,?_,ok,s1,q1,m1⟩
  have h27:=congrArg Array.toList ha
  refine congrArg Value.agg (Array.ext' ?_)
  rw [zqr,← h27,hs,hq,hm,hb]
  rfl
end
theorem zqX {a b:Bool}(ha:a=true)(hb:b=true):(a && b)=true:=by rw [ha,hb];rfl
theorem zqY : mapsRowed Tryz.prog=true:=by kernel_rfl
theorem zqZ : (Tryz.prog.stops == [])=true:=by kernel_rfl
theorem zra : (Tryz.prog.stopKnobs == [])=true:=by kernel_rfl
theorem zrb : (Rows.topPropertiesOfClassesRow.plainKeys == Tryz.prog.plainKeys)=true:=by kernel_rfl
theorem zrc : Tryz.prog.stopsHeard=true:=by kernel_rfl
theorem zrd : Tryz.prog.mayEnter=true:=by kernel_rfl
theorem zre : (Rows.topPropertiesOfClassesRow.lifted == Tryz.prog.liftsFinal)=true:=by kernel_rfl
theorem zrf : (Tryz.prog.make == some Rows.topPropertiesOfClassesRow.make)=true:=by kernel_rfl
end
section
open Go.RowKit Go.Lib Go.Shelf
def iwU (fs:List Iw):List Value:=fs.map Iw.u
theorem zrg (fs:List Iw)(f:Iw):iwU (fs++[f])=iwU fs++[f.u]:=by unfold iwU;rw [List.map_append];rfl
theorem zrh (fs:List Iw):(iwU fs).length=fs.length:=List.length_map ..
structure LsI (W:World)(B:Nat)(v:Value)(fs:List Iw):Prop where
 row:W.ownsRow B 24 1 v fs.length (iwU fs)
 all:∀ f∈fs,zeb W B f.u f.l
section
variable {W W' : World} {B : Nat} {v : Value} {fs : List Iw}
theorem LsI.nil (W:World)(B:Nat):LsI W B (.slice none 0 0) []:=⟨⟨rfl,.inl ⟨rfl,rfl⟩⟩,fun f hf=>by cases hf⟩
theorem LsI.ext (h:LsI W B v fs)(hx:Ext W W'):LsI W' B v fs:=⟨hx.own h.row,fun f hf=>hx.ownI (h.all f hf)⟩
theorem LsI.less {B':Nat}(h:LsI W B v fs)(hB:B'≤B):LsI W B' v fs:=⟨zan h.row hB,fun f hf=>zan (h.all f hf) hB⟩
theorem LsI.kept {u:Value}{n:Nat}{xs:List Value}{D:Nat}(h:LsI W B v fs)(hu:W.ownsRow D 24 1 u n xs)(hg:W.grownBy W' u.ownBlock)(hv:∀ r,v.ownBlock=some r→r<D):LsI W' B v fs:=by
 refine ⟨World.ownsRow.kept h.row hg ?_,fun f hf=>World.ownsRow.kept (h.all f hf) hg (zef (h.all f hf) hu (by decide))⟩
 cases e:v.ownBlock with
 | none=>exact .inl rfl
 | some r =>
  refine .inr fun e2=>?_
  have h1:=hv r e
  have h2:=(World.ownsRow.lt hu r e2.symm).1
  omega
theorem LsI.other {u:Value}{E s n:Nat}{xs:List Value}{D:Nat}(h:LsI W B v fs)(hu:W.ownsRow D E s u n xs)(hE:E ≠ 24)(hE2:E ≠ 3)(hg:W.grownBy W' u.ownBlock):LsI W' B v fs :=
 ⟨World.ownsRow.kept h.row hg (zef h.row hu hE.symm),fun f hf=>World.ownsRow.kept (h.all f hf) hg (zef (h.all f hf) hu hE2.symm)⟩
theorem LsI.put {v':Value}{f:Iw}(h:LsI W B v fs)(hf:zeb W B f.u f.l)(hg:W.grownBy W' v.ownBlock)(ho:W'.ownsRow B 24 1 v' (fs.length+1) (iwU fs++[f.u])):LsI W' B v' (fs++[f]):=by
 refine ⟨by rw [List.length_append,List.length_singleton,zrg];exact ho,fun g hg2=>?_⟩;have key:∀ {g:Iw},zeb W B g.u g.l→zeb W' B g.u g.l:=fun k=>World.ownsRow.kept k hg (zef k h.row (by decide));rcases List.mem_append.1 hg2 with e | e
 ·exact key (h.all g e)
 ·rw [List.mem_singleton] at e;subst e;exact key hf
theorem LsI.lt (h:LsI W B v fs):∀ r,v.ownBlock=some r→B≤r∧r<W.heap.size:=fun r e=>World.ownsRow.lt h.row r e
theorem LsI.at' {a:Option Addr}{L c k:Nat}{f:Iw}(h:LsI W B (.slice a L c) fs)(hf:fs[k]?=some f) :
  ∃ g a2 c2,a=some ⟨g,0,none⟩∧W.cell? ⟨g,k,none⟩=some (.slice a2 f.l.length c2)∧f.u=.slice a2 f.l.length c2∧zeb W B (.slice a2 f.l.length c2) f.l:=by
 have hm:=h.all f (List.mem_of_getElem? hf);obtain ⟨a2,c2,e2⟩:=zec hm;rcases h.row.2 with ⟨e,h0⟩ | ⟨g,cap,cur,e,_⟩
 ·have:=(List.getElem?_eq_some_iff.1 hf).1;omega
 ·injection e with e1 e3 e4;subst e1;have hc:=World.ownsRow.cells h.row (g:=g) rfl k f.u (by unfold iwU;rw [List.getElem?_map,hf];rfl);rw [Addr.add_lit,Nat.zero_add,e2] at hc;rw [e2] at hm;exact ⟨g,a2,c2,rfl,hc,e2,hm⟩
end
end
section
theorem zri {n k:Nat}{l:List Int}(h:l∈sts n k):l.length=k∧(∀ x∈l,0≤x∧x<(n:Int))∧l.Pairwise (·<·):=by
 rw [zmb] at h;have hb:=zlO (Nat.le_refl _) h;exact ⟨zlN h,fun x hx=>by have:=hb.1 x hx;omega,hb.2⟩
theorem zrj {l:List Int}(h:0<l.length):nx l=(l[l.length - 1]?).getD 0+1:=by
 unfold nx;rw [List.getLast?_eq_getElem?,List.getElem?_eq_getElem (by omega)];rfl
theorem zrk {n k:Nat}{l:List Int}(h:l∈sts n k):0≤nx l∧nx l≤(n:Int):=by
 obtain ⟨h1,h2,_⟩:=zri h;rcases Nat.eq_zero_or_pos l.length with e | e
 ·have:l=[]:=List.eq_nil_of_length_eq_zero e;subst this;exact ⟨by decide,by show (0:Int)≤(n:Int);omega⟩
 ·rw [zrj e,List.getElem?_eq_getElem (by omega)];have:=h2 _ (List.getElem_mem (l:=l) (n:=l.length - 1) (by omega));show 0≤l[l.length - 1]+1∧l[l.length - 1]+1≤(n:Int);omega
def gro (l:List Int)(j:Nat):List (List Int):=(List.range j).map fun (i:Nat)=>l++[nx l+(i:Int)]
theorem zrl (l:List Int)(j:Nat):gro l (j+1)=gro l j++[l++[nx l+(j:Int)]]:=by unfold gro;rw [List.range_succ,List.map_append];rfl
theorem zrm (l:List Int)(j:Nat):(gro l j).length=j:=by unfold gro;simp
theorem zrn (n:Nat)(l:List Int):grw n l=gro l (n - (nx l).toNat):=rfl
def stI (n k i:Nat):List (List Int):=((sts n k).take i).flatMap (grw n)
theorem zro {n k i:Nat}(hi:i<(sts n k).length):stI n k (i+1)=stI n k i++grw n (sts n k)[i]:=by
 unfold stI;rw [List.take_succ_eq_append_getElem hi,List.flatMap_append];simp
theorem zrp (n k:Nat):stI n k (sts n k).length=sts n (k+1):=by unfold stI;rw [List.take_length];rfl
theorem zrq {n k i:Nat}:(stI n k i).length≤(sts n (k+1)).length:=by
 rw [← zrp];unfold stI;rw [List.take_length]
 conv=>rhs;rw [← List.take_append_drop i (sts n k),List.flatMap_append,List.length_append]
 omega
theorem zrr {n k i j:Nat}(hi:i<(sts n k).length)(hj:j≤n - (nx (sts n k)[i]).toNat):(stI n k i).length+j≤(sts n (k+1)).length:=by
 have h1:=zrq (n:=n) (k:=k) (i:=i+1);rw [zro hi,List.length_append,zrn,zrm] at h1;omega
theorem zrs {n k:Nat}(hn:n≤12)(hk:k≤n):(sts n k).length≤5000:=by
 rw [zmb,znS];have h1:=zob n (by omega) k (by omega);rw [znZ n k hk] at h1;omega
def alA (P:Int)(b:Bool)(p:List Int)(N:List (List Rat))(M:List Int)(acc:List (List Int))(c:List Int):List (List Int):=if zlR M c=true then srA P b p N acc c else acc
def alL (P:Int)(b:Bool)(p:List Int)(N:List (List Rat))(M:List Int)(cs:List (List Int)):List (List Int):=cs.foldl (alA P b p N M) []
theorem zrt {P:Int}{b:Bool}{p:List Int}{N:List (List Rat)}{M:List Int}{cs:List (List Int)}{i:Nat}(hi:i<cs.length):alL P b p N M (cs.take (i+1))=alA P b p N M (alL P b p N M (cs.take i)) cs[i]:=by
 unfold alL;rw [List.take_succ_eq_append_getElem hi,List.foldl_append];rfl
theorem zru {P:Int}{b:Bool}{p:List Int}{N:List (List Rat)}{M:List Int}(cs:List (List Int)):(alL P b p N M cs).length≤cs.length:=by
 have key:∀ (cs acc:List (List Int)),(cs.foldl (alA P b p N M) acc).length≤acc.length+cs.length:=by
  intro cs;induction cs with
  | nil=>intro acc;exact Nat.le_refl _
  | cons c cs ih =>
   intro acc
   have h1:=ih (alA P b p N M acc c)
   have h2:(alA P b p N M acc c).length≤acc.length+1:=by
    unfold alA;split
    ·exact znx ..
    ·omega
   rw [List.foldl_cons,List.length_cons]
   omega
 have:=key cs [];rw [List.length_nil,Nat.zero_add] at this;exact this
theorem zrv {P:Int}{b:Bool}{p:List Int}{N:List (List Rat)}{M:List Int}{n m:Nat}(hM:M.Pairwise (·<·))(hb:∀ x∈M,0≤x∧x<(n:Int)):alL P b p N M (sts n m)=srL P b p N (cho n m M n [] 0):=by
 rw [zlW hM hb,zmb];unfold zlV srL alL;rw [zn2];rfl
end
end Go.Proofs.YtiameffonflhgaaGreatDoor
