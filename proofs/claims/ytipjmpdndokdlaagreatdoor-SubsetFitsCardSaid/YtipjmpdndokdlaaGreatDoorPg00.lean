/- Walk: law 38's contains. Walk: law 38's holds. Walk: the law SubsetFits. A slice of ints that came in, read. -/
import Derived.Test.YtipjmpdndokdlaaGreatDoorPc43
import Derived.Test.YtipjmpdndokdlaaGreatDoorPc38
import Derived.Test.YtipjmpdndokdlaaGreatDoorPc44
import Derived.Test.YtipjmpdndokdlaaGreatDoorPc00
import Derived.ChangeSlices
import Derived.WideShapes
import Derived.ChangeShapes
import Derived.DataReads
set_option maxRecDepth 100000
set_option maxHeartbeats 4000000
namespace Go.Proofs.YtipjmpdndokdlaaGreatDoor
open Go.RowKit Go.Lib Go.Shelf
attribute [local go_sem] Oper.semAt_some
theorem any_take_next {l:List Int}{k:Nat}(hk:k<l.length)(y:Int):((l.take (k+1)).any fun x=>x == y)=(((l.take k).any fun x=>x == y) || ((l[k]?).getD 0 == y)):=by
 rw [List.take_succ_eq_append_getElem hk,List.any_append,List.getElem?_eq_getElem hk]
 simp
theorem any_full {l:List Int}(y:Int):((l.take l.length).any fun x=>x == y)=l.contains y:=by
 rw [List.take_length,Bool.eq_iff_iff,List.any_eq_true,List.contains_iff_mem]
 exact ⟨fun ⟨z,hz,e⟩=>by rw [← beq_iff_eq.1 e];exact hz,fun h=>⟨y,h,beq_self_eq_true y⟩⟩
theorem lcont_c (vl vm:Value)(l M:List Int)(w:World)(hl:Sl w vl (i64s l))(hm:Sl w vm (i64s M))(hl6:l.length≤1000)(hm6:M.length≤1000) :
  Calls Tryz.prog 16 #[vl,vm] w fun e w'=>e=.returned (.bool (M.all fun y=>l.contains y))∧Ext w w':=by
 obtain ⟨al,cl,rfl,_,_,_⟩:=hl.parts
 obtain ⟨am,cm,rfl,_,_,_⟩:=hm.parts
 rw [i64s_length] at *
 rw [i64s_length] at *
 have hcl:=sl_ints_at hl
 have hcm:=sl_ints_at hm
 have hnx:=fun k (hk:k<l.length) y=>any_take_next hk y
 have hfu:=fun y=>any_full (l:=l) y
 generalize hLl:l.length=L at *
 generalize hLm:M.length=N at *
 have HLl:=hid hLl;have HLm:=hid hLm;have Hcl:=hid hcl;have Hcm:=hid hcm;have Hnx:=hid hnx;have Hfu:=hid hfu
 clear hl hm hcl hcm hLl hLm hnx hfu
 obtain ⟨R,hR⟩:∃ R,R=(M.all fun y=>l.contains y):=⟨_,rfl⟩
 rw [← hR]
 have HR:=hid hR
 clear hR
 go_enter Tryz.func16,Tryz.ntmps16
 go_wp2_with fail
 go_loopw [5,6,7] (fun v5 v6 v7 wr=>∃ i:Nat,v5=.int .i64 i∧i≤N∧Hid (∀ y∈M.take i,l.contains y=true)∧Ext w wr) (fun v5 _ _ _=>N - (intOf v5).toNat)
 case atStart=>exact ⟨0,rfl,Nat.zero_le _,hid (fun y hy=>by simp at hy),Ext.refl _⟩
 case round =>
  obtain ⟨i,rfl,hi,HA,hE⟩:=hrel
  have HE:=hid hE
  by_cases hiN:i<N
  ·obtain ⟨b2,o2,rfl,hm0⟩:=Hcm.out i hiN
   have hi0:(0:Int)≤(i:Int):=by omega
   have hi1:(i:Int)<(N:Int):=by omega
   have Hm0:=hid (hE.cell hm0)
   clear hE hm0
   generalize hy:(M[i]?).getD 0=y at *
   have Hy:=hid hy
   clear hy
   go_wp2_with fail
   go_loopw [6,7] (fun v6 v7 ws=>∃ (k:Nat)(A:Bool),v7=.int .i64 k∧k≤L∧v6=.bool A∧Hid (A=((l.take k).any fun x=>x == y))∧Ext wr ws) (fun _ v7 _=>L - (intOf v7).toNat)
   case atStart=>exact ⟨0,false,rfl,Nat.zero_le _,rfl,hid (by simp),Ext.refl _⟩
   case round =>
    obtain ⟨k,A,rfl,hk,rfl,HAk,hEs⟩:=hrel
    have HEs:=hid hEs
    by_cases hkL:k<L
    ·obtain ⟨b1,o1,rfl,hc0⟩:=Hcl.out k hkL
     have c1:=(HE.out.trans hEs).cell hc0
     have c2:=hEs.cell Hm0.out
     have hk0:(0:Int)≤(k:Int):=by omega
     have hk1:(k:Int)<(L:Int):=by omega
     have hn:=Hnx.out k hkL y
     clear hEs hc0
     generalize (l[k]?).getD 0=x at *
     cases A with
     | true =>
      have Hn:=hid (show true=((l.take (k+1)).any fun x=>x == y) by rw [hn,← HAk.out,Bool.true_or])
      clear hn
      go_wp2_with fail
      go_quiet (fail)
      go_wp2_with fail
      go_roundw
      case rel=>exact ⟨k+1,true,by go_num,hkL,rfl,Hn,HEs.out.drewN _⟩
      case measure=>simp [intOf];omega
     | false =>
      by_cases hxy:x=y
      ·have f1:(x == y)=true:=by simpa using hxy
       have Hn:=hid (show true=((l.take (k+1)).any fun x=>x == y) by rw [hn,f1,Bool.or_true])
       clear hn hxy
       go_wp2_with fail
       go_quiet (fail)
       go_wp2_with fail
       go_roundw
       case rel=>exact ⟨k+1,true,by go_num,hkL,rfl,Hn,HEs.out.drewN _⟩
       case measure=>simp [intOf];omega
      ·have f1:(x == y)=false:=by simpa using hxy
       have Hn:=hid (show false=((l.take (k+1)).any fun x=>x == y) by rw [hn,f1,← HAk.out,Bool.or_false])
       clear hn hxy
       go_wp2_with fail
       go_quiet (fail)
       go_wp2_with fail
       go_roundw
       case rel=>exact ⟨k+1,false,by go_num,hkL,rfl,Hn,HEs.out.drewN _⟩
       case measure=>simp [intOf];omega
    ·obtain rfl:k=L:=by omega
     have hkL2:¬ (k:Int)<(k:Int):=by omega
     have hAk:=HAk.out
     rw [Hfu.out] at hAk
     have HEE:=hid (HE.out.trans HEs.out)
     clear hEs
     cases A with
     | true =>
      have Hnx2:=hid (show ∀ z∈M.take (i+1),l.contains z=true from fun z hz=>by
       have hl2:i<M.length:=by rw [HLm.out];exact hiN
       rw [List.take_succ_eq_append_getElem hl2] at hz
       rcases List.mem_append.1 hz with h | h
       ·exact HA.out z h
       ·rw [List.mem_singleton] at h
        have e:M[i]=y:=by have:=Hy.out;rw [List.getElem?_eq_getElem hl2] at this;exact this
        rw [h,e,← hAk])
      clear hAk
      go_wp2_with fail
      go_roundw
      case rel=>exact ⟨i+1,by go_num,hiN,Hnx2,HEE.out⟩
      case measure=>simp [intOf];omega
     | false =>
      have Hno:=hid (show (M.all fun z=>l.contains z)=false by
       rw [List.all_eq_false]
       have hl2:i<M.length:=by rw [HLm.out];exact hiN
       have e:M[i]=y:=by have:=Hy.out;rw [List.getElem?_eq_getElem hl2] at this;exact this
       exact ⟨y,by rw [← e];exact List.getElem_mem hl2,by rw [← hAk];simp⟩)
      clear hAk
      obtain rfl:R=false:=HR.out.trans Hno.out
      go_wp2_with fail
      go_ret
      exact ⟨rfl,HEE.out⟩
  ·obtain rfl:i=N:=by omega
   have hin:¬ (i:Int)<(i:Int):=by omega
   have Hyes:=hid (show (M.all fun z=>l.contains z)=true by
    rw [List.all_eq_true]
    intro z hz
    exact HA.out z (by rw [← HLm.out,List.take_length];exact hz))
   clear hE
   obtain rfl:R=true:=HR.out.trans Hyes.out
   go_wp2_with fail
   go_ret
   exact ⟨rfl,HE.out⟩
end Go.Proofs.YtipjmpdndokdlaaGreatDoor

namespace Go.Proofs.YtipjmpdndokdlaaGreatDoor
open Go.RowKit Go.Lib Go.Shelf
attribute [local go_sem] Oper.semAt_some
theorem properS_c (v:Value)(p:List Int)(rs:List Qw)(w:World)(he:Env w)(hs:ScV w v p rs)(hc:Wc p (rs.map Qw.x)) :
  Calls Tryz.prog 40 #[v] w fun e w'=>(∃ j1 j2 a1 n1 c1 a2 n2 c2,e=.returned (.tuple #[.agg #[.int .i64 j1,.int .i64 j2,.slice a1 n1 c1,.slice a2 n2 c2],.bool (tst 4 p (rs.map Qw.x)),.int .i64 0]))∧Ext w w' :=
 (proper_c v p rs w he hs hc).mono fun e w' ⟨⟨c,is,hr,ho⟩,hx⟩=>by
  have e1:is=tst 4 p (rs.map Qw.x):=by rw [tst_four];exact bool_is (ho.is.trans hc.pro_iff.symm)
  subst hr e1
  refine ⟨?_,hx⟩
  rcases ho with ⟨_,e,_⟩ | ⟨_,d,x,y,_,hv⟩
  ·obtain ⟨j1,j2,a1,n1,c1,a2,n2,c2,h⟩:=csh0_shape
   exact ⟨j1,j2,a1,n1,c1,a2,n2,c2,by rw [e,h]⟩
  ·obtain ⟨j1,j2,a1,n1,c1,a2,n2,c2,h⟩:=csh_shape hv
   exact ⟨j1,j2,a1,n1,c1,a2,n2,c2,by rw [h]⟩
theorem strictS_c (v:Value)(p:List Int)(rs:List Qw)(w:World)(he:Env w)(hs:ScV w v p rs)(hc:Wc p (rs.map Qw.x)) :
  Calls Tryz.prog 41 #[v] w fun e w'=>(∃ j1 j2 a1 n1 c1 a2 n2 c2,e=.returned (.tuple #[.agg #[.int .i64 j1,.int .i64 j2,.slice a1 n1 c1,.slice a2 n2 c2],.bool (tst 5 p (rs.map Qw.x)),.int .i64 0]))∧Ext w w' :=
 (strict_c v p rs w he hs hc).mono fun e w' ⟨⟨c,is,hr,ho⟩,hx⟩=>by
  have e1:is=tst 5 p (rs.map Qw.x):=by rw [tst_five];exact bool_is (ho.is.trans hc.str_iff2.symm)
  subst hr e1
  refine ⟨?_,hx⟩
  rcases ho with ⟨_,e,_⟩ | ⟨_,d,x,y,_,hv⟩
  ·obtain ⟨j1,j2,a1,n1,c1,a2,n2,c2,h⟩:=csh0_shape
   exact ⟨j1,j2,a1,n1,c1,a2,n2,c2,by rw [e,h]⟩
  ·obtain ⟨j1,j2,a1,n1,c1,a2,n2,c2,h⟩:=csh_shape hv
   exact ⟨j1,j2,a1,n1,c1,a2,n2,c2,by rw [h]⟩
theorem constantS_c (v:Value)(p:List Int)(rs:List Qw)(w:World)(he:Env w)(hs:ScV w v p rs)(hc:Wc p (rs.map Qw.x)) :
  Calls Tryz.prog 42 #[v] w fun e w'=>(∃ j1 j2 a1 n1 c1 a2 n2 c2,e=.returned (.tuple #[.agg #[.int .i64 j1,.int .i64 j2,.slice a1 n1 c1,.slice a2 n2 c2],.bool (tst 6 p (rs.map Qw.x)),.int .i64 0]))∧Ext w w' :=
 (constant_c v p rs w he hs hc).mono fun e w' ⟨⟨c,is,hr,ho⟩,hx⟩=>by
  have e1:is=tst 6 p (rs.map Qw.x):=by rw [tst_six];exact bool_is (ho.is)
  subst hr e1
  refine ⟨?_,hx⟩
  rcases ho with ⟨_,e,_⟩ | ⟨_,d,u,i,x,_,hv⟩
  ·obtain ⟨j1,j2,a1,n1,c1,a2,n2,c2,h⟩:=csh0_shape
   exact ⟨j1,j2,a1,n1,c1,a2,n2,c2,by rw [e,h]⟩
  ·obtain ⟨j1,j2,a1,n1,c1,a2,n2,c2,h⟩:=csh_shape hv
   exact ⟨j1,j2,a1,n1,c1,a2,n2,c2,by rw [h]⟩
theorem lholds_c (v:Value)(p:List Int)(rs:List Qw)(P:Int)(w:World)(he:Env w)(hv:ScV w v p rs)(hw:2≤P→P≤6→Wc p (rs.map Qw.x)) :
  Calls Tryz.prog 15 #[v,.int .i64 P] w fun e w'=>e=.returned (.tuple #[.bool (tst P p (rs.map Qw.x)),.int .i64 0])∧Ext w w':=by
 have hkc:=fun W sv (hc:Wc p (rs.map Qw.x))(hE:Ext w W)(hs:ScV W sv p rs)=>kind_c sv p rs W (he.ext hE) hs hc
 have hpr:=fun W sv (hc:Wc p (rs.map Qw.x))(hE:Ext w W)(hs:ScV W sv p rs)=>properS_c sv p rs W (he.ext hE) hs hc
 have hst:=fun W sv (hc:Wc p (rs.map Qw.x))(hE:Ext w W)(hs:ScV W sv p rs)=>strictS_c sv p rs W (he.ext hE) hs hc
 have hcs:=fun W sv (hc:Wc p (rs.map Qw.x))(hE:Ext w W)(hs:ScV W sv p rs)=>constantS_c sv p rs W (he.ext hE) hs hc
 obtain ⟨ap,cp,an,cn,rfl,hs⟩:=scv_let hv
 have hE0:Ext w (w.alloc (.cells #[.slice ap p.length cp,.slice an rs.length cn] 32)):=(Ext.refl w).alloc _
 have hb1:=BoxT.new 32 w (.slice ap p.length cp) (.slice an rs.length cn)
 have q0:=hb1.c0
 have q1:=hb1.c1
 have HE0:=hid hE0;have Hs:=hid (hs.ext hE0)
 clear hb1 hs hE0 hv he
 have t2:=tst_two (p:=p) (N:=rs.map Qw.x)
 have t3:=tst_three (p:=p) (N:=rs.map Qw.x)
 by_cases e2:P=2
 ·subst e2
  have hc:=hkc _ _ (hw (by omega) (by omega)) HE0.out Hs.out
  rw [t2]
  have Hc:=hid hc
  clear hkc hpr hst hcs hw hc t2 t3
  generalize kd p (rs.map Qw.x)=K at *
  go_enter Tryz.func15,Tryz.ntmps15
  go_wp2_with fail
  refine Hc.out.mono ?_
  rintro e w1 ⟨rfl,hx1⟩
  have Hx1:=hid (HE0.out.trans hx1)
  clear hx1 q0 q1
  by_cases hk:K=1
  ·have hk2:(K == 1)=true:=by simpa using hk
   have Hk:=hid (decide_eq_true hk)
   clear hk
   go_wp2_with fail
   go_ret2
   exact ⟨by rw [Hk.out] <;> rfl,Hx1.out⟩
  ·have hk2:(K == 1)=false:=by simpa using hk
   have Hk:=hid (decide_eq_false hk)
   clear hk
   go_wp2_with fail
   go_ret2
   exact ⟨by rw [Hk.out] <;> rfl,Hx1.out⟩
 by_cases e3:P=3
 ·subst e3
  have hc:=hkc _ _ (hw (by omega) (by omega)) HE0.out Hs.out
  rw [t3]
  have Hc:=hid hc
  clear hkc hpr hst hcs hw hc t2 t3
  generalize kd p (rs.map Qw.x)=K at *
  go_enter Tryz.func15,Tryz.ntmps15
  go_wp2_with fail
  refine Hc.out.mono ?_
  rintro e w1 ⟨rfl,hx1⟩
  have Hx1:=hid (HE0.out.trans hx1)
  clear hx1 q0 q1
  by_cases hk:K=2
  ·have hk2:(K == 2)=true:=by simpa using hk
   have Hk:=hid (decide_eq_true hk)
   clear hk
   go_wp2_with fail
   go_ret2
   exact ⟨by rw [Hk.out] <;> rfl,Hx1.out⟩
  ·have hk2:(K == 2)=false:=by simpa using hk
   have Hk:=hid (decide_eq_false hk)
   clear hk
   go_wp2_with fail
   go_ret2
   exact ⟨by rw [Hk.out] <;> rfl,Hx1.out⟩
 by_cases e4:P=4
 ·subst e4
  have hc:=hpr _ _ (hw (by omega) (by omega)) HE0.out Hs.out
  have Hc:=hid hc
  clear hkc hpr hst hcs hw hc t2 t3
  generalize tst 4 p (rs.map Qw.x)=T at *
  go_enter Tryz.func15,Tryz.ntmps15
  go_wp2_with fail
  refine Hc.out.mono ?_
  rintro e w1 ⟨⟨j1,j2,a1,n1,c1,a2,n2,c2,rfl⟩,hx1⟩
  have Hx1:=hid ((HE0.out.trans hx1).alloc (.cells #[.int .i64 j1,.int .i64 j2,.slice a1 n1 c1,.slice a2 n2 c2] 88))
  clear hx1 q0 q1
  go_wp2_with fail
  go_ret2
  exact ⟨rfl,Hx1.out⟩
 by_cases e5:P=5
 ·subst e5
  have hc:=hst _ _ (hw (by omega) (by omega)) HE0.out Hs.out
  have Hc:=hid hc
  clear hkc hpr hst hcs hw hc t2 t3
  generalize tst 5 p (rs.map Qw.x)=T at *
  go_enter Tryz.func15,Tryz.ntmps15
  go_wp2_with fail
  refine Hc.out.mono ?_
  rintro e w1 ⟨⟨j1,j2,a1,n1,c1,a2,n2,c2,rfl⟩,hx1⟩
  have Hx1:=hid ((HE0.out.trans hx1).alloc (.cells #[.int .i64 j1,.int .i64 j2,.slice a1 n1 c1,.slice a2 n2 c2] 88))
  clear hx1 q0 q1
  go_wp2_with fail
  go_ret2
  exact ⟨rfl,Hx1.out⟩
 by_cases e6:P=6
 ·subst e6
  have hc:=hcs _ _ (hw (by omega) (by omega)) HE0.out Hs.out
  have Hc:=hid hc
  clear hkc hpr hst hcs hw hc t2 t3
  generalize tst 6 p (rs.map Qw.x)=T at *
  go_enter Tryz.func15,Tryz.ntmps15
  go_wp2_with fail
  refine Hc.out.mono ?_
  rintro e w1 ⟨⟨j1,j2,a1,n1,c1,a2,n2,c2,rfl⟩,hx1⟩
  have Hx1:=hid ((HE0.out.trans hx1).alloc (.cells #[.int .i64 j1,.int .i64 j2,.slice a1 n1 c1,.slice a2 n2 c2] 88))
  clear hx1 q0 q1
  go_wp2_with fail
  go_ret2
  exact ⟨rfl,Hx1.out⟩
 have e:tst P p (rs.map Qw.x)=true:=by
  unfold tst
  rw [if_neg e2,if_neg e3,if_neg e4,if_neg e5,if_neg e6]
 rw [e]
 clear e hkc hpr hst hcs hw t2 t3
 have f2:(P == 2)=false:=by simpa using e2
 have f3:(P == 3)=false:=by simpa using e3
 have f4:(P == 4)=false:=by simpa using e4
 have f5:(P == 5)=false:=by simpa using e5
 have f6:(P == 6)=false:=by simpa using e6
 clear e2 e3 e4 e5 e6
 go_enter Tryz.func15,Tryz.ntmps15
 go_wp2_with fail
 go_ret2
 exact ⟨rfl,HE0.out⟩
end Go.Proofs.YtipjmpdndokdlaaGreatDoor

namespace Go.Proofs.YtipjmpdndokdlaaGreatDoor
open Go.RowKit Go.Lib Go.Shelf
attribute [local go_sem] Oper.semAt_some
theorem all_any (M:List Int)(l:List Int):(M.all fun y=>l.contains y)=!(M.any fun y=>!l.contains y):=by
 rw [List.not_any_eq_all_not]
 simp
theorem fitsL_c (d:Dl)(vl:Value)(l:List Int)(w:World)(he:Env w)(hd:d.Ok)(hvl:Sl w vl (i64s l)) :
  Calls Tryz.prog 4 #[d.v,vl] w fun e w'=>e=.returned (.bool true)∧Ext w w':=by
 have hkn:=fun W (hE:Ext w W)=>known38_c W (he.ext hE)
 have hmk:=fun W (hE:Ext w W)=>lmk_c d W (he.ext hE) hd
 have hrl:=dl_box d w
 have hun:=Tryz.underlying49
 have hin:=dl_info d
 obtain ⟨al,cl,rfl,hcl,_,_⟩:=hvl.parts
 rw [i64s_length] at *
 have hE0:Ext w (w.alloc (.cells d.cs 49)):=(Ext.refl w).alloc _
 have Hvl:=hid hvl
 have Hkn:=hid hkn;have Hmk:=hid hmk;have Hrl:=hid hrl;have Hun:=hid hun;have Hin:=hid hin;have HE0:=hid hE0;clear hkn hmk hrl hun hin hE0
 have He:=hid he;clear he hd hvl
 have hv:d.v=.agg d.cs:=rfl
 have Hv:=hid hv
 rw [hv]
 clear hv
 obtain ⟨L,hL⟩:∃ L,L=l.length:=⟨_,rfl⟩
 rw [← hL] at Hvl ⊢
 have HL:=hid hL
 clear hL
 rw [dl_lit]
 go_enter Tryz.func4,Tryz.ntmps4
 rw [← dl_lit]
 by_cases hL9:9<L
 ·have hLi:(9:Int)<(L:Int):=by omega
  go_wp2_with fail
  refine (Hkn.out _ HE0.out).mono ?_
  rintro e w1 ⟨rfl,hx1⟩
  have Hx1:=hid (HE0.out.trans hx1)
  clear hx1
  go_wp2_with fail
  refine (Hkn.out _ Hx1.out).mono ?_
  rintro e w2 ⟨rfl,hx2⟩
  have Hx2:=hid (Hx1.out.trans hx2)
  clear hx2
  go_wp2_with fail
  go_ret
  exact ⟨rfl,Hx2.out⟩
 ·have hLi:¬ (9:Int)<(L:Int):=by omega
  go_wp2_with fail
  refine (Hkn.out _ HE0.out).mono ?_
  rintro e w1 ⟨rfl,hx1⟩
  have hrl1:=Hrl.out w1 hx1
  have Hx1:=hid (HE0.out.trans hx1);have Hrl1:=hid hrl1
  clear hx1 hrl1
  have Hmk1:=hid (Hmk.out w1 Hx1.out)
  go_wp2_with (refine wpList_load_mid rfl 49 (.tmp 2) rfl w.heap.size 0 rfl d.cs.toList _ Hrl1.out Hun.out rfl Hin.out ?_)
  rw [← Hv.out]
  refine Hmk1.out.mono ?_
  rintro e w2 ⟨v2,rs,rfl,hq2,hc2,hx2⟩
  have hw2:=wl_wc d.wl hc2
  obtain ⟨ap,cp,an,cn,am,cm,rfl,hs2,hm2⟩:=hq2.let
  have hpos:=hw2.wd.pos
  have hfew:=hw2.few
  have hlm:(rs.map Qw.x).length=rs.length:=List.length_map ..
  rw [hlm] at hpos hfew
  obtain ⟨hqe,hm1,hmn,hP1,hP6,hM0,hML⟩:=dl_qry d hpos
  have hE3:=(Ext.refl w2).alloc (.cells #[.slice ap d.wl.p.length cp,.slice an rs.length cn,.int .i64 (d.m rs.length:Int),.int .i64 d.P,.slice am (d.M rs.length).length cm,.bool d.modes] 39)
  have hb3:=Box6.new w2 (.slice ap d.wl.p.length cp) (.slice an rs.length cn) (d.m rs.length:Int) d.P (.slice am (d.M rs.length).length cm) d.modes
  have hq3:=hq2.ext hE3
  have hx3:=(Hx1.out.trans hx2).trans hE3
  have hvl3:=hx3.sl Hvl.out
  have hck:=lchk_c _ d.wl.p rs _ _ _ _ _ (He.out.ext hx3) hq3 hw2.wd (by omega) hqe
  obtain ⟨q0,q1,q2,q3,q4,q5⟩:=hb3.cs
  have Hck:=hid hck;have Hq3:=hid hq3;have Hb3:=hid hb3;have Hx3:=hid hx3;have Hvl3:=hid hvl3;have Hw2:=hid hw2;have Hqe:=hid hqe;have HML:=hid hML;have Hs3:=hid (hs2.ext hE3);have Hm3:=hid (hE3.sl hm2)
  clear hck hq3 hb3 hx3 hvl3 hw2 hqe hML hq2 hs2 hm2 hE3 hx2 hc2 hM0 hlm Hmk1 Hkn Hmk Hrl Hrl1 Hun Hin
  generalize hn:rs.length=n at *
  generalize hMl:(d.M n).length=ML at *
  go_wp2_with fail
  generalize w2.alloc (.cells #[.slice ap d.wl.p.length cp,.slice an n cn,.int .i64 (d.m n:Int),.int .i64 d.P,.slice am ML cm,.bool d.modes] 39)=W3 at *
  refine Hck.out.mono ?_
  rintro e w4 ⟨rfl,hx4⟩
  have hft:=fits_c _ _ d.wl.p rs (d.m n:Int) d.P (d.M n) d.modes l w4 (He.out.ext (Hx3.out.trans hx4)) (Hq3.out.ext hx4) Hw2.out.wd (hx4.sl Hvl3.out) (by rw [← HL.out];omega) (by rw [hn];exact Hqe.out) (by rw [hMl];have:=HML.out;omega) (fun hse _ _=>by
   have h0:l ≠ []:=by intro e;rw [e] at hse;unfold subE at hse;rw [if_pos rfl] at hse;cases hse
   have hb:=sub_ok (n:=n) (l:=l) (by unfold subE at hse;rw [if_neg h0,hn] at hse;exact hse)
   exact sub_wc Hw2.out h0 (by rw [← HL.out];omega) (by rw [List.length_map,hn];exact hb.1) hb.2)
  rw [hn] at hft
  obtain ⟨q0,q1,q2,q3,q4,q5⟩:=(Hb3.out.ext hx4).cs
  have Hft:=hid hft;have Hx4:=hid hx4
  clear hft hx4
  go_wp2_with fail
  by_cases hse:subE n l=0
  ·have hln:l ≠ []:=by intro e;rw [e] at hse;unfold subE at hse;rw [if_pos rfl] at hse;cases hse
   have hl0:¬ L=0:=fun e=>hln (List.eq_nil_of_length_eq_zero (by rw [← HL.out];exact e))
   have hl1:¬ (L:Int)=0:=by omega
   have hs0:subFrom n l 0 l.length=0:=by unfold subE at hse;rw [if_neg hln] at hse;exact hse
   have hfv:fitV d.P d.wl.p (rs.map Qw.x) n (d.m n:Int) (d.M n) l=.tuple #[.bool (decide ((L:Int)=(d.m n:Int)) && ((d.M n).all (fun y=>l.contains y) && tst d.P d.wl.p (subN d.wl.p (rs.map Qw.x) l))),.int .i64 0]:=by
    unfold fitV
    rw [if_pos hse,all_any,HL.out]
   have hfo:=Hft.out
   rw [hfv] at hfo
   have hwsub:Wc d.wl.p (subN d.wl.p (rs.map Qw.x) l):=by
    have hb:=sub_ok hs0
    exact sub_wc Hw2.out hln (by rw [← HL.out];omega) (by rw [List.length_map,hn];exact hb.1) hb.2
   have hsb:=fun W sv (hE:Ext w4 W)(hs:ScV W sv d.wl.p rs)=>(subset_c sv (.slice al L cl) d.wl.p rs l W (He.out.ext ((Hx3.out.trans Hx4.out).trans hE)) hs Hw2.out.wd ((Hx4.out.trans hE).sl Hvl3.out) (by rw [← HL.out];omega)).mono fun e w' ⟨u,he,_,h2,hx⟩=>(show ∃ u out,e=Ending.returned (.tuple #[u,.int .i64 0])∧ScO w' W.heap.size u d.wl.p out∧out.map Qw.x=subN d.wl.p (rs.map Qw.x) l∧Ext W w' by
    rw [hn,hse] at he
    obtain ⟨out,ho,hm⟩:=h2 (by rw [hn];exact hse)
    exact ⟨u,out,he,ho,hm,hx⟩)
   have hix:=fun W (hE:Ext w4 W)=>lidx_c (.slice al L cl) l n W ((Hx4.out.trans hE).sl Hvl3.out) (by rw [← HL.out];omega)
   rw [hs0] at hix
   have hlh:=fun W sv out (hE:Ext w4 W)(hs:ScV W sv d.wl.p out)(hm:out.map Qw.x=subN d.wl.p (rs.map Qw.x) l)=>lholds_c sv d.wl.p out d.P W (He.out.ext ((Hx3.out.trans Hx4.out).trans hE)) hs (fun _ _=>by rw [hm];exact hwsub)
   have hlc:=fun W (hE:Ext w4 W)=>lcont_c (.slice al L cl) (.slice am ML cm) l (d.M n) W ((Hx4.out.trans hE).sl Hvl3.out) ((Hx4.out.trans hE).sl Hm3.out) (by rw [← HL.out];omega) (by rw [hMl];have:=HML.out;omega)
   have Hfo:=hid hfo;have Hsb:=hid hsb;have Hix:=hid hix;have Hlh:=hid hlh;have Hlc:=hid hlc
   clear hfo hsb hix hlh hlc hwsub hfv hse hs0 hln hl0
   have hT:∀ out:List Qw,out.map Qw.x=subN d.wl.p (rs.map Qw.x) l→tst d.P d.wl.p (out.map Qw.x)=tst d.P d.wl.p (subN d.wl.p (rs.map Qw.x) l):=fun out e=>by rw [e]
   generalize tst d.P d.wl.p (subN d.wl.p (rs.map Qw.x) l)=T at *
   generalize ((d.M n).all fun y=>l.contains y)=A at *
   have HT:=hid hT
   clear hT
   refine Hfo.out.mono ?_
   rintro e w5 ⟨rfl,hx5⟩
   obtain ⟨q0,q1,q2,q3,q4,q5⟩:=(Hb3.out.ext (Hx4.out.trans hx5)).cs
   have Hx5:=hid hx5
   clear hx5
   go_wp2_with fail
   refine (Hix.out w5 Hx5.out).mono ?_
   rintro e w6 ⟨rfl,hx6⟩
   have hX6:=Hx5.out.trans hx6
   obtain ⟨q0,q1,q2,q3,q4,q5⟩:=(Hb3.out.ext (Hx4.out.trans hX6)).cs
   have hsv6:=Hs3.out.ext (Hx4.out.trans hX6)
   have Hsb6:=hid (Hsb.out w6 _ hX6 hsv6);have HX6:=hid hX6
   clear hx6 hX6 hsv6
   go_wp2_with fail
   refine Hsb6.out.mono ?_
   rintro e w7 ⟨u7,out,rfl,hso,hout,hx7⟩
   obtain ⟨a7,c7,b7,d7,rfl,hs7⟩:=scv_let hso.scV
   have hb8:=BoxT.new 32 w7 (.slice a7 d.wl.p.length c7) (.slice b7 out.length d7)
   have hE8:=(Ext.refl w7).alloc (.cells #[.slice a7 d.wl.p.length c7,.slice b7 out.length d7] 32)
   have hX8:=HX6.out.trans (hx7.trans hE8)
   have hlh8:=Hlh.out _ _ out hX8 (hs7.ext hE8) hout
   rw [HT.out out hout] at hlh8
   have n0:=hb8.c0;have n1:=hb8.c1
   obtain ⟨q0,q1,q2,q3,q4,q5⟩:=(Hb3.out.ext (Hx4.out.trans hX8)).cs
   have Hlh8:=hid hlh8;have HX8:=hid hX8
   clear hso hout hx7 hs7 hb8 hE8 hX8 hlh8
   go_wp2_with fail
   refine Hlh8.out.mono ?_
   rintro e w9 ⟨rfl,hx9⟩
   have hX9:=HX8.out.trans hx9
   obtain ⟨q0,q1,q2,q3,q4,q5⟩:=(Hb3.out.ext (Hx4.out.trans hX9)).cs
   have Hlc9:=hid (Hlc.out w9 hX9);have HE9:=hid ((Hx3.out.trans Hx4.out).trans hX9)
   clear hX9 hx9 n0 n1
   by_cases hLm:(L:Int)=(d.m n:Int)
   ·have hLd:decide ((L:Int)=(d.m n:Int))=true:=decide_eq_true hLm
    cases T with
    | true =>
     go_wp2_with fail
     refine Hlc9.out.mono ?_
     rintro e w10 ⟨rfl,hx10⟩
     have HE10:=hid (HE9.out.trans hx10)
     clear hx10
     cases A <;> (go_wp2_with fail;go_ret;exact ⟨by simp,HE10.out⟩)
    | false =>
     cases A <;> (go_wp2_with fail;go_ret;exact ⟨by simp,HE9.out⟩)
   ·have hLd:decide ((L:Int)=(d.m n:Int))=false:=decide_eq_false hLm
    have f1:((L:Int) == (d.m n:Int))=false:=by simpa using hLm
    cases T <;> (go_wp2_with fail;go_ret;exact ⟨by simp,HE9.out⟩)
  ·have hfv:fitV d.P d.wl.p (rs.map Qw.x) n (d.m n:Int) (d.M n) l=.tuple #[.bool false,.int .i64 (subE n l)]:=by unfold fitV;rw [if_neg hse]
   have hfo:=Hft.out
   rw [hfv] at hfo
   have Hfo:=hid hfo
   clear hfo hfv
   by_cases hl0:L=0
   ·have hln:l=[]:=by have:=HL.out;rw [hl0] at this;exact List.eq_nil_of_length_eq_zero this.symm
    have he13:subE n l=13:=by unfold subE;rw [if_pos hln]
    rw [he13] at Hfo
    subst hl0
    refine Hfo.out.mono ?_
    rintro e w5 ⟨rfl,hx5⟩
    have Hx5:=hid ((Hx3.out.trans Hx4.out).trans hx5)
    clear hx5 q0 q1 q2 q3 q4 q5
    go_wp2_with fail
    go_ret
    exact ⟨rfl,Hx5.out⟩
   ·have hl1:¬ (L:Int)=0:=by omega
    have hln:l ≠ []:=by intro e;rw [e] at HL;exact hl0 HL.out
    have hes:subE n l=subFrom n l 0 l.length:=by unfold subE;rw [if_neg hln]
    rw [hes] at Hfo hse
    refine Hfo.out.mono ?_
    rintro e w5 ⟨rfl,hx5⟩
    obtain ⟨q0,q1,q2,q3,q4,q5⟩:=(Hb3.out.ext (Hx4.out.trans hx5)).cs
    have hix:=lidx_c (.slice al L cl) l n w5 ((Hx4.out.trans hx5).sl Hvl3.out) (by rw [← HL.out];omega)
    have Hix:=hid hix;have Hx5:=hid ((Hx3.out.trans Hx4.out).trans hx5)
    clear hix hx5
    generalize subFrom n l 0 l.length=E at *
    have f1:(E == 0)=false:=by simpa using hse
    have f2:(E != 0)=true:=by simpa using hse
    go_wp2_with fail
    refine Hix.out.mono ?_
    rintro e w6 ⟨rfl,hx6⟩
    have Hx6:=hid (Hx5.out.trans hx6)
    clear hx6 q0 q1 q2 q3 q4 q5
    go_wp2_with fail
    go_ret
    exact ⟨by simp,Hx6.out⟩
end Go.Proofs.YtipjmpdndokdlaaGreatDoor

namespace Go.Proofs.YtipjmpdndokdlaaGreatDoor
open Go.ChangeShapes Go.WideShapes Go.RowKit Go.Lib
theorem sl_in {H:Type}{enc:TypeId × Value→H}{r:Reach}{b0:Nat}{w:World}{base:Nat}{spare:Nat→Bool}{held:Bool}{t:TypeId}{v:Value}{d:DataW H}{p:List MemPlace}(ht:Tryz.prog.underlying t=some (.slice 3))(hv:Value.okWide Tryz.prog w r b0 t v)(h:DataW.Trod enc Tryz.prog w base spare held t v d p) :
  ∃ xs:List Int,Sl w v (i64s xs)∧∀ z∈xs,(Lit.int .i64 z).wf=true:=by
 obtain ⟨a,len,cap,rfl⟩:=okWide_slice ht hv
 obtain ⟨fuel,hf⟩:=h
 rcases open_ints ht Tryz.underlying3 (by kernel_rfl) hf with ⟨h1,_⟩ | ⟨a',len',cap',zs,h1,_,hl,hm,hz,_,hc,hw⟩
 ·simp only [Value.cells,List.cons.injEq,Value.slice.injEq,and_true] at h1
  obtain ⟨rfl,rfl,rfl⟩:=h1
  exact ⟨[],.inl ⟨none,0,rfl,Nat.zero_le _,rfl⟩,fun z h=>by cases h⟩
 ·simp only [Value.cells,List.cons.injEq,Value.slice.injEq,and_true] at h1
  obtain ⟨rfl,rfl,rfl⟩:=h1
  have hzl:len≤zs.length:=by rw [hz];split <;> omega
  refine ⟨zs.take len,?_,fun z h=>hw z (List.mem_of_mem_take h)⟩
  rcases Nat.eq_zero_or_pos len with h0 | h0
  ·subst h0
   exact .inl ⟨_,cap,rfl,hm,by simp [i64s]⟩
  ·have h00:=hc 0 (by omega)
   obtain ⟨b,off,sp⟩:=a'
   have hs:=World.cell?_spot h00
   have hs':sp=none:=by
    cases sp with
    | none=>rfl
    | some s=>simp [Addr.add] at hs
   subst hs'
   refine .inr ⟨b,off,cap,?_,?_,hm,fun i u hu=>?_⟩
   ·rw [i64s_length,List.length_take,Nat.min_eq_left hzl]
   ·rw [i64s_length,List.length_take,Nat.min_eq_left hzl];exact hl
   ·have hi:i<(zs.take len).length:=by
     have:=(List.getElem?_eq_some_iff.1 hu).1
     rwa [i64s_length] at this
    rw [i64s_at hi] at hu
    have hi2:i<len:=by rw [List.length_take] at hi;omega
    have:=hc i (by omega)
    have e:nthI (zs.take len) i=zs.getD i 0:=by
     unfold nthI
     rw [List.getD_eq_getElem?_getD,List.getElem?_take_of_lt hi2,List.getD_eq_getElem?_getD]
    rw [← e,Option.some.inj hu] at this
    rwa [show ((⟨b,off,none⟩:Addr).add i)=⟨b,off+i,none⟩ by unfold Addr.add;split <;> simp_all] at this
end Go.Proofs.YtipjmpdndokdlaaGreatDoor
