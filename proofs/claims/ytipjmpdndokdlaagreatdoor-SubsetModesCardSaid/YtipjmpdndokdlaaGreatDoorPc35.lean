/- Walks: scale.Subset. Walks: subset: a query as data; checkNotes, Check. -/
import Derived.Test.YtipjmpdndokdlaaGreatDoorPc28
import Derived.Test.YtipjmpdndokdlaaGreatDoorPc29
import Derived.Test.YtipjmpdndokdlaaGreatDoorPc34
set_option maxRecDepth 100000
set_option maxHeartbeats 4000000
namespace Go.Proofs.YtipjmpdndokdlaaGreatDoor
open Go.RowKit Go.Lib Go.Shelf
attribute [local go_sem] Oper.semAt_some
/-- Behind the list of indices. -/
def SubCut (W7 : World) (j : Nat) (vals : List Int) (v83 v84 v85 : Value) (wx : World) : Prop:=∃ g c,v83=.slice (some ⟨g,0,none⟩) (j+1) c ∧ v84=.int .i64 ((j : Int)+1) ∧ v85=.int .i64 0 ∧ wx.ownsRow W7.heap.size 3 1 (.slice (some ⟨g,0,none⟩) (j+1) c) (j+1) (i64s vals) ∧ Ext W7 wx
theorem row_cellI {W:World}{B g n c i:Nat}{L:List Int}{z:Int}{T:TypeId}(h:W.ownsRow B T 1 (.slice (some ⟨g,0,none⟩) n c) n (i64s L))(hz:L[i]?=some z):W.cell? ⟨g,i,none⟩=some (.int .i64 z):=by
 obtain ⟨a',c',e',_,_,hcc⟩:=(sl_own h).parts
 obtain ⟨b',off',e2,hc'⟩:=hcc i (.int .i64 z) (by unfold i64s;rw [List.getElem?_map,hz];rfl)
 rw [e2] at e'
 injection e' with e3 _ _
 injection e3 with e4
 injection e4 with e5 e6
 subst e5
 subst e6
 rwa [Nat.zero_add] at hc'
theorem subE_nil (n:Nat):subE n []=13:=rfl
theorem subset_c (v vl:Value)(p:List Int)(rs:List Qw)(l:List Int)(w:World)(he:Env w)(hv:ScV w v p rs)(h:Wd p (rs.map Qw.x))(hvl:Sl w vl (i64s l))(hl10:l.length≤60) :
  Calls Tryz.prog 14 #[v,vl] w fun e w'=>∃ u,e=.returned (.tuple #[u,.int .i64 (subE rs.length l)])∧(subE rs.length l ≠ 0→u=.agg #[.slice none 0 0,.slice none 0 0])∧(subE rs.length l=0→∃ out,ScO w' w.heap.size u p out∧out.map Qw.x=subN p (rs.map Qw.x) l)∧Ext w w':=by
 obtain ⟨j0,hj,hy0,hy1,hy2⟩:=info_parts info_size
 obtain ⟨i0,hi,hz0,hz1,hz2⟩:=info_parts info_int
 have hpe:primesErr p=0∧p.length≤100∧0<p.length:=by rcases h.pr with ⟨e,_⟩ | ⟨e,_⟩ <;> rw [e] <;> decide
 have hck:=fun W (hE:Ext w W)=>scCheck_c v p rs W (he.ext hE) (hv.ext hE) h.right
 have hnt:=fun (k:Int)(h0:-1000≤k)(h1:k≤1000) W (hE:Ext w W)=>nt_c v p rs k W (he.ext hE) (hv.ext hE) h h0 h1
 have hfew:=h.few
 have hL:(rs.map Qw.x).length=rs.length:=List.length_map ..
 rw [hL] at hfew
 obtain ⟨vp,vn,rfl,hp,hs,hmr⟩:=hv
 have hsb:=fun (k m:Int)(h0:-1000≤k)(h1:k≤1000)(g0:-1000≤m)(g1:m≤1000) W va vb (hE:Ext w W)(ha:Rd W va (nt p (rs.map Qw.x) k))(hb:Rd W vb (nt p (rs.map Qw.x) m))=>sSub_c vp va vb p _ _ W (he.ext hE) (hE.sl hp) ha hb hpe.1 (h.ntlen k) (h.ntlen m) (h.nt_quick k h0 h1).1 (h.nt_quick m g0 g1).1 (h.nt_sub_quick k m h0 h1 g0 g1).1
 have hcp:=fun W (hE:Ext w W)=>cloneP_c vp p W (hE.sl hp) (by omega) (by intro e;rw [e] at hpe;exact absurd hpe.2.2 (by simp))
 obtain ⟨ap,cp,rfl,_,_,_⟩:=hp.parts
 obtain ⟨an,cn,rfl,_,_,_⟩:=hs.parts
 obtain ⟨al,cl,rfl,_,hcl,hlc⟩:=hvl.parts
 have hlat:∀ W,Ext w W→∀ k,k<l.length→∃ b off,al=some ⟨b,off,none⟩∧W.cell? ⟨b,off+k,none⟩=some (.int .i64 ((l[k]?).getD 0)):=fun W hE k hk=>by
  obtain ⟨b,off,e,hc⟩:=hlc k (.int .i64 ((l[k]?).getD 0)) (by unfold i64s;rw [List.getElem?_map,List.getElem?_eq_getElem hk];rfl)
  exact ⟨b,off,e,hE.cell hc⟩
 rw [i64s_length] at *
 rw [i64s_length] at *
 rw [qwc_length] at *
 generalize hn:rs.length=n at *
 have hE0:Ext w ((w.alloc (.cells #[.slice ap p.length cp,.slice an n cn] 32)).alloc (.cells #[.slice none 0 0,.slice none 0 0] 32)):=((Ext.refl w).alloc _).alloc _
 have b1:=(BoxT.new 32 w (.slice ap p.length cp) (.slice an n cn)).ext ((Ext.refl _).alloc (.cells #[.slice none 0 0,.slice none 0 0] 32))
 have b2:=BoxT.new 32 (w.alloc (.cells #[.slice ap p.length cp,.slice an n cn] 32)) (.slice none 0 0) (.slice none 0 0)
 rw [World.size_alloc] at b2
 have Hck:=hid hck;have Hnt:=hid hnt;have Hsb:=hid hsb;have Hcp:=hid hcp;have HE0:=hid hE0;have B1:=hid b1;have B2:=hid b2;have Hn:=hid hn;have Hlat:=hid hlat
 clear hp hs hmr he h hpe hck hnt hsb hcp hE0 b1 b2 hL hn hvl hlc hlat
 go_enter Tryz.func14,Tryz.ntmps14
 have q0:=B1.out.c0
 have q1:=B1.out.c1
 go_wp2_with fail
 refine (Hck.out _ HE0.out).mono ?_
 rintro e w1 ⟨rfl,hx1⟩
 have hK1:K0 32 w w1 (w.heap.size+1):=⟨HE0.out.trans hx1,_,_,B2.out.ext hx1⟩
 have q0:=(B1.out.ext hx1).c0
 have q1:=(B1.out.ext hx1).c1
 have k0:=hK1.res.c0;have k1:=hK1.res.c1;have z0:=hK1.res.fz 0;have z1:=hK1.res.fz 1
 have Hx1:=hid hx1;have HK1:=hid hK1
 clear hx1 hK1
 by_cases hl0:l.length=0
 ·have hnil:l=[]:=List.length_eq_zero_iff.1 hl0
  have Hnil:=hid hnil
  clear hnil
  go_wp2_with fail
  obtain ⟨hb6,hx6⟩:=HK1.out.fin (Nat.le_succ _) (.slice none 0 0) (.slice none 0 0)
  have hd0:=hb6.c0
  have hd1:=hb6.c1
  exact bodyPost_ret (v:=.tuple #[.agg #[.slice none 0 0,.slice none 0 0],.int .i64 13]) (by simp [results,Tryz.results14,go_sem,hd0,hd1]) rfl ⟨_,by rw [Hnil.out,subE_nil],fun _=>rfl,fun h=>absurd (show (13:Int)=0 by rw [← subE_nil n,← Hnil.out];exact h) (by decide),hx6⟩
 ·have hne:l ≠ []:=fun e=>hl0 (by rw [e];rfl)
  have hse:subE n l=subFrom n l 0 l.length:=by unfold subE;rw [if_neg hne]
  have Hne:=hid hne;have Hse:=hid hse
  generalize hLl:l.length=L at *
  have HLl:=hid hLl
  clear hne hse hLl
  go_wp2_with fail
  go_loopw [7,8,28] (fun v7 v8 v28 wr=>∃ k:Nat,v28=.int .i64 k∧k≤L∧Hid (subFrom n l 0 L=subFrom n l k (L - k))∧wr=w1) (fun _ _ v28 _=>L - (intOf v28).toNat)
  case atStart=>exact ⟨0,rfl,Nat.zero_le _,hid rfl,rfl⟩
  case round =>
   obtain ⟨k,rfl,hk,HS,rfl⟩:=hrel
   by_cases hkl:k<L
   ·obtain ⟨b,off,rfl,hc⟩:=Hlat.out wr (HE0.out.trans Hx1.out) k hkl
    have hgo:stepE n l k=0→subFrom n l 0 L=subFrom n l (k+1) (L - (k+1)):=fun e=>by
     have:=sub_go (n:=n) (l:=l) (k:=k) (by rw [HLl.out];exact hkl) e
     rw [HLl.out] at this
     exact HS.out.trans this
    have hst:stepE n l k ≠ 0→subFrom n l 0 L=stepE n l k:=fun e=>by
     have:=sub_stop (n:=n) (l:=l) (k:=k) (by rw [HLl.out];exact hkl) e
     rw [HLl.out] at this
     exact HS.out.trans this
    have hun:stepE n l k=if (l[k]?).getD 0<0∨(n:Int)≤(l[k]?).getD 0 then 3 else if 0<k∧(l[k]?).getD 0≤(l[k - 1]?).getD 0 then 6 else 0:=rfl
    have hpv:=fun (h0:0<k)=>Hlat.out wr (HE0.out.trans Hx1.out) (k - 1) (by omega)
    generalize (l[k]?).getD 0=x at *
    generalize (l[k - 1]?).getD 0=y at *
    have hk0:(0:Int)≤(k:Int):=by omega
    have hk1:(k:Int)<(L:Int):=by omega
    have Hgo:=hid hgo;have Hst:=hid hst;have Hun:=hid hun;have Hpv:=hid hpv
    clear hgo hst hun hpv
    by_cases hx0:x<0
    ·have hec:subE n l=3:=by
      have hs:stepE n l k=3:=by rw [Hun.out,if_pos (.inl hx0)]
      exact Hse.out.trans ((Hst.out (by rw [hs];decide)).trans hs)
     have Hec:=hid hec
     clear hec
     rcases Nat.eq_zero_or_pos k with hk00 | hk00
     ·subst hk00
      rw [Nat.add_zero] at hc
      go_wp2_with fail
      obtain ⟨hb6,hx6⟩:=HK1.out.fin (Nat.le_succ _) (.slice none 0 0) (.slice none 0 0)
      have hd0:=hb6.c0
      have hd1:=hb6.c1
      exact bodyPost_ret (v:=.tuple #[.agg #[.slice none 0 0,.slice none 0 0],.int .i64 3]) (by simp [results,Tryz.results14,go_sem,hd0,hd1]) rfl ⟨_,by rw [Hec.out],fun _=>rfl,fun h=>absurd (show (3:Int)=0 by rw [← Hec.out];exact h) (by decide),hx6⟩
     ·go_wp2_with fail
      obtain ⟨hb6,hx6⟩:=HK1.out.fin (Nat.le_succ _) (.slice none 0 0) (.slice none 0 0)
      have hd0:=hb6.c0
      have hd1:=hb6.c1
      exact bodyPost_ret (v:=.tuple #[.agg #[.slice none 0 0,.slice none 0 0],.int .i64 3]) (by simp [results,Tryz.results14,go_sem,hd0,hd1]) rfl ⟨_,by rw [Hec.out],fun _=>rfl,fun h=>absurd (show (3:Int)=0 by rw [← Hec.out];exact h) (by decide),hx6⟩
    ·by_cases hxn:(n:Int)≤x
     ·have hec:subE n l=3:=by
       have hs:stepE n l k=3:=by rw [Hun.out,if_pos (.inr hxn)]
       exact Hse.out.trans ((Hst.out (by rw [hs];decide)).trans hs)
      have Hec:=hid hec
      clear hec
      rcases Nat.eq_zero_or_pos k with hk00 | hk00
      ·subst hk00
       rw [Nat.add_zero] at hc
       go_wp2_with fail
       obtain ⟨hb6,hx6⟩:=HK1.out.fin (Nat.le_succ _) (.slice none 0 0) (.slice none 0 0)
       have hd0:=hb6.c0
       have hd1:=hb6.c1
       exact bodyPost_ret (v:=.tuple #[.agg #[.slice none 0 0,.slice none 0 0],.int .i64 3]) (by simp [results,Tryz.results14,go_sem,hd0,hd1]) rfl ⟨_,by rw [Hec.out],fun _=>rfl,fun h=>absurd (show (3:Int)=0 by rw [← Hec.out];exact h) (by decide),hx6⟩
      ·go_wp2_with fail
       obtain ⟨hb6,hx6⟩:=HK1.out.fin (Nat.le_succ _) (.slice none 0 0) (.slice none 0 0)
       have hd0:=hb6.c0
       have hd1:=hb6.c1
       exact bodyPost_ret (v:=.tuple #[.agg #[.slice none 0 0,.slice none 0 0],.int .i64 3]) (by simp [results,Tryz.results14,go_sem,hd0,hd1]) rfl ⟨_,by rw [Hec.out],fun _=>rfl,fun h=>absurd (show (3:Int)=0 by rw [← Hec.out];exact h) (by decide),hx6⟩
     ·rcases Nat.eq_zero_or_pos k with hk00 | hk00
      ·subst hk00
       rw [Nat.add_zero] at hc
       have hs:stepE n l 0=0:=by rw [Hun.out,if_neg (by omega),if_neg (by omega)]
       have Hnx:=hid (Hgo.out hs)
       clear hs
       go_wp2_with fail
       go_roundw
       case rel=>exact ⟨1,by go_num,by omega,Hnx,trivial⟩
       case measure=>simp [intOf];omega
      ·obtain ⟨j,rfl⟩:∃ j,k=j+1:=⟨k - 1,by omega⟩
       obtain ⟨b',off',e',hc'⟩:=Hpv.out hk00
       cases e'
       rw [Nat.add_sub_cancel] at hc'
       have hwj:IntKind.i64.wrap (((j+1:Nat):Int) - 1)=(j:Int):=by rw [show (((j+1:Nat):Int) - 1)=(j:Int) by omega];exact IntWalk.i64_in _ (by omega)
       have hwj2:IntKind.i64.wrap (j:Int)=(j:Int):=IntWalk.i64_in _ (by omega)
       have hj0:(0:Int)≤(j:Int):=by omega
       have hj1:(j:Int)<(L:Int):=by omega
       have hjc:((j+1:Nat):Int)=(j:Int)+1:=by omega
       have hjp:(0:Int)<(j:Int)+1:=by omega
       by_cases hxy:x≤y
       ·have hec:subE n l=6:=by
         have hs:stepE n l (j+1)=6:=by rw [Hun.out,if_neg (by omega),if_pos ⟨hk00,hxy⟩]
         exact Hse.out.trans ((Hst.out (by rw [hs];decide)).trans hs)
        have Hec:=hid hec
        clear hec
        go_wp2_with fail
        obtain ⟨hb6,hx6⟩:=HK1.out.fin (Nat.le_succ _) (.slice none 0 0) (.slice none 0 0)
        have hd0:=hb6.c0
        have hd1:=hb6.c1
        exact bodyPost_ret (v:=.tuple #[.agg #[.slice none 0 0,.slice none 0 0],.int .i64 6]) (by simp [results,Tryz.results14,go_sem,hd0,hd1]) rfl ⟨_,by rw [Hec.out],fun _=>rfl,fun h=>absurd (show (6:Int)=0 by rw [← Hec.out];exact h) (by decide),hx6⟩
       ·have hs:stepE n l (j+1)=0:=by rw [Hun.out,if_neg (by omega),if_neg (fun g=>hxy g.2)]
        have Hnx:=hid (Hgo.out hs)
        clear hs
        go_wp2_with fail
        go_roundw
        case rel=>exact ⟨j+1+1,by go_num,by omega,Hnx,trivial⟩
        case measure=>simp [intOf];omega
   ·have hkL:k=L:=by omega
    have hec:subE n l=0:=by
     rw [Hse.out,HS.out,hkL,Nat.sub_self]
     rfl
    have Hec:=hid hec
    clear hec
    subst hkL
    obtain ⟨hin,hup⟩:=sub_ok (n:=n) (l:=l) (by rw [HLl.out,← Hse.out];exact Hec.out)
    obtain ⟨x0,t0,hlx⟩:∃ x t,l=x::t:=by cases hl:l with | nil=>exact absurd hl Hne.out | cons x t=>exact ⟨x,t,rfl⟩
    have hx0b:=hin x0 (by rw [hlx];exact List.mem_cons_self ..)
    obtain ⟨b,off,rfl,hc0⟩:=Hlat.out wr (HE0.out.trans Hx1.out) 0 (by omega)
    rw [hlx,List.getElem?_cons_zero,Option.getD_some,Nat.add_zero] at hc0
    have hnk:=Hnt.out x0 (by omega) (by omega)
    have htl:∀ W,Ext w W→∀ i z,t0[i]?=some z→W.cell? ⟨b,off+1+i,none⟩=some (.int .i64 z):=fun W hE i z hz=>by
     have hik:i+1<k:=by
      have h1:=(List.getElem?_eq_some_iff.1 hz).1
      rw [← HLl.out,hlx,List.length_cons];omega
     obtain ⟨b',off',e',hc'⟩:=Hlat.out W hE (i+1) hik
     cases e'
     rw [hlx,List.getElem?_cons_succ,hz,Option.getD_some] at hc'
     rw [show off+1+i=off+(i+1) by omega]
     exact hc'
    have htk:t0.length+1=k:=by rw [← HLl.out,hlx,List.length_cons]
    have Hin:=hid hin;have Hup:=hid hup;have Hlx:=hid hlx;have Hnk:=hid hnk;have Htl:=hid htl
    clear hin hup hlx hnk htl
    have hk1:(0:Int)<(k:Int):=by omega
    have hk2:0<k:=by omega
    obtain ⟨j,hjk⟩:∃ j,k=j+1:=⟨k - 1,by omega⟩
    subst hjk
    have hj1':(1:Int)≤(j:Int)+1:=by omega
    have htj:t0.length=j:=by omega
    obtain ⟨o2,ho2⟩:∃ o2,o2=if cl=1 then off else off+1:=⟨_,rfl⟩
    have hse2:(if cl=1 then some (⟨b,off,none⟩:Addr) else some ⟨b,off+1,none⟩)=some ⟨b,o2,none⟩:=by rw [ho2];split <;> rfl
    have hci:=fun W (hE:Ext w W)=>cloneI_c b o2 (cl - 1) t0 W (by omega) (fun i z hz=>by
     have hi:=(List.getElem?_eq_some_iff.1 hz).1
     have hcl2:j+1≤cl:=hcl
     rw [ho2,if_neg (by omega)]
     exact Htl.out W hE i z hz)
    rw [htj] at hci
    have Hci:=hid hci;have Htj:=hid htj
    clear hci ho2 htk htj
    go_wp2_with fail
    have q0:=((Ext.refl wr).drew).cell q0
    have q1:=((Ext.refl wr).drew).cell q1
    have hc0:=((Ext.refl wr).drew).cell hc0
    have HX:=hid (Ext.refl wr).drew
    go_region_held3 (fun w'=>Ext wr w'∧w'.cell? ⟨w.heap.size,0,none⟩=some (.slice ap p.length cp)∧w'.cell? ⟨w.heap.size,1,none⟩=some (.slice an n cn)∧w'.cell? ⟨b,off,none⟩=some (.int .i64 x0))
     (first | (with_reducible assumption) | exact ⟨(Ext.refl wr).drew,q0,q1,hc0⟩)
     (first
      | (go_at_call 36;refine (Hnk.out _ (HE0.out.trans (Hx1.out.trans HX.out))).mono ?_;rintro e w2 ⟨g1,rfl,ho,hx⟩;have HO:=hid ho.rd;have hS3:Ext wr w2∧w2.cell? ⟨w.heap.size,0,none⟩=some (.slice ap p.length cp)∧w2.cell? ⟨w.heap.size,1,none⟩=some (.slice an n cn)∧w2.cell? ⟨b,off,none⟩=some (.int .i64 x0):=⟨HX.out.trans hx,hx.cell q0,hx.cell q1,hx.cell hc0⟩;have HX:=hid (HX.out.trans hx);clear ho hx))
    all_goals
     clear hS3 q0 q1 hc0 z0 z1 k0 k1
     have hX2:=Hx1.out.trans HX.out
     have q0:=(B1.out.ext hX2).c0
     have q1:=(B1.out.ext hX2).c1
     have HX2:=hid hX2
     clear hX2
     go_wp2_with fail
     refine (Hcp.out w2 (HE0.out.trans HX2.out)).mono ?_
     rintro e w6 ⟨u6,rfl,ho6,hx6⟩
     obtain ⟨a6,c6,rfl⟩:=own_shape ho6
     have Hx6:=hid (HX2.out.trans hx6)
     have Ho6:=hid (own_mono ho6 (HE0.out.trans HX2.out).size)
     have Ho16:=hid (hx6.rd HO.out)
     clear ho6 hx6 q0 q1
     have Hb7:=hid (BoxT.new 32 w6 (.slice a6 p.length c6) (.slice none 0 0))
     have H6x:Hid (Ext w6 (w6.alloc (.cells #[.slice a6 p.length c6,.slice none 0 0] 32))):=hid ((Ext.refl w6).alloc _)
     go_upto_region 18 with (fail)
     have hwx:IntKind.i64.wrap (x0+(n:Int))=x0+(n:Int):=IntWalk.i64_in _ (by omega)
     have hB7:=Hb7.out
     have hE7:=H6x.out
     generalize hW7:w6.alloc (.cells #[.slice a6 p.length c6,.slice none 0 0] 32)=W7 at *
     have hE67:=Hx6.out.trans hE7
     have q0:=(B1.out.ext hE67.drew).c0
     have q1:=(B1.out.ext hE67.drew).c1
     have hwE7:=HE0.out.trans hE67
     obtain ⟨b0',off0',e0',hc0'⟩:=Hlat.out W7.drew hwE7.drew 0 (by omega)
     cases e0'
     rw [Hlx.out,List.getElem?_cons_zero,Option.getD_some,Nat.add_zero] at hc0'
     have hm3:j+1≤maxLen:=by unfold maxLen;omega
     have hm4:(j+1) * 8≤140737488355328:=by omega
     have HE67:=hid hE67;have HwE7:=hid hwE7;have HB7:=hid hB7;have HE7:=hid hE7
     have HV:=hid (Ext.refl W7).drew
     clear hB7 hE7 hE67 hwE7 Hb7 H6x
     go_cut [83,84,85] from 72 to 86 (fun v83 v84 v85 wx=>SubCut W7 j (t0++[x0+(n:Int)]) v83 v84 v85 wx)
     case first =>
      go_region_law (first
      | (go_simp;go_at_call 37;refine (Hci.out _ HwE7.out.drew).mono ?_;rintro e V1 ⟨uc,rfl,hoc,hnc,hx⟩;have hoc':=hoc;unfold OwnI at hoc';rw [Htj.out] at hoc';obtain ⟨ac,cc,rfl⟩:=own_shape hoc';have q0:=hx.cell q0;have q1:=hx.cell q1;have hc0':=hx.cell hc0';have Hoc:=hid hoc';have Hfirst:=hid hx;have HV1:=hid (HV.out.trans hx);clear hoc hoc' hx hnc)
      | (go_simp;go_at_call 37;refine (Hci.out _ (HwE7.out.drew.alloc _)).mono ?_;rintro e V1 ⟨uc,rfl,hoc,hnc,hx⟩;have hoc':=hoc;unfold OwnI at hoc';rw [Htj.out] at hoc';obtain ⟨ac,cc,rfl⟩:=own_shape hoc';have Hoc:=hid hoc';have Hsecond:=hid hx;have HV1:=hid ((HV.out.alloc _).trans hx);clear hoc hoc' hx hnc)
      | (have _t:=Hfirst;refine step_append_lies _ rfl (.tmp 74) (.tmp 82) 28 rfl W7.heap.size 3 i0 (.int .i64 0) 1 8 Tryz.underlying28 hi hz0 hz1 hz2 rfl (by decide) (.slice ac j cc) j (i64s t0) rfl ((own_mono Hoc.out (Nat.le_refl _)).alloc _) ⟨V1.heap.size,0,none⟩ 1 1 [.int .i64 (x0+(n:Int))] rfl rfl (cell_one_new V1 _ _) (by simp [Value.oneCell']) (by decide) hm3 hm4 (HV1.out.alloc (.cells #[.int .i64 (x0+(n:Int))] 3)).size _ rfl ?_;intro g3 c3 V2 hown3 hgrow3 hat3 hlt3;have HV2:=hid ((HV1.out.alloc (.cells #[.int .i64 (x0+(n:Int))] 3)).grown hgrow3 fun k hk=>(World.ownsRow.lt ((own_mono Hoc.out (Nat.le_refl _)).alloc (.cells #[.int .i64 (x0+(n:Int))] 3)) k hk).1);have Hown3:=hid hown3;clear hown3 hgrow3 hat3 hlt3)
      | (have _t:=Hsecond;refine step_append_lies _ rfl (.tmp 74) (.tmp 82) 28 rfl W7.heap.size 3 i0 (.int .i64 0) 1 8 Tryz.underlying28 hi hz0 hz1 hz2 rfl (by decide) (.slice ac j cc) j (i64s t0) rfl (own_mono Hoc.out (by rw [World.size_alloc];exact Nat.le_succ _)) ⟨W7.drew.heap.size,0,none⟩ 1 1 [.int .i64 (x0+(n:Int))] rfl rfl (fun j u h=>Hsecond.out.cell (cell_one_new W7.drew _ _ j u h)) (by simp [Value.oneCell']) (by decide) hm3 hm4 HV1.out.size _ rfl ?_;intro g3 c3 V2 hown3 hgrow3 hat3 hlt3;have HV2:=hid (HV1.out.grown hgrow3 fun k hk=>(World.ownsRow.lt (own_mono Hoc.out (by rw [World.size_alloc];exact Nat.le_succ _)) k hk).1);have Hown3:=hid hown3;clear hown3 hgrow3 hat3 hlt3))
      all_goals
      have Hfin3:Hid (SubCut W7 j (t0++[x0+(n:Int)]) (.slice (some ⟨g3,0,none⟩) (j+1) c3) (.int .i64 ((j:Int)+1)) (.int .i64 0) V2):=hid ⟨g3,c3,rfl,rfl,rfl,(by unfold i64s at *;rw [List.map_append];exact Hown3.out),HV2.out⟩
      go_wp2_with fail
      go_meet
      exact Hfin3.out
     case rest =>
      obtain ⟨g3,c3,rfl,rfl,rfl,hown3,hV2⟩:=hcut
      obtain ⟨wa,hwa⟩:∃ wa,wa=wr:=⟨_,rfl⟩
      subst hwa
      have hK:subN p (rs.map Qw.x) l=(t0++[x0+(n:Int)]).map fun k=>subZ (nt p (rs.map Qw.x) k) (nt p (rs.map Qw.x) x0):=by
       rw [Hlx.out]
       unfold subN subK
       rw [List.length_map,Hn.out]
       rfl
      have hKl:(t0++[x0+(n:Int)]).length=j+1:=by rw [List.length_append,Htj.out];rfl
      have hKb:∀ i,i<j+1→∃ z,(t0++[x0+(n:Int)])[i]?=some z∧-1000≤z∧z≤1000:=fun i hi=>by
       refine ⟨_,List.getElem?_eq_getElem (by rw [hKl];exact hi),?_⟩
       have hm:=List.getElem_mem (l:=t0++[x0+(n:Int)]) (n:=i) (by rw [hKl];exact hi)
       generalize (t0++[x0+(n:Int)])[i]'(by rw [hKl];exact hi)=z at hm ⊢
       rcases List.mem_append.1 hm with e | e
       ·have:=Hin.out z (by rw [Hlx.out];exact List.mem_cons_of_mem _ e)
        omega
       ·rw [List.mem_singleton] at e
        omega
      have hKt:∀ i z,(t0++[x0+(n:Int)])[i]?=some z→((t0++[x0+(n:Int)]).map fun k=>subZ (nt p (rs.map Qw.x) k) (nt p (rs.map Qw.x) x0)).take (i+1)=((t0++[x0+(n:Int)]).map fun k=>subZ (nt p (rs.map Qw.x) k) (nt p (rs.map Qw.x) x0)).take i++[subZ (nt p (rs.map Qw.x) z) (nt p (rs.map Qw.x) x0)]:=fun i z hz=>by
       obtain ⟨hi,e⟩:=List.getElem?_eq_some_iff.1 hz
       rw [List.take_succ_eq_append_getElem (by rw [List.length_map];exact hi),List.getElem_map,e]
      have hKf:((t0++[x0+(n:Int)]).map fun k=>subZ (nt p (rs.map Qw.x) k) (nt p (rs.map Qw.x) x0)).take (j+1)=subN p (rs.map Qw.x) l:=by rw [hK];exact List.take_of_length_le (by rw [List.length_map,hKl];exact Nat.le_refl _)
      have hKn:((t0++[x0+(n:Int)]).map fun k=>subZ (nt p (rs.map Qw.x) k) (nt p (rs.map Qw.x) x0)).length=j+1:=by rw [List.length_map,hKl]
      have hx01:-1000≤x0∧x0≤1000:=by omega
      generalize (t0++[x0+(n:Int)]).map (fun k=>subZ (nt p (rs.map Qw.x) k) (nt p (rs.map Qw.x) x0))=FS at *
      generalize t0++[x0+(n:Int)]=KS at *
      have HKb:=hid hKb;have HKt:=hid hKt;have HKf:=hid hKf;have HKl:=hid hKl;have HKn:=hid hKn;have HV2:=hid hV2;have Hown3:=hid hown3;have HE6w:=hid (HE7.out.trans hV2);have HBn:=hid (HB7.out.ext hV2)
      clear hK hKl hKb hKt hKf hKn hV2 hown3 hx0b hc0 hwx hm3 hm4
      go_wp2_with fail
      go_loopw [13,14,15,85] (fun v13 v14 v15 v85 wr=>∃ i:Nat,v85=.int .i64 i∧i≤j+1∧NtR w6.heap.size w6 w6.heap.size (.slice a6 p.length c6) (FS.take i) wr∧Hid (wr.ownsRow W7.heap.size 3 1 (.slice (some ⟨g3,0,none⟩) (j+1) c3) (j+1) (i64s KS))) (fun _ _ _ v85 _=>j+1 - (intOf v85).toNat)
      case atStart=>exact ⟨0,rfl,Nat.zero_le _,⟨.slice none 0 0,[],HBn.out,QwM.nil _ _ _,rfl,HE6w.out⟩,Hown3⟩
      case round =>
       obtain ⟨i,rfl,hi,⟨vn,nts,hbn,hqn,hmn,hEn⟩,Hrow⟩:=hrel
       have hE6:=Hx6.out.trans hEn
       have hEw:=HE0.out.trans hE6
       have q0:=(B1.out.ext hE6).c0
       have q1:=(B1.out.ext hE6).c1
       by_cases hin:i<j+1
       ·obtain ⟨z,hz,hz0,hz1⟩:=HKb.out i hin
        have hcg:wr.cell? ⟨g3,i,none⟩=some (.int .i64 z):=row_cellI Hrow.out hz
        have hik:(i:Int)<(j:Int)+1:=by omega
        have hi0:(0:Int)≤(i:Int):=by omega
        have hnk:=Hnt.out z hz0 hz1 wr hEw
        have Hbn:=hid hbn;have Hqn:=hid hqn;have Hmn:=hid hmn;have HEn:=hid hEn;have HE6:=hid hE6;have HEw:=hid hEw;have Hnk:=hid hnk;have Hz:=hid hz
        clear hbn hqn hmn hEn hE6 hEw hnk hz
        go_wp2_with fail
        refine Hnk.out.mono ?_
        rintro e w8 ⟨g8,rfl,ho8,hx8⟩
        have q0:=hx8.cell q0
        have q1:=hx8.cell q1
        have hsk:=Hsb.out z x0 hz0 hz1 hx01.1 hx01.2 w8 _ _ (HEw.out.trans hx8) ho8.rd ((HEn.out.trans hx8).rd Ho16.out)
        have Hsk:=hid hsk;have Hx8:=hid hx8
        clear hsk hx8 ho8 hcg
        go_wp2_with fail
        refine Hsk.out.mono ?_
        rintro e w9 ⟨g9,rfl,ho9,hx9⟩
        have hx89:=Hx8.out.trans hx9
        obtain ⟨avn,cvn,rfl⟩:=own_shape Hqn.out.1
        have hnl:nts.length=i:=by
         have:=congrArg List.length Hmn.out
         rw [List.length_map,List.length_take,HKn.out] at this
         omega
        have hbk:=Hbn.out.ext hx89
        rw [hnl] at hbk
        have hqk:=hx89.qwM Hqn.out
        rw [hnl] at hqk
        have hqo:=hx89.own Hqn.out.1
        rw [hnl] at hqo
        have hEk:=HEn.out.trans hx89
        have hbase:=hEk.size
        have hok:=ho9.mono (HEn.out.trans Hx8.out).size
        have hrk:=hx89.own Hrow.out
        have hrkal:=World.ownsRow.alloc hrk (.cells #[.slice (some ⟨g9,0,none⟩) p.length p.length] 37)
        have hrkne:=own_ne hrkal (hqo.alloc (.cells #[.slice (some ⟨g9,0,none⟩) p.length p.length] 37)) (by decide)
        have Hrkal:=hid hrkal;have Hrkne:=hid hrkne
        clear hrkal hrkne
        have hm3:i+1≤maxLen:=by unfold maxLen;omega
        have hm4:(i+1) * 24≤140737488355328:=by omega
        have r1:=hbk.c1
        have Hbk:=hid hbk;have Hqk:=hid hqk;have Hnl:=hid hnl;have HEk:=hid hEk;have Hok:=hid hok;have Hrk:=hid hrk
        clear hbk hqk hnl hEk hok hx89 ho9 hx9 q0 q1 hrk Hrow
        go_wp2_with (at_builtin;go_loud (refine wpList_append_own _ rfl _ _ 30 rfl w6.heap.size 37 j0 (.slice none 0 0) 1 24 Tryz.underlying30 hj hy0 hy1 hy2 rfl (by decide) _ _ _ rfl (hqo.alloc _) ⟨w9.heap.size,0,none⟩ 1 1 [.slice (some ⟨g9,0,none⟩) p.length p.length] rfl rfl (cell_one_new _ _ _) (by simp [Value.oneCell']) hm3 hm4 (by rw [World.size_alloc];omega) ?_;intro v7 V7 hown7 hgrow7 _;have hbV:BoxT 32 V7 w6.heap.size (.slice a6 p.length c6) (.slice avn i cvn):=kept_box (((Ext.refl w9).alloc _).heap Hbk.out) (hqo.alloc (.cells #[.slice (some ⟨g9,0,none⟩) p.length p.length] 37)) (by decide) hgrow7;have d1:=hbV.c1;have e1:=hbV.fz 1;have Hrow7:=hid (World.ownsRow.kept Hrkal.out hgrow7 Hrkne.out);have Hbv7:=hid hbV;obtain ⟨a7,c7,rfl⟩:=own_shape hown7))
        have hR:=NtR.more (W6:=w6) (W:=w9) (v7:=.slice a7 (i+1) c7) (Nat.le_refl _) Hbk.out Hqk.out Hmn.out HEk.out Hok.out (by rw [Hnl.out];exact hown7) hgrow7
        rw [← HKt.out i z Hz.out] at hR
        have hRr:=own_set_apart Hbv7.out Hrow7.out (by decide) 1 (.slice a7 (i+1) c7)
        have HR:=hid hR;have HRr:=hid hRr
        clear hR hRr d1 e1 r1 hgrow7 hown7 hbV Hrow7 Hbv7
        generalize V7.setCell ⟨w6.heap.size,1,none⟩ (.slice a7 (i+1) c7)=V2 at *
        go_roundw
        case rel=>exact ⟨i+1,by go_num,by omega,HR.out,HRr⟩
        case measure=>simp [intOf];omega
       ·obtain rfl:i=j+1:=by omega
        have hik:¬ ((j+1:Nat):Int)<(j:Int)+1:=by omega
        have hmn2:=hmn.trans HKf.out
        obtain ⟨avn,cvn,rfl⟩:=own_shape hqn.1
        have r0:=hbn.c0
        have r1:=hbn.c1
        have hbr:=B2.out.ext hE6
        have hKk:K0 32 w wr (w.heap.size+1):=⟨hEw,_,_,hbr⟩
        have k0:=hKk.res.c0;have k1:=hKk.res.c1;have z0:=hKk.res.fz 0;have z1:=hKk.res.fz 1
        have hfin:=hKk.fin (by omega) (.slice a6 p.length c6) (.slice avn nts.length cvn)
        have hq4:=(hqn.set hbr 0 (.slice a6 p.length c6)).set (BoxT.put0 hbr (.slice a6 p.length c6)) 1 (.slice avn nts.length cvn)
        have ho4:=own_set_apart (BoxT.put0 hbr (.slice a6 p.length c6)) (own_set_apart hbr (hEn.own Ho6.out) (by decide) 0 (.slice a6 p.length c6)) (by decide) 1 (.slice avn nts.length cvn)
        have hlo:=(HE0.out.trans Hx6.out).size
        have Hfin:=hid hfin;have Hq4:=hid hq4;have Ho4:=hid ho4;have Hmn2:=hid hmn2
        clear hfin hq4 ho4 hmn2 hKk hbr hqn hbn hmn hEn hE6 hEw
        go_wp2_with fail
        obtain ⟨hb5,hx5⟩:=Hfin.out
        have hd0:=hb5.c0
        have hd1:=hb5.c1
        exact bodyPost_ret (v:=.tuple #[.agg #[.slice a6 p.length c6,.slice avn nts.length cvn],.int .i64 0]) (by simp [results,Tryz.results14,go_sem,hd0,hd1]) rfl ⟨_,by rw [Hec.out],fun h=>absurd Hec.out h,fun _=>⟨nts,⟨_,_,rfl,Ho4.out,Hq4.out.mono hlo hlo⟩,Hmn2.out⟩,hx5⟩
end Go.Proofs.YtipjmpdndokdlaaGreatDoor

namespace Go.Proofs.YtipjmpdndokdlaaGreatDoor
open Go.RowKit Go.Lib Go.Shelf
attribute [local go_sem] Oper.semAt_some
/-- A query in memory: its scale, size, property, the indices that must be, and whether one mode is enough. -/
def QyV (w : World) (v : Value) (p : List Int) (rs : List Qw) (m P : Int) (M : List Int) (b : Bool) : Prop:=∃ vp vn vm,v=.agg #[vp,vn,.int .i64 m,.int .i64 P,vm,.bool b] ∧ Sl w vp (i64s p) ∧ RdM w vn rs ∧ Sl w vm (i64s M)
theorem QyV.ext {w w':World}{v:Value}{p:List Int}{rs:List Qw}{m P:Int}{M:List Int}{b:Bool}(h:QyV w v p rs m P M b)(hx:Ext w w'):QyV w' v p rs m P M b:=by
 obtain ⟨vp,vn,vm,e,h1,h2,h3⟩:=h
 exact ⟨vp,vn,vm,e,hx.sl h1,hx.rdM h2,hx.sl h3⟩
theorem QyV.let {w:World}{v:Value}{p:List Int}{rs:List Qw}{m P:Int}{M:List Int}{b:Bool}(h:QyV w v p rs m P M b) :
  ∃ ap cp an cn am cm,v=.agg #[.slice ap p.length cp,.slice an rs.length cn,.int .i64 m,.int .i64 P,.slice am M.length cm,.bool b]∧ScV w (.agg #[.slice ap p.length cp,.slice an rs.length cn]) p rs∧Sl w (.slice am M.length cm) (i64s M):=by
 obtain ⟨vp,vn,vm,rfl,h1,h2,h3⟩:=h
 obtain ⟨ap,cp,rfl,_,_,_⟩:=h1.parts
 obtain ⟨an,cn,rfl,_,_,_⟩:=h2.1.parts
 obtain ⟨am,cm,rfl,_,_,_⟩:=h3.parts
 rw [i64s_length] at *
 rw [i64s_length] at *
 rw [qwc_length] at *
 exact ⟨ap,cp,an,cn,am,cm,rfl,⟨_,_,rfl,h1,h2⟩,h3⟩
/-- A query's block. -/
def Box6 (w : World) (k : Nat) (vp vn : Value) (m P : Int) (vm : Value) (b : Bool) : Prop:=w.heap[k]?=some (.cells #[vp,vn,.int .i64 m,.int .i64 P,vm,.bool b] 39 (0,0))
section
variable {w w' : World} {k : Nat} {vp vn vm : Value} {m P : Int} {b : Bool}
theorem Box6.new (w:World)(vp vn:Value)(m P:Int)(vm:Value)(b:Bool):Box6 (w.alloc (.cells #[vp,vn,.int .i64 m,.int .i64 P,vm,.bool b] 39)) w.heap.size vp vn m P vm b:=World.alloc_heap_new w _
theorem Box6.ext (h:Box6 w k vp vn m P vm b)(hx:Ext w w'):Box6 w' k vp vn m P vm b:=hx.heap h
theorem Box6.cs (h:Box6 w k vp vn m P vm b):w.cell? ⟨k,0,none⟩=some vp∧w.cell? ⟨k,1,none⟩=some vn∧w.cell? ⟨k,2,none⟩=some (.int .i64 m)∧w.cell? ⟨k,3,none⟩=some (.int .i64 P)∧w.cell? ⟨k,4,none⟩=some vm∧w.cell? ⟨k,5,none⟩=some (.bool b):=by
 unfold Box6 at h
 unfold World.cell?
 dsimp only
 rw [h]
 exact ⟨rfl,rfl,rfl,rfl,rfl,rfl⟩
end
theorem chkNotes_c (vl:Value)(l:List Int)(n:Nat)(w:World)(hvl:Sl w vl (i64s l))(hl:l.length≤1000000) :
  Calls Tryz.prog 31 #[vl,.int .i64 (n:Int)] w fun e w'=>e=.returned (.int .i64 (subFrom n l 0 l.length))∧w=w':=by
 obtain ⟨al,cl,rfl,_,hcl,hlc⟩:=hvl.parts
 have hlat:∀ k,k<l.length→∃ b off,al=some ⟨b,off,none⟩∧w.cell? ⟨b,off+k,none⟩=some (.int .i64 ((l[k]?).getD 0)):=fun k hk=>by
  obtain ⟨b,off,e,hc⟩:=hlc k (.int .i64 ((l[k]?).getD 0)) (by unfold i64s;rw [List.getElem?_map,List.getElem?_eq_getElem hk];rfl)
  exact ⟨b,off,e,hc⟩
 rw [i64s_length] at *
 have Hlat:=hid hlat
 clear hvl hlc hlat
 generalize hLl:l.length=L at *
 have HLl:=hid hLl
 clear hLl
 go_enter Tryz.func31,Tryz.ntmps31
 go_wp2_with fail
 go_loopw [5,6,9] (fun v5 v6 v9 wr=>∃ k:Nat,v9=.int .i64 k∧k≤L∧Hid (subFrom n l 0 L=subFrom n l k (L - k))∧wr=w) (fun _ _ v9 _=>L - (intOf v9).toNat)
 case atStart=>exact ⟨0,rfl,Nat.zero_le _,hid rfl,rfl⟩
 case round =>
  obtain ⟨k,rfl,hk,HS,rfl⟩:=hrel
  by_cases hkl:k<L
  ·obtain ⟨b,off,rfl,hc⟩:=Hlat.out k hkl
   have hgo:stepE n l k=0→subFrom n l 0 L=subFrom n l (k+1) (L - (k+1)):=fun e=>by
    have:=sub_go (n:=n) (l:=l) (k:=k) (by rw [HLl.out];exact hkl) e
    rw [HLl.out] at this
    exact HS.out.trans this
   have hst:stepE n l k ≠ 0→subFrom n l 0 L=stepE n l k:=fun e=>by
    have:=sub_stop (n:=n) (l:=l) (k:=k) (by rw [HLl.out];exact hkl) e
    rw [HLl.out] at this
    exact HS.out.trans this
   have hun:stepE n l k=if (l[k]?).getD 0<0∨(n:Int)≤(l[k]?).getD 0 then 3 else if 0<k∧(l[k]?).getD 0≤(l[k - 1]?).getD 0 then 6 else 0:=rfl
   have hpv:=fun (h0:0<k)=>Hlat.out (k - 1) (by omega)
   generalize (l[k]?).getD 0=x at *
   generalize (l[k - 1]?).getD 0=y at *
   have hk0:(0:Int)≤(k:Int):=by omega
   have hk1:(k:Int)<(L:Int):=by omega
   have Hgo:=hid hgo;have Hst:=hid hst;have Hun:=hid hun;have Hpv:=hid hpv
   clear hgo hst hun hpv
   by_cases hx0:x<0
   ·have hec:subFrom n l 0 L=3:=by
     have hs:stepE n l k=3:=by rw [Hun.out,if_pos (.inl hx0)]
     exact (Hst.out (by rw [hs];decide)).trans hs
    have Hec:=hid hec
    clear hec
    rcases Nat.eq_zero_or_pos k with hk00 | hk00
    ·subst hk00
     rw [Nat.add_zero] at hc
     go_wp2_with fail
     go_ret
     exact ⟨by rw [Hec.out];rfl,rfl⟩
    ·go_wp2_with fail
     go_ret
     exact ⟨by rw [Hec.out];rfl,rfl⟩
   ·by_cases hxn:(n:Int)≤x
    ·have hec:subFrom n l 0 L=3:=by
      have hs:stepE n l k=3:=by rw [Hun.out,if_pos (.inr hxn)]
      exact (Hst.out (by rw [hs];decide)).trans hs
     have Hec:=hid hec
     clear hec
     rcases Nat.eq_zero_or_pos k with hk00 | hk00
     ·subst hk00
      rw [Nat.add_zero] at hc
      go_wp2_with fail
      go_ret
      exact ⟨by rw [Hec.out];rfl,rfl⟩
     ·go_wp2_with fail
      go_ret
      exact ⟨by rw [Hec.out];rfl,rfl⟩
    ·rcases Nat.eq_zero_or_pos k with hk00 | hk00
     ·subst hk00
      rw [Nat.add_zero] at hc
      have hs:stepE n l 0=0:=by rw [Hun.out,if_neg (by omega),if_neg (by omega)]
      have Hnx:=hid (Hgo.out hs)
      clear hs
      go_wp2_with fail
      go_roundw
      case rel=>exact ⟨1,by go_num,by omega,Hnx,trivial⟩
      case measure=>simp [intOf];omega
     ·obtain ⟨j,rfl⟩:∃ j,k=j+1:=⟨k - 1,by omega⟩
      obtain ⟨b',off',e',hc'⟩:=Hpv.out hk00
      cases e'
      rw [Nat.add_sub_cancel] at hc'
      have hwj:IntKind.i64.wrap (((j+1:Nat):Int) - 1)=(j:Int):=by rw [show (((j+1:Nat):Int) - 1)=(j:Int) by omega];exact IntWalk.i64_in _ (by omega)
      have hwj2:IntKind.i64.wrap (j:Int)=(j:Int):=IntWalk.i64_in _ (by omega)
      have hj0:(0:Int)≤(j:Int):=by omega
      have hj1:(j:Int)<(L:Int):=by omega
      have hjc:((j+1:Nat):Int)=(j:Int)+1:=by omega
      have hjp:(0:Int)<(j:Int)+1:=by omega
      by_cases hxy:x≤y
      ·have hec:subFrom n l 0 L=6:=by
        have hs:stepE n l (j+1)=6:=by rw [Hun.out,if_neg (by omega),if_pos ⟨hk00,hxy⟩]
        exact (Hst.out (by rw [hs];decide)).trans hs
       have Hec:=hid hec
       clear hec
       go_wp2_with fail
       go_ret
       exact ⟨by rw [Hec.out];rfl,rfl⟩
      ·have hs:stepE n l (j+1)=0:=by rw [Hun.out,if_neg (by omega),if_neg (fun g=>hxy g.2)]
       have Hnx:=hid (Hgo.out hs)
       clear hs
       go_wp2_with fail
       go_roundw
       case rel=>exact ⟨j+1+1,by go_num,by omega,Hnx,trivial⟩
       case measure=>simp [intOf];omega
  ·obtain rfl:k=L:=by omega
   have hec:subFrom n l 0 k=0:=by rw [HS.out,Nat.sub_self];rfl
   have Hec:=hid hec
   clear hec
   go_wp2_with fail
   go_ret
   exact ⟨by rw [Hec.out];rfl,rfl⟩
/-- The error of a query with a right scale. -/
def qryE (n : Nat) (m P : Int) (M : List Int) : Int:=if m<1∨(n : Int)<m then 3 else if P<1∨6<P then 12 else subFrom n M 0 M.length
/-- The first of two errors. -/
def orE (ce z : Int) : Int:=if ce ≠ 0 then ce else z
theorem orE_zero (z:Int):orE 0 z=z:=by unfold orE;rw [if_neg (fun h=>h rfl)]
theorem orE_some {ce:Int}(z:Int)(h:ce ≠ 0):orE ce z=ce:=by unfold orE;rw [if_pos h]
theorem qCheck_c (v:Value)(p:List Int)(rs:List Qw)(m P:Int)(M:List Int)(b:Bool)(ce:Int)(w:World)(hv:QyV w v p rs m P M b)(hM:M.length≤1000000)
  (hck:∀ W sv,Ext w W→ScV W sv p rs→Calls Tryz.prog 21 #[sv] W fun e w'=>e=.returned (.int .i64 ce)∧Ext W w') :
  Calls Tryz.prog 30 #[v] w fun e w'=>e=.returned (.int .i64 (orE ce (qryE rs.length m P M)))∧Ext w w':=by
 obtain ⟨ap,cp,an,cn,am,cm,rfl,hs,hm⟩:=hv.let
 have hE0:Ext w (w.alloc (.cells #[.slice ap p.length cp,.slice an rs.length cn,.int .i64 m,.int .i64 P,.slice am M.length cm,.bool b] 39)):=(Ext.refl w).alloc _
 have hb:=Box6.new w (.slice ap p.length cp) (.slice an rs.length cn) m P (.slice am M.length cm) b
 have hc1:=hck _ _ hE0 (hs.ext hE0)
 have hnt:=fun W (hE:Ext w W)=>chkNotes_c (.slice am M.length cm) M rs.length W (hE.sl hm) hM
 have hq:qryE rs.length m P M=if m<1∨(rs.length:Int)<m then 3 else if P<1∨6<P then 12 else subFrom rs.length M 0 M.length:=rfl
 generalize subFrom rs.length M 0 M.length=E at *
 have Hc1:=hid hc1;have Hnt:=hid hnt;have HE0:=hid hE0;have Hb:=hid hb;have Hq:=hid hq
 clear hs hm hc1 hnt hE0 hb hq hck hv
 generalize qryE rs.length m P M=Z at *
 generalize rs.length=n at *
 generalize M.length=L at *
 go_enter Tryz.func30,Tryz.ntmps30
 obtain ⟨q0,q1,_,_,_,_⟩:=Hb.out.cs
 go_wp2_with fail
 refine Hc1.out.mono ?_
 rintro e w1 ⟨rfl,hx1⟩
 obtain ⟨q0,q1,q2,q3,q4,_⟩:=(Hb.out.ext hx1).cs
 have Hx1:=hid (HE0.out.trans hx1)
 clear hx1
 by_cases hce:ce=0
 ·subst hce
  by_cases h1:m<1
  ·go_wp2_with fail
   go_ret
   exact ⟨by rw [orE_zero,Hq.out,if_pos (.inl h1)];rfl,Hx1.out⟩
  ·by_cases h2:(n:Int)<m
   ·go_wp2_with fail
    go_ret
    exact ⟨by rw [orE_zero,Hq.out,if_pos (.inr h2)];rfl,Hx1.out⟩
   ·by_cases h3:P<1
    ·go_wp2_with fail
     go_ret
     exact ⟨by rw [orE_zero,Hq.out,if_neg (by omega),if_pos (.inl h3)];rfl,Hx1.out⟩
    ·by_cases h4:6<P
     ·go_wp2_with fail
      go_ret
      exact ⟨by rw [orE_zero,Hq.out,if_neg (by omega),if_pos (.inr h4)];rfl,Hx1.out⟩
     ·go_wp2_with fail
      refine (Hnt.out _ Hx1.out).mono ?_
      rintro e w2 ⟨rfl,rfl⟩
      go_wp2_with fail
      go_ret
      exact ⟨by rw [orE_zero,Hq.out,if_neg (by omega),if_neg (by omega)];rfl,Hx1.out⟩
 ·have hce1:(ce == 0)=false:=by simpa using hce
  have hce2:(ce != 0)=true:=by simpa using hce
  have Hce:=hid hce
  clear hce
  go_wp2_with fail
  go_ret
  exact ⟨by rw [orE_some _ Hce.out];rfl,Hx1.out⟩
end Go.Proofs.YtipjmpdndokdlaaGreatDoor
