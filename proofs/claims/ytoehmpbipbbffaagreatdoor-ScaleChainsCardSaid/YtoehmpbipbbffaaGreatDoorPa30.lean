/- Walk: slices.symMergeCmpFunc at ints: the case of two runs of more than one element. Walk: slices.SortStableFunc at ints, of any number up to a thousand, with a compare that makes memory (blocks of twenty, then merges in place). Walk: size.Sort of at most a thousand sizes, by the linear form of 2048 bits. (Printed by wip/colln.py.) -/
import Derived.Test.YtoehmpbipbbffaaGreatDoorPa29
import Derived.Deep.DeepCutAuto
import Derived.Test.YtoehmpbipbbffaaGreatDoorPa17
import Derived.Test.YtoehmpbipbbffaaGreatDoorPa28
import Derived.Test.YtoehmpbipbbffaaGreatDoorPa23
set_option maxRecDepth 100000
set_option maxHeartbeats 4000000
namespace Go.Proofs.YtoehmpbipbbffaaGreatDoor
section
open Go.RowKit Go.Lib Go.Shelf
section
variable {α : Type}
theorem zoc.no_hi (f:Nat→Option α)(s m:Nat):zoc f f s m m:=⟨fun k h1 h2=>by omega,fun k h1 h2=>by congr 1;omega,fun k _=>rfl⟩
theorem zoc.no_lo (f:Nat→Option α)(m e:Nat)(_h:m≤e):zoc f f m m e:=⟨fun k h1 h2=>by congr 1;omega,fun k h1 h2=>by omega,fun k _=>rfl⟩
theorem SrF.either {key:α→Rat}{f:Nat→Option α}{a i b:Nat}(h1:SrF key f a i)(h2:SrF key f i b)(h:i=a∨i=b):SrF key f a b:=by
 rcases h with rfl | rfl
 ·exact h2
 ·exact h1
theorem zou {key:α→Rat}{d d1 d2 d3:Nat→Option α}{a i m e b mid:Nat}(r:zoc d d1 i m e)(h1:a≤i)(h2:i≤m)(h3:m≤e)(h4:e≤b)(h5:a≤mid)(h6:mid≤b)(hh:LeF key d1 a mid b)(m12:MvF d1 d2 a mid)(m23:MvF d2 d3 mid b)(s2:SrF key d2 a mid)(s3:SrF key d3 mid b):MvF d d3 a b∧SrF key d3 a b :=
 ⟨(((r.mv h2 h3).wide h1 h4).trans (m12.wide (Nat.le_refl _) h6)).trans (m23.wide h5 (Nat.le_refl _)),(s2.keep fun k _ hk=>m23.out k (by omega)).join s3 ((hh.lmv m12).rmv m23)⟩
end
theorem zov {α:Type}(enc:α→Value)(key:α→Rat)(g:Nat)(cb:Array Value)(B blk cap a m b:Nat)(d0 d:List α)(W0 w:World)(hR:InR 3 W0 B blk cap enc d0 w d)(hl:d0.length≤1000)(h1:OneCell enc)
  (eg:∀ args w,(callFunc g args).run Tryz.prog w=.ok (.enter g args) w)
  (hcmp:∀ W,W0.grownBy W (some blk)→∀ x∈d0,∀ y∈d0,Calls Tryz.prog g (#[enc x,enc y]++cb) W fun e w'=>(∃ z:Int,e=.returned (.int .i64 z)∧(z<0 ↔ key x<key y))∧Ext W w')
  (hrec:∀ (a' m' b':Nat)(dk:List α) W,b' - a'<b - a→a'<m'→m'<b'→b'≤d0.length→InR 3 W0 B blk cap enc d0 W dk→SrF key (fun k=>dk[k]?) a' m'→SrF key (fun k=>dk[k]?) m' b'→Calls Tryz.prog 158 #[.slice (some ⟨blk,0,none⟩) d0.length cap,.int .i64 a',.int .i64 m',.int .i64 b',.func (.func g) #[] cb] W (zok 3 W0 B blk cap enc key d0 dk a' b'))
  (ham:a+1<m) (hmb:m+1<b) (hbn:b≤d0.length) (hs1:SrF key (fun k=>d[k]?) a m) (hs2:SrF key (fun k=>d[k]?) m b) :
  Calls Tryz.prog 158 #[.slice (some ⟨blk,0,none⟩) d0.length cap,.int .i64 a,.int .i64 m,.int .i64 b,.func (.func g) #[] cb] w (zok 3 W0 B blk cap enc key d0 d a b):=by
 have mixed:Tryz.prog.follows .mixedOrders=true:=by kernel_rfl
 have hcl0:=h1.cells;simp only [Value.cells] at hcl0;have hst:=h1.store Tryz.prog;have hdl:=hR.len;have hrot:=fun (s e:Nat)(dk:List α) W (h:InR 3 W0 B blk cap enc d0 W dk)=>zoj enc (.func (.func g) #[] cb) B blk cap s m e d0 dk W0 W h hl h1;generalize hn:d0.length=n at *;have HR:=hid hR;have Hcmp:=hid hcmp;have Hn:=hid hn;have Hs1:=hid hs1;have Hs2:=hid hs2;have Hrec:=hid hrec;have Hrot:=hid hrot;clear hR hcmp hn hs1 hs2 hrec hrot;obtain ⟨mid,hmid⟩:∃ q,q=(a+b) / 2:=⟨_,rfl⟩;obtain ⟨ab,hab⟩:∃ q,q=a+b:=⟨_,rfl⟩;obtain ⟨N,hN⟩:∃ q,q=mid+m:=⟨_,rfl⟩;have z1:((m:Int) - (a:Int) == 1)=false:=beq_eq_false_iff_ne.2 (by omega);have z1b:¬ (m:Int) - (a:Int)=1:=by omega
 have z2:((b:Int) - (m:Int) == 1)=false:=beq_eq_false_iff_ne.2 (by omega);have z2b:¬ (b:Int) - (m:Int)=1:=by omega
 have e1:(a:Int)+(b:Int)=(ab:Int):=by omega
 have e2:=zol (x:=ab) (h:=mid) (by omega) (by omega);have e3:=e2.1;have e4:=e2.2;have e5:(mid:Int)+(m:Int)=(N:Int):=by omega
 have hab2:ab≤2000:=by omega
 have hN2:N≤2000:=by omega
 have hm1:a<mid:=by omega
 have hm2:mid<b:=by omega
 obtain ⟨lo,hi,hK⟩:∃ lo hi:Nat,(m≤mid∧lo=a∧hi=m∨mid<m∧lo=N - b∧hi=mid):=by
  rcases Nat.lt_or_ge mid m with h | h
  ·exact ⟨_,_,.inr ⟨h,rfl,rfl⟩⟩
  ·exact ⟨_,_,.inl ⟨h,rfl,rfl⟩⟩
 have k0:a≤lo∧lo≤hi∧hi≤m∧hi≤mid∧N - lo≤b:=by omega
 have k1:lo=a∨N - lo=b:=by omega
 have k2:hi=m∨N - hi=m:=by omega
 have e6:mid<m→(N:Int) - (b:Int)=(lo:Int):=fun _=>by omega
 obtain ⟨p,hp⟩:∃ q,q=N - 1:=⟨_,rfl⟩;have e7:(N:Int) - 1=(p:Int):=by omega
 have Hnum:=hid (And.intro hN (And.intro hmid hp));have Hk0:=hid k0;have Hk1:=hid k1;have Hk2:=hid k2;clear e2 hmid hab hN hp;have hlohi:(m≤mid∧lo=a∧hi=m)∨(mid<m∧lo=N - b∧hi=mid):=hK;have HK:=hid hlohi;clear hK hlohi;go_enter Tryz.func158,Tryz.ntmps158
 go_upto_if 140 with fail
 go_cut [20,21] (fun v20 v21 wx=>v20=.int .i64 lo∧v21=.int .i64 hi∧Hid (InR 3 W0 B blk cap enc d0 wx d))
 case first =>
  rcases HK.out with ⟨hc,hlo,hhi⟩ | ⟨hc,hlo,hhi⟩
  ·have t1:¬ (mid:Int)<(m:Int):=(by omega);have Hlo:=hid hlo;have Hhi:=hid hhi;clear e6 hlo hhi;go_wp2_with fail
   go_meet
   exact ⟨by rw [Hlo.out],by rw [Hhi.out],HR⟩
  ·have t1:(mid:Int)<(m:Int):=(by omega);have e6:=e6 hc;have Hhi:=hid hhi;clear hlo hhi;go_wp2_with fail
   go_meet
   exact ⟨rfl,by rw [Hhi.out],HR⟩
 case rest =>
  obtain ⟨rfl,rfl,HR⟩:=hcut;clear e6;go_wp2_with fail
  go_loopw [20,21,23] (fun vi vj _ wr=>∃ (i j:Nat),vi=.int .i64 i∧vj=.int .i64 j∧lo≤i∧i≤j∧j≤hi∧Hid (j=hi∨∀ x y,d[N - j - 1]?=some x→d[j]?=some y→key x≤key y)∧Hid (i=lo∨∀ x y,d[i - 1]?=some x→d[N - i]?=some y→key x≤key y)∧Hid (InR 3 W0 B blk cap enc d0 wr d)) (fun vi vj _ _=>(zag vj).toNat - (zag vi).toNat)
  case atStart=>exact ⟨lo,hi,rfl,rfl,Nat.le_refl _,Hk0.out.2.1,Nat.le_refl _,hid (.inl rfl),hid (.inl rfl),HR⟩
  case round =>
   clear HR;obtain ⟨i,j,rfl,rfl,hmi,hij,hjb,HA,HB,HR⟩:=hrel;have K0:=Hk0.out;have KN:=Hnum.out;by_cases hlt:i<j
   ·have hltz:(i:Int)<(j:Int):=(by omega);obtain ⟨h,hh⟩:∃ h,h=(i+j) / 2:=⟨_,rfl⟩;obtain ⟨s,hs⟩:∃ s,s=i+j:=⟨_,rfl⟩;obtain ⟨r,hr⟩:∃ r,r=N - h - 1:=⟨_,rfl⟩;have f1:(i:Int)+(j:Int)=(s:Int):=(by omega);have f2:=zol (x:=s) (h:=h) (by omega) (by omega);have f3:=f2.1;have f4:=f2.2;have f5:(p:Int) - (h:Int)=(r:Int):=(by omega);have g1:IntKind.i64.wrap ((p:Int) - (h:Int))=(r:Int):=(by rw [f5,IntKind.wrap_i64];omega);have g2:IntKind.i64.wrap (r:Int)=(r:Int):=(by rw [IntKind.wrap_i64];omega);have hsb:s≤2000:=(by omega);have hih:i≤h:=(by omega);have hhj:h<j:=(by omega);obtain ⟨x,hx⟩:∃ x,d[r]?=some x:=⟨_,List.getElem?_eq_getElem (by omega)⟩;obtain ⟨y,hy⟩:∃ y,d[h]?=some y:=⟨_,List.getElem?_eq_getElem (by omega)⟩;have c1:=HR.out.cell hx;have c2:=HR.out.cell hy;have hcm:=fun W (hE:Ext wr W)=>Hcmp.out W (zeq HR.out.only hE) x (HR.out.mem hx) y (HR.out.mem hy);have hex:=fun W (hE:Ext wr W)=>HR.out.ext hE;have pa:(0:Int)≤(h:Int):=(by omega);have ba:(h:Int)<(n:Int):=(by omega);have pc:(0:Int)≤(r:Int):=(by omega);have bc:(r:Int)<(n:Int):=(by omega);have Hx:=hid hx;have Hy:=hid hy;have Hcm:=hid hcm;have Hex:=hid hex;have Hr:=hid hr;clear f2 hs hh hx hy hcm hex HR hr K0 KN;by_cases hxy:key x<key y
    ·have HA2:Hid (h=hi∨∀ x y,d[N - h - 1]?=some x→d[h]?=some y→key x≤key y):=hid (.inr fun u v hu hv=>by
      rw [← Hr.out,Hx.out] at hu;rw [Hy.out] at hv;rw [← Option.some.inj hu,← Option.some.inj hv];exact Rat.le_of_lt hxy)
     have Hxy:=hid hxy;clear hxy;go_wp2_with fail
     go_region_held3 (fun w'=>Ext wr w'∧w'.cell? ⟨blk,r,none⟩=some (enc x)∧w'.cell? ⟨blk,h,none⟩=some (enc y))
      (first | (with_reducible assumption) | exact ⟨(Ext.refl wr).drew,c1,c2⟩)
      (first | (go_at_fn g;refine (Hcm.out _ (And.left (by assumption))).mono ?_;rintro e9 VA ⟨⟨z,rfl,hz⟩,hxa⟩;have hEA:=((Ext.refl wr).drew).trans hxa;have hS2:Ext wr VA∧VA.cell? ⟨blk,r,none⟩=some (enc x)∧VA.cell? ⟨blk,h,none⟩=some (enc y):=⟨hEA,hEA.cell c1,hEA.cell c2⟩;have hz1:z<0:=hz.2 Hxy.out;have hz2:decide (z<0)=true:=decide_eq_true hz1;have HEA:=hid hEA;clear hxa hEA hz))
     all_goals
      clear hS2 c1 c2;have S4:=hid (Hex.out VA HEA.out);go_wp2_with fail
      go_roundw
      case rel=>exact ⟨i,h,rfl,rfl,hmi,hih,by omega,HA2,HB,S4⟩
      case measure=>first | (simp [zag];done) | (simp [zag];omega)
    ·have HB2:Hid (h+1=lo∨∀ x y,d[h+1 - 1]?=some x→d[N - (h+1)]?=some y→key x≤key y):=hid (.inr fun u v hu hv=>by
      rw [Nat.add_sub_cancel,Hy.out] at hu;rw [show N - (h+1)=N - h - 1 by omega,← Hr.out,Hx.out] at hv;rw [← Option.some.inj hu,← Option.some.inj hv];exact Rat.not_lt.1 hxy)
     have Hxy:=hid hxy;clear hxy;go_wp2_with fail
     go_region_held3 (fun w'=>Ext wr w'∧w'.cell? ⟨blk,r,none⟩=some (enc x)∧w'.cell? ⟨blk,h,none⟩=some (enc y))
      (first | (with_reducible assumption) | exact ⟨(Ext.refl wr).drew,c1,c2⟩)
      (first | (go_at_fn g;refine (Hcm.out _ (And.left (by assumption))).mono ?_;rintro e9 VA ⟨⟨z,rfl,hz⟩,hxa⟩;have hEA:=((Ext.refl wr).drew).trans hxa;have hS2:Ext wr VA∧VA.cell? ⟨blk,r,none⟩=some (enc x)∧VA.cell? ⟨blk,h,none⟩=some (enc y):=⟨hEA,hEA.cell c1,hEA.cell c2⟩;have hz1:¬ z<0:=fun h=>Hxy.out (hz.1 h);have hz2:decide (z<0)=false:=decide_eq_false hz1;have HEA:=hid hEA;clear hxa hEA hz))
     all_goals
      clear hS2 c1 c2;have S4:=hid (Hex.out VA HEA.out);go_wp2_with fail
      go_roundw
      case rel=>exact ⟨h+1,j,by go_num,rfl,by omega,by omega,hjb,HA,HB2,S4⟩
      case measure=>first | (simp [zag];done) | (simp [zag];omega)
   ·obtain rfl:i=j:=by omega
    obtain ⟨e,he⟩:∃ e,e=N - i:=⟨_,rfl⟩;have e9:(N:Int) - (i:Int)=(e:Int):=(by omega);have hai:a≤i:=(by omega);have hsm:i≤m:=(by omega);have hme:m≤e:=(by omega);have heb:e≤b:=(by omega);have hmid:mid=i+(e - m):=(by omega);have tot:∀ k,a≤k→k<b→∃ x,d[k]?=some x:=fun k _ h2=>⟨_,List.getElem?_eq_getElem (by omega)⟩;have hhalf:=fun (f:Nat→Option α)(r:zoc (fun k=>d[k]?) f i m e)=>zod (mid:=mid) Hs1.out Hs2.out hai hsm hme heb hmid r (by
     rcases HB.out with q | q
     ·rcases Hk1.out with q2 | q2
      ·exact .inl (q.trans q2)
      ·exact .inr (.inl (by rw [he,q];exact q2))
     ·exact .inr (.inr (by rw [he];exact q))) (by
     rcases HA.out with q | q
     ·rcases Hk2.out with q2 | q2
      ·exact .inl (q.trans q2)
      ·exact .inr (.inl (by rw [he,q];exact q2))
     ·exact .inr (.inr (by rw [he];exact q))) tot
    have Hhalf:=hid hhalf;clear hhalf tot HA HB K0 KN he hmi hij hjb hlt;have hen:e≤n:=(by omega);have Hmid:=hid hmid;obtain ⟨b1,hb1⟩:∃ q,q=decide (i<m∧m<e):=⟨_,rfl⟩;obtain ⟨b2,hb2⟩:∃ q,q=decide (a<i∧i<mid):=⟨_,rfl⟩;obtain ⟨b3,hb3⟩:∃ q,q=decide (mid<e∧e<b):=⟨_,rfl⟩;have Hb1:=hid hb1;have Hb2:=hid hb2;have Hb3:=hid hb3;have hmid2:=Hmid.out;have K2:Hid (i≤mid):=hid (by omega);have K3:Hid (mid≤e):=hid (by omega);clear hb1 hb2 hb3 hmid hmid2 z1 z1b z2 z2b e1 e3 e4 e5 e7 hab2 hN2;go_upto_region 39 with (fail)
    go_cut [185] (fun v wx=>v=.bool b1∧Hid (InR 3 W0 B blk cap enc d0 wx d))
    case first =>
     rcases (by omega:¬ i<m∨(i<m∧¬ m<e)∨(i<m∧m<e)) with q | ⟨q,q2⟩ | ⟨q,q2⟩
     ·have z:¬ (i:Int)<(m:Int):=(by omega);go_wp2_with fail
      go_meet
      exact ⟨by rw [Hb1.out,decide_eq_false (fun h=>q h.1)],HR⟩
     ·have z:(i:Int)<(m:Int):=(by omega);have z2:¬ (m:Int)<(e:Int):=(by omega);go_wp2_with fail
      go_meet
      exact ⟨by rw [Hb1.out,decide_eq_false (fun h=>q2 h.2)],HR⟩
     ·have z:(i:Int)<(m:Int):=(by omega);have z2:(m:Int)<(e:Int):=(by omega);go_wp2_with fail
      go_meet
      exact ⟨by rw [Hb1.out,decide_eq_true (And.intro q q2)],HR⟩
    case rest =>
     as_aux_lemma =>
      obtain ⟨rfl,HR⟩:=hcut
      go_upto_if 185 with fail
      go_cut [] (fun wx=>∃ d1:List α,Hid (InR 3 W0 B blk cap enc d0 wx d1)∧Hid (zoc (fun k=>d[k]?) (fun k=>d1[k]?) i m e))
      case first =>
       cases b1 with
       | true =>
        have hq:=of_decide_eq_true Hb1.out.symm
        go_wp2_with fail
        with_reducible refine (Hrot.out i e d _ HR.out (by omega) (by omega) hen).mono ?_
        rintro e0 w1 ⟨rfl,d1,h1',r1⟩
        have H1:=hid h1';have R1:=hid r1
        clear h1' r1
        go_wp2_with fail
        go_meet
        exact ⟨d1,H1,R1⟩
       | false =>
        have hq:=of_decide_eq_false Hb1.out.symm
        go_wp2_with fail
        go_meet
        exact ⟨d,HR,hid (by
         rcases (by omega:i=m∨e=m) with q | q
         ·rw [q];exact zoc.no_lo _ _ _ hme
         ·rw [q];exact zoc.no_hi _ _ _)⟩
      case rest =>
       as_aux_lemma =>
        obtain ⟨d1,H1,R1⟩:=hcut
        have Hh:=hid (Hhalf.out _ R1.out)
        clear HR
        go_upto_region 41 with (fail)
        go_cut [199] (fun v wx=>v=.bool b2∧Hid (InR 3 W0 B blk cap enc d0 wx d1))
        case first =>
         rcases (by omega:¬ a<i∨(a<i∧¬ i<mid)∨(a<i∧i<mid)) with q | ⟨q,q2⟩ | ⟨q,q2⟩
         ·have z:¬ (a:Int)<(i:Int):=by omega
          go_wp2_with fail
          go_meet
          exact ⟨by rw [Hb2.out,decide_eq_false (fun h=>q h.1)],H1⟩
         ·have z:(a:Int)<(i:Int):=by omega
          have z2:¬ (i:Int)<(mid:Int):=by omega
          go_wp2_with fail
          go_meet
          exact ⟨by rw [Hb2.out,decide_eq_false (fun h=>q2 h.2)],H1⟩
         ·have z:(a:Int)<(i:Int):=by omega
          have z2:(i:Int)<(mid:Int):=by omega
          go_wp2_with fail
          go_meet
          exact ⟨by rw [Hb2.out,decide_eq_true (And.intro q q2)],H1⟩
        case rest =>
         as_aux_lemma =>
          obtain ⟨rfl,H1⟩:=hcut
          go_upto_if 199 with fail
          go_cut [] (fun wx=>∃ d2:List α,Hid (InR 3 W0 B blk cap enc d0 wx d2)∧Hid (MvF (fun k=>d1[k]?) (fun k=>d2[k]?) a mid)∧Hid (SrF key (fun k=>d2[k]?) a mid))
          case first =>
           cases b2 with
           | true =>
            have hq:=of_decide_eq_true Hb2.out.symm
            go_wp2_with fail
            with_reducible refine (Hrec.out a i mid d1 _ (by omega) (by omega) (by omega) (by omega) H1.out Hh.out.1 Hh.out.2.1).mono ?_
            rintro e0 w2 ⟨rfl,d2,h2,m2,s2⟩
            have H2:=hid h2;have M12:=hid m2;have S2:=hid s2
            clear h2 m2 s2
            go_wp2_with fail
            go_meet
            exact ⟨d2,H2,M12,S2⟩
           | false =>
            have hq:=of_decide_eq_false Hb2.out.symm
            have k2:=K2.out
            go_wp2_with fail
            go_meet
            exact ⟨d1,H1,hid (MvF.refl _ a mid),hid (SrF.either Hh.out.1 Hh.out.2.1 (by omega))⟩
          case rest =>
           as_aux_lemma =>
            obtain ⟨d2,H2,M12,S2⟩:=hcut
            clear H1
            go_upto_region 43 with (fail)
            go_cut [213] (fun v wx=>v=.bool b3∧Hid (InR 3 W0 B blk cap enc d0 wx d2))
            case first =>
             rcases (by omega:¬ mid<e∨(mid<e∧¬ e<b)∨(mid<e∧e<b)) with q | ⟨q,q2⟩ | ⟨q,q2⟩
             ·have z:¬ (mid:Int)<(e:Int):=by omega
              go_wp2_with fail
              go_meet
              exact ⟨by rw [Hb3.out,decide_eq_false (fun h=>q h.1)],H2⟩
             ·have z:(mid:Int)<(e:Int):=by omega
              have z2:¬ (e:Int)<(b:Int):=by omega
              go_wp2_with fail
              go_meet
              exact ⟨by rw [Hb3.out,decide_eq_false (fun h=>q2 h.2)],H2⟩
             ·have z:(mid:Int)<(e:Int):=by omega
              have z2:(e:Int)<(b:Int):=by omega
              go_wp2_with fail
              go_meet
              exact ⟨by rw [Hb3.out,decide_eq_true (And.intro q q2)],H2⟩
            case rest =>
             as_aux_lemma =>
              obtain ⟨rfl,H2⟩:=hcut
              have s3:=Hh.out.2.2.1.keep (g:=fun k=>d2[k]?) fun k hk _=>M12.out.out k (by omega)
              have s4:=Hh.out.2.2.2.1.keep (g:=fun k=>d2[k]?) fun k hk _=>M12.out.out k (by have:=K3.out;omega)
              have HS3:=hid s3;have HS4:=hid s4
              clear s3 s4
              cases b3 with
              | true =>
               have hq:=of_decide_eq_true Hb3.out.symm
               go_wp2_with fail
               with_reducible refine (Hrec.out mid e b d2 _ (by omega) (by omega) (by omega) hbn H2.out HS3.out HS4.out).mono ?_
               rintro e0 w3 ⟨rfl,d3,h3,m3,s3⟩
               have H3:=hid h3;have M23:=hid m3;have S3:=hid s3
               clear h3 m3 s3
               go_wp2_with fail
               go_end0
               exact ⟨rfl,_,H3.out,zou R1.out hai hsm hme heb (Nat.le_of_lt hm1) (Nat.le_of_lt hm2) Hh.out.2.2.2.2 M12.out M23.out S2.out S3.out⟩
              | false =>
               have hq:=of_decide_eq_false Hb3.out.symm
               have k3:=K3.out
               have S3:=hid (SrF.either HS3.out HS4.out (by omega))
               go_wp2_with fail
               go_end0
               exact ⟨rfl,_,H2.out,zou R1.out hai hsm hme heb (Nat.le_of_lt hm1) (Nat.le_of_lt hm2) Hh.out.2.2.2.2 M12.out (MvF.refl _ mid b) S2.out S3.out⟩
section
variable {α : Type} {key : α → Rat} {f g : Nat → Option α}
def BlF (key:α→Rat)(f:Nat→Option α)(t A:Nat):Prop:=∀ j,t * j+t≤A→SrF key f (t * j) (t * j+t)
def BkF (key:α→Rat)(f:Nat→Option α)(s lo n:Nat):Prop:=∀ j,lo≤s * j→SrF key f (s * j) (min (s * j+s) n)
theorem zow (f:Nat→Option α)(t:Nat)(_ht:0<t):BlF key f t 0:=fun j h=>by omega
theorem BlF.step {t A k:Nat}(h:BlF key f t A)(ht:0<t)(hA:A=t * k)(m:MvF f g A (A+t))(s:SrF key g A (A+t)):BlF key g t (A+t):=fun j hj=>by
 have h1:t * j≤t * k:=by omega
 have h2:=Nat.le_of_mul_le_mul_left h1 ht;rcases Nat.lt_or_ge j k with e | e
 ·have h3:t * (j+1)≤t * k:=Nat.mul_le_mul_left t e;rw [Nat.mul_succ] at h3;exact (h j (by omega)).keep fun q _ hq=>m.out q (by omega)
 ·obtain rfl:j=k:=by omega
  rw [← hA];exact s
theorem BkF.step {s t A n:Nat}(h:BkF key f s A n)(m:MvF f g A (A+t)):BkF key g s (A+t) n:=fun j hj=>(h j (by omega)).keep fun q hq _=>m.out q (by omega)
theorem BlF.fin {t A k n:Nat}(h:BlF key f t A)(hA:A=t * k)(hn:n<A+t)(hAn:A≤n)(m:MvF f g A n)(s:SrF key g A n):BkF key g t 0 n:=fun j _=>by
 rcases Nat.lt_trichotomy j k with e | e | e
 ·have h3:t * (j+1)≤t * k:=Nat.mul_le_mul_left t e;rw [Nat.mul_succ] at h3;rw [Nat.min_eq_left (by omega)];exact (h j (by omega)).keep fun q _ hq=>m.out q (by omega)
 ·subst e;rw [← hA,Nat.min_eq_right (by omega)];exact s
 ·have h3:t * (k+1)≤t * j:=Nat.mul_le_mul_left t e;rw [Nat.mul_succ] at h3;intro i i' x y h1 h2 h4;omega
theorem BkF.two {s t A k n:Nat}(h:BkF key f s A n)(ht:t=2 * s)(hA:A=t * k):SrF key f A (min (A+s) n)∧SrF key f (A+s) (min (A+t) n):=by
 have e1:s * (2 * k)=A:=by rw [hA,ht,← Nat.mul_assoc,Nat.mul_comm s 2]
 have e2:s * (2 * k+1)=A+s:=by rw [Nat.mul_succ,e1]
 have h1:=h (2 * k) (by omega);have h2:=h (2 * k+1) (by omega);rw [e1] at h1;rw [e2,show A+s+s=A+t by omega] at h2;exact ⟨h1,h2⟩
theorem BkF.mono {s lo lo' n:Nat}(h:BkF key f s lo n)(hl:lo≤lo'):BkF key f s lo' n:=fun j hj=>h j (by omega)
theorem BkF.all {s n:Nat}(h:BkF key f s 0 n)(hn:n≤s):SrF key f 0 n:=by
 have:=h 0 (Nat.zero_le _);rw [Nat.mul_zero,Nat.zero_add,Nat.min_eq_right hn] at this;exact this
theorem zox {d:List α}(h:SrF key (fun k=>d[k]?) 0 d.length):d.Pairwise fun x y=>key x≤key y:=by
 rw [List.pairwise_iff_getElem];intro i j hi hj hij;exact h i j _ _ (Nat.zero_le _) hij hj (List.getElem?_eq_getElem hi) (List.getElem?_eq_getElem hj)
end
theorem zoy {α:Type}(enc:α→Value)(key:α→Rat)(g:Nat)(cb:Array Value)(B blk cap:Nat)(d0:List α)(W0:World)(hl:d0.length≤1000)(h1:OneCell enc)
  (eg:∀ args w,(callFunc g args).run Tryz.prog w=.ok (.enter g args) w)
  (hcmp:∀ W,W0.grownBy W (some blk)→∀ x∈d0,∀ y∈d0,Calls Tryz.prog g (#[enc x,enc y]++cb) W fun e w'=>(∃ z:Int,e=.returned (.int .i64 z)∧(z<0 ↔ key x<key y))∧Ext W w') :
  ∀ (N a m b:Nat)(d:List α)(w:World),b - a≤N→a<m→m<b→b≤d0.length→InR 3 W0 B blk cap enc d0 w d→SrF key (fun k=>d[k]?) a m→SrF key (fun k=>d[k]?) m b →
   Calls Tryz.prog 158 #[.slice (some ⟨blk,0,none⟩) d0.length cap,.int .i64 a,.int .i64 m,.int .i64 b,.func (.func g) #[] cb] w (zok 3 W0 B blk cap enc key d0 d a b):=by
 intro N;induction N with
 | zero=>intro a m b d w hN ham hmb;omega
 | succ N ih =>
  intro a m b d w hN ham hmb hbn hR hs1 hs2
  rcases Nat.lt_or_ge (a+1) m with e | e
  ·rcases Nat.lt_or_ge (m+1) b with e2 | e2
   ·exact zov enc key g cb B blk cap a m b d0 d W0 w hR hl h1 eg hcmp (fun a' m' b' dk W hlt g1 g2 g3 hR' s1 s2=>ih a' m' b' dk W (by omega) g1 g2 g3 hR' s1 s2) e e2 hbn hs1 hs2
   ·obtain rfl:b=m+1:=by omega
    exact zon enc key g cb B blk cap a m d0 d W0 w hR hl h1 eg hcmp e hbn hs1
  ·obtain rfl:m=a+1:=by omega
   exact zom enc key g cb B blk cap a b d0 d W0 w hR hl h1 eg hcmp hmb hbn hs2
theorem zoz {α:Type}(enc:α→Value)(key:α→Rat)(g:Nat)(cb:Array Value)(B blk cap:Nat)(d0:List α)(W0:World)(hR:InR 3 W0 B blk cap enc d0 W0 d0)(hl:d0.length≤1000)(h1:OneCell enc)
  (eg:∀ args w,(callFunc g args).run Tryz.prog w=.ok (.enter g args) w)
  (hcmp:∀ W,W0.grownBy W (some blk)→∀ x∈d0,∀ y∈d0,Calls Tryz.prog g (#[enc x,enc y]++cb) W fun e w'=>(∃ z:Int,e=.returned (.int .i64 z)∧(z<0 ↔ key x<key y))∧Ext W w') :
  Calls Tryz.prog 121 #[.slice (some ⟨blk,0,none⟩) d0.length cap,.int .i64 d0.length,.func (.func g) #[] cb] W0 fun e w'=>e=.returned (.tuple #[])∧∃ d',InR 3 W0 B blk cap enc d0 w' d'∧d'.Pairwise fun x y=>key x≤key y:=by
 have hins:=fun (a b:Nat)(d:List α) W (hR:InR 3 W0 B blk cap enc d0 W d)(hb:b≤d0.length)(hab:a≤b)=>zot enc key g cb B blk cap a b d0 d W0 W hR hl h1 eg hcmp hb hab;have hsym:=fun (a m b:Nat)(d:List α) W (hR:InR 3 W0 B blk cap enc d0 W d)(h2:a<m)(h3:m<b)(h4:b≤d0.length)(s1:SrF key (fun k=>d[k]?) a m)(s2:SrF key (fun k=>d[k]?) m b)=>zoy enc key g cb B blk cap d0 W0 hl h1 eg hcmp (b - a) a m b d W (Nat.le_refl _) h2 h3 h4 hR s1 s2;generalize hn:d0.length=n at *;have HR:=hid hR;have Hn:=hid hn;have Hins:=hid hins;have Hsym:=hid hsym;clear hR hcmp hn hins hsym;go_enter Tryz.func121,Tryz.ntmps121
 go_wp2_with fail
 go_loopw [7,8] (fun v7 v8 wr=>∃ (A Bn:Nat)(dk:List α),v7=.int .i64 A∧v8=.int .i64 Bn∧A≤n∧Hid (Bn=A+20∧∃ k,A=20 * k)∧Hid (BlF key (fun k=>dk[k]?) 20 A)∧Hid (InR 3 W0 B blk cap enc d0 wr dk)) (fun v7 _ _=>n+1 - (zag v7).toNat)
 case atStart=>exact ⟨0,20,d0,rfl,rfl,Nat.zero_le _,hid ⟨rfl,0,rfl⟩,hid (zow _ 20 (by decide)),HR⟩
 case round =>
  clear HR;obtain ⟨A,Bn,dk,rfl,rfl,hAn,HB,HL,HR⟩:=hrel;have hB:=HB.out.1;by_cases hlt:Bn≤n
  ·have hz:(Bn:Int)≤(n:Int):=(by omega);have hb1:Bn≤1000:=(by omega);have hab:A≤Bn:=(by omega);clear hB;go_wp2_with fail
   with_reducible refine (Hins.out A Bn dk _ HR.out hlt hab).mono ?_
   rintro e w1 ⟨rfl,d1,h1',m1,s1⟩;have H1:=hid h1';have M1:=hid m1;have S1:=hid s1;clear h1' m1 s1;go_wp2_with fail
   go_roundw
   case rel =>
    have hB:=HB.out.1;obtain ⟨k,hk⟩:=HB.out.2;refine ⟨Bn,Bn+20,d1,rfl,by first | rfl | go_num | (congr 1;omega),hlt,hid ⟨rfl,k+1,by omega⟩,?_,H1⟩;have m:=M1.out;have s:=S1.out;rw [hB] at m s ⊢;exact hid (HL.out.step (by decide) hk m s)
   case measure =>
    have hB:=HB.out.1;simp [zag];omega
  ·have hz:¬ (Bn:Int)≤(n:Int):=(by omega);have HBn:Hid (n<Bn):=hid (by omega);clear hB hlt;go_wp2_with fail
   with_reducible refine (Hins.out A n dk _ HR.out (Nat.le_refl _) hAn).mono ?_
   rintro e w1 ⟨rfl,d1,h1',m1,s1⟩;have H1:=hid h1';have HK:Hid (BkF key (fun k=>d1[k]?) 20 0 n):=hid (by
    obtain ⟨k,hk⟩:=HB.out.2;have:=HBn.out;have:=HB.out.1;exact HL.out.fin hk (by omega) hAn m1 s1)
   clear h1' m1 s1 HB HL HR HBn hz hAn;go_wp2_with fail
   go_loopw [6,7,8,9] (fun v6 _ _ _ wr=>∃ (s:Nat)(dk:List α),v6=.int .i64 s∧1≤s∧(s≤2 * n∨s=20)∧Hid (BkF key (fun k=>dk[k]?) s 0 n)∧Hid (InR 3 W0 B blk cap enc d0 wr dk)) (fun v6 _ _ _ _=>n - (zag v6).toNat)
   case atStart=>exact ⟨20,d1,rfl,by decide,.inr rfl,HK,H1⟩
   case round =>
    clear HK H1;obtain ⟨s,dk,rfl,hs1,hs2,HK,HR⟩:=hrel;by_cases hsn:s<n
    ·have hz:(s:Int)<(n:Int):=(by omega);obtain ⟨t,ht⟩:∃ t,t=2 * s:=⟨_,rfl⟩;have e1:(2:Int) * (s:Int)=(t:Int):=(by omega);have e1':(s:Int) * (2:Int)=(t:Int):=(by omega);have ht2:t≤2000:=(by omega);have ht0:0<t:=(by omega);have Ht:=hid ht;clear ht hs2;go_wp2_with fail
     obtain ⟨wa,hwa⟩:∃ wa,wa=wr:=⟨_,rfl⟩;subst hwa;go_loopw [7,8] (fun v7 v8 wr=>∃ (A Bn:Nat)(dk:List α),v7=.int .i64 A∧v8=.int .i64 Bn∧A≤n∧Hid (Bn=A+t∧∃ k,A=t * k)∧Hid (BlF key (fun k=>dk[k]?) t A)∧Hid (BkF key (fun k=>dk[k]?) s A n)∧Hid (InR 3 W0 B blk cap enc d0 wr dk)) (fun v7 _ _=>n+1 - (zag v7).toNat)
     case atStart=>exact ⟨0,t,dk,rfl,rfl,Nat.zero_le _,hid ⟨(Nat.zero_add _).symm,0,rfl⟩,hid (zow _ t ht0),HK,HR⟩
     case round =>
      clear HK HR;obtain ⟨A,Bn,dk,rfl,rfl,hAn,HB,HL,HK,HR⟩:=hrel;have hB:=HB.out.1;have ht:=Ht.out;obtain ⟨M,hM⟩:∃ M,M=A+s:=⟨_,rfl⟩;have e2:(A:Int)+(s:Int)=(M:Int):=(by omega);have htwo:=BkF.two HK.out Ht.out HB.out.2.choose_spec;have hA1000:A≤1000:=(by omega);have hB3000:Bn≤3000:=(by omega);by_cases hlt:Bn≤n
      ·have hzb:(Bn:Int)≤(n:Int):=(by omega);have hAM:A<M:=(by omega);have hMB:M<Bn:=(by omega);have k1:SrF key (fun k=>dk[k]?) A M:=by
        have:=htwo.1;rw [Nat.min_eq_left (by omega),← hM] at this;exact this
       have k2:SrF key (fun k=>dk[k]?) M Bn:=by
        have:=htwo.2;rw [Nat.min_eq_left (by omega),← hM,← hB] at this;exact this
       have HK1:=hid k1;have HK2:=hid k2;clear hB ht htwo hM k1 k2;go_wp2_with fail
       with_reducible refine (Hsym.out A M Bn dk _ HR.out hAM hMB hlt HK1.out HK2.out).mono ?_
       rintro e w1 ⟨rfl,d1,h1',m1,s1⟩;have H1:=hid h1';have M1:=hid m1;have S1:=hid s1;clear h1' m1 s1;go_wp2_with fail
       go_roundw
       case rel =>
        have hB:=HB.out.1;obtain ⟨k,hk⟩:=HB.out.2;have m:=M1.out;have s:=S1.out;refine ⟨Bn,Bn+t,d1,rfl,by first | rfl | go_num | (congr 1;omega),hlt,hid ⟨rfl,k+1,by rw [Nat.mul_succ,← hk];exact hB⟩,?_,?_,H1⟩
        ·rw [hB] at m s ⊢;exact hid (HL.out.step ht0 hk m s)
        ·rw [hB] at m ⊢;exact hid (HK.out.step m)
       case measure =>
        simp [zag];omega
      ·have hzb:¬ (Bn:Int)≤(n:Int):=(by omega);have HBn:Hid (n<A+t):=hid (by omega);by_cases hMn:M<n
       ·have hzm:(M:Int)<(n:Int):=(by omega);have hAM:A<M:=(by omega);have k1:SrF key (fun k=>dk[k]?) A M:=by
         have:=htwo.1;rw [Nat.min_eq_left (by omega),← hM] at this;exact this
        have k2:SrF key (fun k=>dk[k]?) M n:=by
         have:=htwo.2;rw [Nat.min_eq_right (by omega),← hM] at this;exact this
        have HK1:=hid k1;have HK2:=hid k2;clear hB ht htwo hM k1 k2 hlt;go_wp2_with fail
        with_reducible refine (Hsym.out A M n dk _ HR.out hAM hMn (Nat.le_refl _) HK1.out HK2.out).mono ?_
        rintro e w1 ⟨rfl,d1,h1',m1,s1⟩;have H1:=hid h1';have M1:=hid m1;have S1:=hid s1;clear h1' m1 s1;go_wp2_with fail
        go_roundw
        case rel =>
         obtain ⟨k,hk⟩:=HB.out.2;exact ⟨t,d1,rfl,by omega,.inl (by have:=Ht.out;omega),hid (HL.out.fin hk HBn.out hAn M1.out S1.out),H1⟩
        case measure =>
         have:=Ht.out;simp [zag];omega
       ·have hzm:¬ (M:Int)<(n:Int):=(by omega);have k1:SrF key (fun k=>dk[k]?) A n:=by
         have:=htwo.1;rw [Nat.min_eq_right (by omega)] at this;exact this
        have HK1:=hid k1;clear hB ht htwo hM k1 hlt;go_wp2_with fail
        go_roundw
        case rel =>
         obtain ⟨k,hk⟩:=HB.out.2;exact ⟨t,dk,rfl,by omega,.inl (by have:=Ht.out;omega),hid (HL.out.fin hk HBn.out hAn (MvF.refl _ _ _) HK1.out),HR⟩
        case measure =>
         have:=Ht.out;simp [zag];omega
    ·have hz:¬ (s:Int)<(n:Int):=(by omega);go_wp2
     go_end0
     refine ⟨rfl,dk,HR.out,zox ?_⟩;rw [HR.out.len,Hn.out];exact HK.out.all (by omega)
theorem zo0 {α:Type}(enc:α→Value)(key:α→Rat)(g:Nat)(cb:Array Value)(B blk cap:Nat)(d:List α)(w:World)(hR:w.ownsRow B 3 1 (.slice (some ⟨blk,0,none⟩) d.length cap) d.length (d.map enc))(hl:d.length≤1000)(h1:OneCell enc)
  (eg:∀ args w,(callFunc g args).run Tryz.prog w=.ok (.enter g args) w)
  (hcmp:∀ W,w.grownBy W (some blk)→∀ x∈d,∀ y∈d,Calls Tryz.prog g (#[enc x,enc y]++cb) W fun e w'=>(∃ z:Int,e=.returned (.int .i64 z)∧(z<0 ↔ key x<key y))∧Ext W w') :
  Calls Tryz.prog 80 #[.slice (some ⟨blk,0,none⟩) d.length cap,.func (.func g) #[] cb] w fun e w'=>e=.returned (.tuple #[])∧∃ d',InR 3 w B blk cap enc d w' d'∧d'.Pairwise fun x y=>key x≤key y:=by
 have h2:=zoz enc key g cb B blk cap d w ⟨List.Perm.refl _,hR,zeo _ _⟩ hl h1 eg hcmp;generalize hn:d.length=n at *;have H2:=hid h2;clear hR hcmp hn h2;go_enter Tryz.func80,Tryz.ntmps80
 go_wp2_with fail
 refine H2.out.mono ?_;rintro e w1 ⟨rfl,hd⟩;have Hd:=hid hd;clear hd;go_wp2
 go_end0
 exact ⟨rfl,Hd.out⟩
end
section
open Go.RowKit Go.Lib Go.Shelf
attribute [local go_sem] Oper.semAt_some
structure zo1 (p:List Int)(l:List (List Rat)):Prop where
 pe:zee p=0
 few:p.length≤100
 pr:Pr p p.length
 len:∀ x∈l,x.length=p.length
 ft:∀ x∈l,∀ q∈x,Ft 30 q
 dif:∀ x∈l,∀ y∈l,∀ q∈zeT x y,Ft 30 q
theorem zo1.sgn {p:List Int}{l:List (List Rat)}(h:zo1 p l):∀ x∈l,∀ y∈l,(sgM (tms p (dn (zeT x y)) (zeT x y))<0 ↔ mF p x<mF p y):=fun x hx y hy=>by
 have hl:=(h.len x hx).trans (h.len y hy).symm;rw [(zmb (by rw [ziW hl,h.len x hx];exact h.pr) (h.dif x hx y hy)).1,zlU p x y hl];constructor <;> intro g <;> grind
theorem Le.cmpN {p:List Int}{l N:List (List Rat)}(h:Le p l)(hN:∀ x∈N,PlN p l x):zo1 p N:=by
 have hpe:zee p=0∧p.length≤100:=by rcases h.pr with ⟨e,_⟩ | ⟨e,_⟩ <;> rw [e] <;> decide
 refine ⟨hpe.1,hpe.2,h.pr,fun x hx=>h.plen (hN x hx),fun x hx q hq=>?_,fun x hx y hy=>h.dif x y (hN x hx) (hN y hy)⟩;rcases hN x hx with e | e | ⟨z,hz,e⟩
 ·rw [e] at hq;rw [List.eq_of_mem_replicate hq];exact zhA.mono (by omega)
 ·rw [e] at hq;exact (zis q hq).mono (by omega)
 ·rw [e] at hq;exact h.res z hz q hq
def zo2 (p:List Int)(rs:List Qw)(i:Nat):Rat:=mF p (((rs[i]?).map Qw.x).getD [])
theorem zo3 (vp vl:Value)(p:List Int)(rs:List Qw)(bp bl:Nat)(i k:Nat)(w:World)(he:Env w)(h0:w.cell? ⟨bp,0,none⟩=some vp)(h1:w.cell? ⟨bl,0,none⟩=some vl)(hp:Sl w vp (zak p))(hl:RdM w vl rs)(hc:zo1 p (rs.map Qw.x))(hrv:zgJ w)(hi:i<rs.length)(hk:k<rs.length)(_hn:rs.length≤1000) :
  Calls Tryz.prog 81 #[.int .i64 i,.int .i64 k,.pointer (some ⟨bp,0,none⟩),.pointer (some ⟨bl,0,none⟩)] w fun e w'=>(∃ z:Int,e=.returned (.int .i64 z)∧(z<0 ↔ zo2 p rs i<zo2 p rs k))∧Ext w w':=by
 obtain ⟨r,hr⟩:∃ r,rs[i]?=some r:=⟨_,List.getElem?_eq_getElem hi⟩;obtain ⟨s,hs⟩:∃ s,rs[k]?=some s:=⟨_,List.getElem?_eq_getElem hk⟩;have hrm:=List.mem_of_getElem? hr;have hsm:=List.mem_of_getElem? hs;have hrx:=List.mem_map_of_mem (f:=Qw.x) hrm;have hsx:=List.mem_map_of_mem (f:=Qw.x) hsm;have hco:=fun W (hE:Ext w W)=>zoa vp r.u s.u p r.x s.x W (he.ext hE) (hE.sl hp) (hE.rd (hl.2 r hrm)) (hE.rd (hl.2 s hsm)) hc.few (hc.len _ hrx) (hc.len _ hsx) (fun q hq=>(hc.ft _ hrx q hq).mono (by omega)) (fun q hq=>(hc.ft _ hsx q hq).mono (by omega)) hc.pr (hc.dif _ hrx _ hsx) (hrv.ext hE);have hsg:=hc.sgn _ hrx _ hsx;have hkey:zo2 p rs i=mF p r.x∧zo2 p rs k=mF p s.x:=by unfold zo2;rw [hr,hs];exact ⟨rfl,rfl⟩
 rw [hkey.1,hkey.2];obtain ⟨ap,cp,rfl,_,_,_⟩:=hp.parts;obtain ⟨al,cl,rfl,_,_,hcl⟩:=hl.1.parts;obtain ⟨b,off,rfl,h2⟩:=hcl i r.u (by unfold qwc;rw [List.getElem?_map,hr];rfl);obtain ⟨b',off',e',h3⟩:=hcl k s.u (by unfold qwc;rw [List.getElem?_map,hs];rfl)
 cases e'
 obtain ⟨ar,cr,hru,_,_,_⟩:=(hl.2 r hrm).parts;obtain ⟨as',cs,hsu,_,_,_⟩:=(hl.2 s hsm).parts;rw [hru] at hco h2;rw [hsu] at hco h3;rw [zam] at *;rw [zf7] at *;generalize r.x.length=n1 at *;generalize s.x.length=n2 at *;generalize sgM (tms p (dn (zeT r.x s.x)) (zeT r.x s.x))=z at *;generalize rs.length=n at *;have hi0:(0:Int)≤(i:Int):=by omega
 have hi1:(i:Int)<(n:Int):=by omega
 have hk0:(0:Int)≤(k:Int):=by omega
 have hk1:(k:Int)<(n:Int):=by omega
 clear he hrv hp hl hc hr hs hrm hsm hrx hsx hkey hcl hru hsu;have Hco:=hid hco;have Hsg:=hid hsg;clear hco hsg;go_enter Tryz.func81,Tryz.ntmps81
 go_wp2_with fail
 go_region_held3 (fun w'=>Ext w w'∧w'.cell? ⟨bp,0,none⟩=some (.slice ap p.length cp)∧w'.cell? ⟨bl,0,none⟩=some (.slice (some ⟨b,off,none⟩) n cl)∧w'.cell? ⟨b,off+i,none⟩=some (.slice ar n1 cr)∧w'.cell? ⟨b,off+k,none⟩=some (.slice as' n2 cs))
  (first | (with_reducible assumption) | exact ⟨(Ext.refl w).drew,h0,h1,h2,h3⟩)
  (first | (go_at_call 82;refine (Hco.out _ (And.left (by assumption))).mono ?_;rintro e9 VA ⟨rfl,hxa⟩;have hEA:=((Ext.refl w).drew).trans hxa;have hS2:Ext w VA∧VA.cell? ⟨bp,0,none⟩=some (.slice ap p.length cp)∧VA.cell? ⟨bl,0,none⟩=some (.slice (some ⟨b,off,none⟩) n cl)∧VA.cell? ⟨b,off+i,none⟩=some (.slice ar n1 cr)∧VA.cell? ⟨b,off+k,none⟩=some (.slice as' n2 cs):=⟨hEA,hEA.cell h0,hEA.cell h1,hEA.cell h2,hEA.cell h3⟩;have HEA:=hid hEA;clear hxa hEA))
 all_goals
  clear hS2 h0 h1 h2 h3;go_wp2
  go_ret
  exact ⟨⟨z,rfl,Hsg.out⟩,HEA.out⟩
def zo4 (w':World)(B:Nat)(u:Value)(p:List Int)(rs:List Qw)(ord:List Nat):Prop:=w'.ownsRow B 3 1 u rs.length (zjC ord)∧ord.Perm (List.range rs.length)∧ord.Pairwise fun i k=>zo2 p rs i≤zo2 p rs k
theorem zo5 (vp vl:Value)(p:List Int)(rs:List Qw)(w:World)(he:Env w)(hp:Sl w vp (zak p))(hl:RdM w vl rs)(hc:zo1 p (rs.map Qw.x))(hrv:zgJ w)(hn12:rs.length≤1000) :
  Calls Tryz.prog 52 #[vp,vl] w fun e w'=>∃ u ord,e=.returned (.tuple #[u,.int .i64 0])∧zo4 w' w.heap.size u p rs ord∧Ext w w':=by
 obtain ⟨i0,hi,hz0,hz1,hz2⟩:=info_parts zej;have hall:∀ r∈rs,r.x.length=p.length∧∀ q∈r.x,Ft 30 q:=fun r hr=>⟨hc.len _ (List.mem_map_of_mem hr),hc.ft _ (List.mem_map_of_mem hr)⟩;have hca:=fun W (hE:Ext w W)=>zfP vp vl p rs W (he.ext hE) (hE.sl hp) (hE.rdM hl) hc.pe (by omega) hall;have hs1:=fun W W' (bp bl i k:Nat)(hE:Ext w W)(hg:W.grownBy W' none)=>True.intro;clear hs1;have hcl:=fun W (bp bl i k:Nat)(he':Env W)(hr':zgJ W)(h0:W.cell? ⟨bp,0,none⟩=some vp)(h1:W.cell? ⟨bl,0,none⟩=some vl)(hp':Sl W vp (zak p))(hl':RdM W vl rs)(hi:i<rs.length)(hk:k<rs.length)=>zo3 vp vl p rs bp bl i k W he' h0 h1 hp' hl' hc hr' hi hk (by omega);obtain ⟨ap,cp,rfl,_,_,_⟩:=hp.parts;obtain ⟨al,cl,rfl,_,_,_⟩:=hl.1.parts;rw [zam] at *;rw [zf7] at *;have hE0:Ext w ((w.alloc (.cells #[.slice ap p.length cp] 29)).alloc (.cells #[.slice al rs.length cl] 34)):=((Ext.refl w).alloc _).alloc _;have b1:((w.alloc (.cells #[.slice ap p.length cp] 29)).alloc (.cells #[.slice al rs.length cl] 34)).heap[w.heap.size]?=some (.cells #[.slice ap p.length cp] 29 (0,0)):=((Ext.refl _).alloc _).heap (World.alloc_heap_new w _);have b2:((w.alloc (.cells #[.slice ap p.length cp] 29)).alloc (.cells #[.slice al rs.length cl] 34)).heap[w.heap.size+1]?=some (.cells #[.slice al rs.length cl] 34 (0,0)):=by
  have:=World.alloc_heap_new (w.alloc (.cells #[.slice ap p.length cp] 29)) (.cells #[.slice al rs.length cl] 34);rwa [World.size_alloc] at this
 generalize hn:rs.length=n at *;have Hn:=hid hn;have Hp:=hid hp;have Hl:=hid hl;have Hcl:=hid hcl;have HE0:=hid hE0;have B1:=hid b1;have B2:=hid b2;have Hca:=hid hca;have He:=hid he;have Hrv:=hid hrv;clear hp hl hc hall hcl hE0 b1 b2 hca he hrv hn;have cell1:∀ (W:World)(b:Nat)(x:Value)(t:TypeId),W.heap[b]?=some (.cells #[x] t (0,0))→W.cell? ⟨b,0,none⟩=some x:=fun W b x t h=>by unfold World.cell?;dsimp only;rw [h];rfl
 have Cell1:=hid cell1;clear cell1;go_enter Tryz.func52,Tryz.ntmps52
 have q0:=Cell1.out _ _ _ _ B1.out;have q1:=Cell1.out _ _ _ _ B2.out;go_wp2_with fail
 refine (Hca.out _ HE0.out).mono ?_;rintro e w1 ⟨rfl,hx1⟩;have q0:=hx1.cell q0;have q1:=hx1.cell q1;have Hx1:=hid hx1;clear hx1;go_wp2_with fail
 go_loopw [7,8,17] (fun v7 v8 v17 wr=>∃ k:Nat,v17=.int .i64 k∧k≤n∧wr.ownsRow w1.heap.size 3 1 v7 k (zjC (List.range k))∧Ext w1 wr) (fun _ _ v17 _=>n - (zag v17).toNat)
 case atStart=>exact ⟨0,rfl,Nat.zero_le _,World.ownsRow_nil w1 _ _ 1,Ext.refl _⟩
 case round =>
  clear q0 q1;obtain ⟨k,rfl,hk,ho,hE⟩:=hrel;obtain ⟨a7,c7,rfl⟩:=zel ho;by_cases hkn:k<n
  ·have hk1:(k:Int)<(n:Int):=(by omega);have hm3:k+1≤maxLen:=(by unfold maxLen;omega);have hm4:(k+1) * 8≤140737488355328:=(by omega);have hbase:=hE.size;have HE:=hid hE;clear hE;go_wp2_with (at_builtin;refine wpList_append_own _ rfl _ _ 28 rfl w1.heap.size 3 i0 (.int .i64 0) 1 8 Tryz.underlying28 hi hz0 hz1 hz2 rfl (by decide) _ _ _ rfl (ho.alloc _) ⟨wr.heap.size,0,none⟩ 1 1 [.int .i64 k] rfl rfl (cell_one_new _ _ _) (by simp [Value.oneCell']) hm3 hm4 (by rw [World.size_alloc];omega) ?_;intro v7 V7 hown7 hgrow7 _)
   go_roundw
   case rel=>exact ⟨k+1,by go_num,by omega,by rw [zjD];exact hown7,(HE.out.alloc _).grown hgrow7 fun j hj=>(World.ownsRow.lt ho j hj).1⟩
   case measure=>simp [zag];omega
  ·obtain rfl:n=k:=by omega
   have q0:=hE.cell (Hx1.out.cell (Cell1.out _ _ _ _ B1.out));have q1:=hE.cell (Hx1.out.cell (Cell1.out _ _ _ _ B2.out));have hEw:=(HE0.out.trans Hx1.out).trans hE;have hlo:=(HE0.out.trans Hx1.out).size;have HE:=hid hE;have HEw:=hid hEw;clear hE hEw;rcases ho.2 with ⟨e0,hn0⟩ | ⟨g,cap,cur,e0,hb,hg,h1,h2,h3,h4⟩
   ·obtain rfl:n=0:=hn0;injection e0 with e1 e2 e3;subst e1;subst e3;have hst:=fun W=>zj6 81 #[.pointer (some ⟨w.heap.size,0,none⟩),.pointer (some ⟨w.heap.size+1,0,none⟩)] W;have Hst:=hid hst;clear hst ho e2;go_wp2_with fail
    refine (Hst.out _).mono ?_;rintro e w5 ⟨rfl,hx5⟩;have Hx5:=hid hx5;clear hx5 q0 q1;go_wp2
    go_ret2
    exact ⟨_,[],rfl,⟨by rw [Hn.out];exact World.ownsRow_nil _ _ _ 1,by rw [Hn.out];exact List.Perm.refl _,List.Pairwise.nil⟩,HEw.out.trans Hx5.out⟩
   ·injection e0 with e1 e2 e3;subst e1;subst e3;have hgne:g ≠ w.heap.size∧g ≠ w.heap.size+1:=by
     have l1:w.heap.size+1<w1.heap.size:=by
      have:=Hx1.out.heap B2.out;exact (Array.getElem?_eq_some_iff.1 this).1
     omega
    have hpr:∀ W,wr.grownBy W (some g)→Sl W (.slice ap p.length cp) (zak p)∧RdM W (.slice al n cl) rs∧(Env W∧zgJ W)∧W.cell? ⟨w.heap.size,0,none⟩=some (.slice ap p.length cp)∧W.cell? ⟨w.heap.size+1,0,none⟩=some (.slice al n cl):=fun W hg=>by
     have hx:Ext w W:=HEw.out.grown hg (fun k hk=>by cases hk;omega);refine ⟨hx.sl Hp.out,hx.rdM Hl.out,⟨He.out.ext hx,Hrv.out.ext hx⟩,?_,?_⟩
     ·exact Cell1.out _ _ _ _ ((hg.block _ (by have:=HE.out.size;have:=(Array.getElem?_eq_some_iff.1 (Hx1.out.heap B1.out)).1;omega) (by intro e;cases e;exact hgne.1 rfl)).trans ((HE.out.heap (Hx1.out.heap B1.out))))
     ·exact Cell1.out _ _ _ _ ((hg.block _ (by have:=HE.out.size;have:=(Array.getElem?_eq_some_iff.1 (Hx1.out.heap B2.out)).1;omega) (by intro e;cases e;exact hgne.2 rfl)).trans ((HE.out.heap (Hx1.out.heap B2.out))))
    have hst:=zo0 (fun i:Nat=>Value.int .i64 (i:Int)) (zo2 p rs) 81 #[.pointer (some ⟨w.heap.size,0,none⟩),.pointer (some ⟨w.heap.size+1,0,none⟩)] w1.heap.size g c7 (List.range n) wr (by rw [List.length_range];exact ho) (by rw [List.length_range];exact hn12) (fun _=>rfl) zjE (fun W hg x hx y hy=>by
     obtain ⟨a1,a2,a3,a4,a5⟩:=hpr W hg;rw [List.mem_range] at hx hy;exact Hcl.out W w.heap.size (w.heap.size+1) x y a3.1 a3.2 a4 a5 a1 a2 hx hy)
    rw [List.length_range] at hst;have Hst:=hid hst;clear hst hpr ho hg h1 h2 h3 h4 q0 q1 e2;go_wp2_with fail
    refine Hst.out.mono ?_;rintro e w5 ⟨rfl,d5,hR5,hS5⟩;have HR5:=hid hR5;have HS5:=hid hS5;clear hR5 hS5;go_wp2
    go_ret2
    have hown:=HR5.out.own;rw [List.length_range] at hown;exact ⟨_,d5,rfl,⟨by rw [Hn.out];exact zah hown hlo,by rw [Hn.out];exact HR5.out.perm,HS5.out⟩,HEw.out.grown HR5.out.only fun k hk=>by cases hk;omega⟩
end
end Go.Proofs.YtoehmpbipbbffaaGreatDoor
