/- Walks: subset.subsets: the recursion yields the candidates. (Printed by sbg.py.) Walks: subset.subsets and its iterator. Walks: class.Varieties. Walks: slices.IndexFunc and slices.ContainsFunc at lists of classes, with a closure that makes memory. -/
import Derived.Test.YtebabancfnmfjaaGreatDoorPm29
import Derived.Laws.MakeOwn
import Derived.Laws.EntriesVeiled
import Derived.Test.YtebabancfnmfjaaGreatDoorPm27
import Derived.Shelf.Abstract
set_option maxRecDepth 100000
set_option maxHeartbeats 4000000
namespace Go.Proofs.YtebabancfnmfjaaGreatDoor
section
open Go.RowKit Go.Lib Go.Shelf
attribute [local go_sem] Oper.semAt_some
def ChR (J:List Iw→World→Prop)(n0 Bq Bn By Bc r0 ly:Nat)(vp vn:Value)(n m:Nat)(P:Int)(am:Option Addr)(cm:Nat)(b:Bool)(M ns:List Int)(pre:List Iw)(u:Nat)(C:List (List Int))(S k:Nat)(wr:World):Prop :=
 ∃ ys:List Iw,C=ys.map Iw.l++cho n m M (n - k) ns u∧J (pre++ys) wr∧ItS wr n0 Bq Bn By Bc r0 ly vp vn n m P am cm b M ns∧S≤wr.heap.size
def ChE (J:List Iw→World→Prop)(n0 Bq Bn By Bc r0 ly:Nat)(vp vn:Value)(n m:Nat)(P:Int)(am:Option Addr)(cm:Nat)(b:Bool)(M ns:List Int)(pre:List Iw)(C:List (List Int))(S:Nat)(w':World):Prop :=
 ∃ ys:List Iw,ys.map Iw.l=C∧J (pre++ys) w'∧ItS w' n0 Bq Bn By Bc r0 ly vp vn n m P am cm b M ns∧S≤w'.heap.size
section
variable {J : List Iw → World → Prop} {n0 Bq Bn By Bc r0 ly : Nat} {vp vn : Value} {n m : Nat} {P : Int} {am : Option Addr} {cm : Nat} {b : Bool} {M ns : List Int} {pre : List Iw} {u : Nat} {C : List (List Int)} {S k : Nat} {wr : World}
theorem ChR.done (h:ChR J n0 Bq Bn By Bc r0 ly vp vn n m P am cm b M ns pre u C S k wr)(hc:cho n m M (n - k) ns u=[]):ChE J n0 Bq Bn By Bc r0 ly vp vn n m P am cm b M ns pre C S wr:=by
 obtain ⟨ys,e,hj,hi,hs⟩:=h;exact ⟨ys,by rw [e,hc,List.append_nil],hj,hi,hs⟩
end
theorem zn8 {n0 Bq Bn By Bc r0 ly:Nat}{vp vn:Value}{n m:Nat}{P:Int}{am:Option Addr}{cm:Nat}{b:Bool}{M:List Int}{c N:Nat}{J:List Iw→World→Prop}{R:Nat→Prop}{V:List Int→Prop}
  (hJ:znu By c J) (hc:c=By+3) (hBc:Bc=By+1) (hr0:r0=By+2) (hlo:n0≤By∧Bq<By∧Bn<By) (hR:∀ r,ItR n0 Bq Bn By Bc r∨r=r0→R r)
  (hY:∀ pre x W1,J pre W1→znx V c x W1→c≤W1.heap.size→pre.length<N→YieldAt Fence.wide 1 Tryz.prog ly #[x.u] W1 fun e W'=>e=.returned (.bool true)∧J (pre++[x]) W'∧znt R W1 W')
  (hM:M.length≤1000) (hm:m≤1000) (hn:n≤1000) (f:Nat) :
  ∀ (ns:List Int)(u:Nat)(pre:List Iw)(W:World),f≤n→ns.length≤m→u≤M.length→J pre W→ItS W n0 Bq Bn By Bc r0 ly vp vn n m P am cm b M ns→c≤W.heap.size→pre.length+(cho n m M f ns u).length≤N→(∀ l∈cho n m M f ns u,V l) →
  Calls Tryz.prog 175 #[.slice (some ⟨r0,0,none⟩) ns.length m,.int .i64 ((n - f:Nat):Int),.int .i64 (u:Int),.pointer (some ⟨Bq,0,none⟩),.pointer (some ⟨By,0,none⟩),.pointer (some ⟨Bn,0,none⟩),.pointer (some ⟨Bc,0,none⟩)] W
   fun e w'=>e=.returned (.bool true)∧ChE J n0 Bq Bn By Bc r0 ly vp vn n m P am cm b M ns pre (cho n m M f ns u) W.heap.size w':=by
 induction f using Nat.strongRecOn with
 | ind f ih =>
 intro ns u pre W hf hlm hu hj hI hW hN hVV;by_cases hfull:ns.length=m
 ·by_cases hul:u<M.length
  ·refine (zn6 hI hfull (n - f) u hul).mono fun e w' ⟨he,hx⟩=>⟨he,[],?_,by rw [List.append_nil];exact hJ.ext hj hx,hI.ext hx,hx.size⟩;rw [zn0 hfull,if_pos hul];rfl
  ·have hch:=zn0 (n:=n) (M:=M) (f:=f) (u:=u) hfull;rw [if_neg hul] at hch;refine (zn7 hJ hR hY (hVV ns (by rw [hch];exact List.mem_singleton.2 rfl)) hj (by rw [hch] at hN;simp at hN;omega) hW hI hfull (n - f) u hul hM hm).mono fun e w' ⟨he,x,hx,hj2,hi2,hs2⟩=>⟨he,[x],?_,hj2,hi2,hs2⟩;rw [hch,← hx];rfl
 ·obtain ⟨i0,hi,hz0,hz1,hz2⟩:=info_parts zfh;have hrec:=fun (g:Nat)(hg:g<f)(z:Int)(v:Nat)(pre2:List Iw)(W7:World)(hz:z=((n - (g+1):Nat):Int))(hv:v≤M.length)(hj7:J pre2 W7)(hi7:ItS W7 n0 Bq Bn By Bc r0 ly vp vn n m P am cm b M (ns++[z]))(hW7:c≤W7.heap.size)(hN7:pre2.length+(cho n m M g (ns++[z]) v).length≤N)(hV7:∀ l∈cho n m M g (ns++[z]) v,V l) =>
   (show Calls Tryz.prog 175 #[.slice (some ⟨r0,0,none⟩) (ns.length+1) m,.int .i64 (z+1),.int .i64 (v:Int),.pointer (some ⟨Bq,0,none⟩),.pointer (some ⟨By,0,none⟩),.pointer (some ⟨Bn,0,none⟩),.pointer (some ⟨Bc,0,none⟩)] W7 fun e w'=>e=.returned (.bool true)∧ChE J n0 Bq Bn By Bc r0 ly vp vn n m P am cm b M ns pre2 (cho n m M g (ns++[z]) v) W7.heap.size w' by
    have h:=ih g hg (ns++[z]) v pre2 W7 (by omega) (by rw [List.length_append,List.length_singleton];omega) hv hj7 hi7 hW7 hN7 hV7;rw [List.length_append,List.length_singleton,show ((n - g:Nat):Int)=z+1 by omega] at h;exact h.mono fun e w' ⟨he,ys,h1,h2,h3,h4⟩=>⟨he,ys,h1,h2,h3.less,h4⟩)
  have hrow7:=fun (wr w7:World)(z:Int)(ob:Obj)(hi6:ItS wr n0 Bq Bn By Bc r0 ly vp vn n m P am cm b M ns)(ho:w7.ownsRow r0 3 1 (.slice (some ⟨r0,0,none⟩) (ns.length+1) m) (ns.length+1) (zaq ns++[.int .i64 z]))(hg:(wr.drew.alloc ob).grownBy w7 (some r0)) =>
   (show ItS w7 n0 Bq Bn By Bc r0 ly vp vn n m P am cm b M (ns++[z]) by
    refine (hi6.ext ((Ext.refl wr).drew.alloc ob)).keepRow ⟨hg.size,fun r hr hl=>hg.block r hl fun e=>?_⟩ ?_
    ·injection e with e;rcases hr with h | h | h | h | h <;> omega
    ·rw [List.length_append,List.length_singleton,zaq,List.map_append];exact ho)
  have hj7:=fun (pre2:List Iw)(wr w7:World)(ob:Obj)(h:J pre2 wr)(hg:(wr.drew.alloc ob).grownBy w7 (some r0))=>(show J pre2 w7 from znu.row hJ (hJ.ext h ((Ext.refl wr).drew.alloc ob)) hg (by omega) (by omega));have hR0:ChR J n0 Bq Bn By Bc r0 ly vp vn n m P am cm b M ns pre u (cho n m M f ns u) W.heap.size (n - f) W:=⟨[],by rw [show n - (n - f)=f by omega];rfl,by rw [List.append_nil];exact hj,hI,Nat.le_refl _⟩;have hover:=fun (g:Nat)(h:g<m - ns.length)=>zn1 (n:=n) (M:=M) (u:=u) hfull h;have hhit:=fun (g k:Nat)(hg:m - ns.length≤g+1)(hk:k=n - (g+1))(h:M[u]?=some (k:Int))=>(show cho n m M (g+1) ns u=if M.length≤(u+1)+(m - ns.length - 1) then cho n m M g (ns++[(k:Int)]) (u+1) else [] by
   subst hk;exact zn2 hfull hg h)
  have hmiss:=fun (g k:Nat)(hg:m - ns.length≤g+1)(hk:k=n - (g+1))(h:¬ M[u]?=some (k:Int))=>(show cho n m M (g+1) ns u=(if M.length≤u+(m - ns.length - 1) then cho n m M g (ns++[(k:Int)]) u else [])++cho n m M g ns u by
   subst hk;exact zn3 hfull hg h)
  have hMu:∀ z,M[u]?=some z→u<M.length:=fun z h=>(List.getElem?_eq_some_iff.1 h).1;have hMe:u<M.length→∃ z,M[u]?=some z:=fun h=>⟨_,List.getElem?_eq_getElem h⟩;generalize hCC:cho n m M f ns u=CC at *;have Hrec:=hid hrec;have Hrow7:=hid hrow7;have Hj7:=hid hj7;have HR0:=hid hR0;have Hover:=hid hover;have Hhit:=hid hhit;have Hmiss:=hid hmiss;have HMu:=hid hMu;have HMe:=hid hMe;have HN:=hid hN;have HVV:=hid hVV;have HW:=hid hW;have HJ:=hid hJ;have Hlo:=hid hlo;have hLt:ns.length<m:=by omega
  have q2:=hI.q.cs.2.2.1;clear hVV hrec hrow7 hj7 hR0 hover hhit hmiss hMu hMe hN hCC ih hY hR hJ hj hW hfull hlm hc hBc hr0;generalize hLL:ns.length=L at *;generalize hML:M.length=ML at *;have HLL:=hid hLL;have HML:=hid hML;clear hLL hML hlo hI;have hne1:((L:Int) == (m:Int))=false:=by simp;omega
  go_enter Tryz.func175,Tryz.ntmps175
  go_wp2_with fail
  clear q2 hne1;go_loopw [11,12] (fun v11 v12 wr=>∃ (k:Nat)(z12:Value),v11=.int .i64 (k:Int)∧v12=z12∧n - f≤k∧k≤n∧Hid (ChR J n0 Bq Bn By Bc r0 ly vp vn n m P am cm b M ns pre u CC W.heap.size k wr)) (fun v11 _ _=>n+1 - (zam v11).toNat)
  case atStart=>exact ⟨n - f,_,rfl,rfl,Nat.le_refl _,by omega,HR0⟩
  case round =>
   obtain ⟨k,z12,rfl,rfl,hk0,hkn,HC⟩:=hrel;obtain ⟨ys,hCC,hj,hI,hS⟩:=HC.out;have q2:=hI.q.cs.2.2.1;have q4:=hI.q.cs.2.2.2.2.1;have qn:=hI.bn.cell;have qc:=hI.bc.cell;have hmust:=hI.must;have Hj:=hid hj;have HI:=hid hI;have HCC:=hid hCC;have HS:=hid hS;have Hmust:=hid hmust;clear hj hI hCC hS hmust;rw [HML.out] at q4;have hb1:(0:Int)≤(n:Int) - (k:Int):=(by omega);have hb2:(0:Int)≤(m:Int) - (L:Int):=(by omega);rcases Nat.lt_or_ge (n - k) (m - L) with hcond | hcond
   ·have ht:¬ (m:Int) - (L:Int)≤(n:Int) - (k:Int):=(by omega);have Hno:=hid (Hover.out (n - k) hcond);clear qc q4;go_wp2_with fail
    go_ret
    exact ⟨rfl,HC.out.done Hno.out⟩
   ·obtain ⟨g,hg⟩:∃ g,n - k=g+1:=⟨n - k - 1,by omega⟩;have ht:(m:Int) - (L:Int)≤(n:Int) - (k:Int):=(by omega);have hkg:k=n - (g+1):=(by omega);have hkz:(k:Int)=((n - (g+1):Nat):Int):=(by omega);have hgf:g<f:=(by omega);have hgn:n - (k+1)=g:=(by omega);have hmg:m - L≤g+1:=(by omega);have Hg:=hid hg;have Hkg:=hid hkg;have Hkz:=hid hkz;have Hgn:=hid hgn;clear hg hkg hkz hgn;by_cases hul:u<ML
    ·obtain ⟨z,hz⟩:=HMe.out hul;obtain ⟨bg,bo,rfl,hlt,hcu⟩:=Hmust.out u z hz;have hui:(u:Int)<(ML:Int):=(by omega);have hu0:(0:Int)≤(u:Int):=(by omega);clear hlt;by_cases hzk:z=(k:Int)
     ·subst hzk;have Hit:=hid hz;clear hz;by_cases hG:ML≤(u+1)+(m - L - 1)
      ·skip;have hgi:(ML:Int) - ((u:Int)+1)≤(m:Int) - (L:Int) - 1:=(by omega);have hgd:decide ((ML:Int) - ((u:Int)+1)≤(m:Int) - (L:Int) - 1)=true:=decide_eq_true hgi;have hwa:IntKind.i64.wrap ((m:Int) - (L:Int))=(m:Int) - (L:Int):=IntWalk.i64_in _ (by omega);have hwb:IntKind.i64.wrap ((m:Int) - (L:Int) - 1)=(m:Int) - (L:Int) - 1:=IntWalk.i64_in _ (by omega);have hwc:IntKind.i64.wrap ((ML:Int) - ((u:Int)+1))=(ML:Int) - ((u:Int)+1):=IntWalk.i64_in _ (by omega);have hLm1:L+1≤m:=(by omega);have hvM:(u+1)≤ML:=(by omega);have hk1w:IntKind.i64.wrap ((k:Int)+1)=(k:Int)+1:=IntWalk.i64_in _ (by omega);have hch:=Hhit.out g k hmg Hkg.out Hit.out;rw [if_pos (by omega)] at hch;have hcr:=Hrec.out g hgf (k:Int) (u+1) (pre++ys);have hCt:=HCC.out;rw [Hg.out,hch] at hCt;have hNN:(pre++ys).length+(cho n m M g (ns++[(k:Int)]) (u+1)).length≤N:=by
        have h1:=HN.out;rw [hCt] at h1;simp only [List.length_append,List.length_map] at h1 ⊢;omega
       have hun:((u+1:Nat):Int)=(u:Int)+1:=(by omega);rw [hun] at hcr;have Hcr:=hid hcr;have HCt:=hid hCt;have HNN:=hid hNN;clear hch hcr hCt hNN hun;have Hown:=hid (show (wr.drew.alloc (.cells #[.int .i64 (k:Int)] 3)).ownsRow r0 3 1 (.slice (some ⟨r0,0,none⟩) L m) L (zaq ns) by rw [← HLL.out];exact World.ownsRow.alloc ((Ext.refl wr).drew.own HI.out.row) _);go_wp2_with fail
       go_region_held3 (fun w'=>w'.cell? ⟨Bq,2,none⟩=some (.int .i64 (m:Int))∧w'.cell? ⟨Bq,4,none⟩=some (.slice (some ⟨bg,bo,none⟩) ML cm)∧w'.cell? ⟨Bc,0,none⟩=some (.func (.func 175) #[] #[.pointer (some ⟨Bq,0,none⟩),.pointer (some ⟨By,0,none⟩),.pointer (some ⟨Bn,0,none⟩),.pointer (some ⟨Bc,0,none⟩)]))
        (first | (with_reducible assumption) | exact ⟨(Ext.refl wr).drew.cell q2,(Ext.refl wr).drew.cell q4,(Ext.refl wr).drew.cell qc⟩ | exact ⟨((Ext.refl wr).drew.alloc _).cell q2,((Ext.refl wr).drew.alloc _).cell q4,((Ext.refl wr).drew.alloc _).cell qc⟩)
        (first
         | (refine zn4 (by rfl) _ _ 24 rfl r0 3 i0 1 Tryz.underlying24 hi hz1 r0 L m (zaq ns) (by rfl) Hown.out ⟨wr.heap.size,0,none⟩ 1 1 [.int .i64 (k:Int)] (by rfl) rfl (cell_one_new _ _ _) (by simp [Value.oneCell']) hLm1 ?_;intro w7 hown7 hg7;have hi7:=Hrow7.out wr w7 (k:Int) _ HI.out hown7 hg7;have hj7:=Hj7.out (pre++ys) wr w7 _ Hj.out hg7;have hsz7:wr.heap.size≤w7.heap.size:=Nat.le_trans ((Ext.refl wr).drew.alloc _).size hg7.size;have hS7:w7.cell? ⟨Bq,2,none⟩=some (.int .i64 (m:Int))∧w7.cell? ⟨Bq,4,none⟩=some (.slice (some ⟨bg,bo,none⟩) ML cm)∧w7.cell? ⟨Bc,0,none⟩=some (.func (.func 175) #[] #[.pointer (some ⟨Bq,0,none⟩),.pointer (some ⟨By,0,none⟩),.pointer (some ⟨Bn,0,none⟩),.pointer (some ⟨Bc,0,none⟩)]):=⟨hi7.q.cs.2.2.1,(by have e4:=hi7.q.cs.2.2.2.2.1;rw [HML.out] at e4;exact e4),hi7.bc.cell⟩;have Hi7:=hid hi7;have HJ7:=hid hj7;have Hs7:=hid hsz7;clear hi7 hj7 hsz7 hown7 hg7)
         | (go_at_call 175;refine (Hcr.out w7 Hkz.out hvM HJ7.out Hi7.out (Nat.le_trans HW.out (Nat.le_trans HS.out Hs7.out)) HNN.out (fun l hl=>HVV.out l (by rw [HCt.out];exact List.mem_append.2 (.inr hl)))).mono ?_;rintro e w8 ⟨rfl,hE8⟩;have hS8:w8.cell? ⟨Bq,2,none⟩=some (.int .i64 (m:Int))∧w8.cell? ⟨Bq,4,none⟩=some (.slice (some ⟨bg,bo,none⟩) ML cm)∧w8.cell? ⟨Bc,0,none⟩=some (.func (.func 175) #[] #[.pointer (some ⟨Bq,0,none⟩),.pointer (some ⟨By,0,none⟩),.pointer (some ⟨Bn,0,none⟩),.pointer (some ⟨Bc,0,none⟩)]):=(by obtain ⟨_,_,_,hi8,_⟩:=hE8;exact ⟨hi8.q.cs.2.2.1,(by have e4:=hi8.q.cs.2.2.2.2.1;rw [HML.out] at e4;exact e4),hi8.bc.cell⟩);have HE8:=hid hE8;clear hE8))
       all_goals
        obtain ⟨ys2,hm2,hj8,hi8,hs8⟩:=HE8.out;have Hm2:=hid hm2;have Hj8:=hid hj8;have Hi8:=hid hi8;have Hs8:=hid hs8;clear hm2 hj8 hi8 hs8;go_wp2_with fail
        go_ret
        exact ⟨rfl,ys++ys2,by rw [List.map_append,Hm2.out,HCt.out],by rw [← List.append_assoc];exact Hj8.out,Hi8.out,Nat.le_trans HS.out (Nat.le_trans Hs7.out Hs8.out)⟩
      ·skip;have hgi:¬ (ML:Int) - ((u:Int)+1)≤(m:Int) - (L:Int) - 1:=(by omega);have hgd:decide ((ML:Int) - ((u:Int)+1)≤(m:Int) - (L:Int) - 1)=false:=decide_eq_false hgi;have hwa:IntKind.i64.wrap ((m:Int) - (L:Int))=(m:Int) - (L:Int):=IntWalk.i64_in _ (by omega);have hwb:IntKind.i64.wrap ((m:Int) - (L:Int) - 1)=(m:Int) - (L:Int) - 1:=IntWalk.i64_in _ (by omega);have hwc:IntKind.i64.wrap ((ML:Int) - ((u:Int)+1))=(ML:Int) - ((u:Int)+1):=IntWalk.i64_in _ (by omega);have hch:=Hhit.out g k hmg Hkg.out Hit.out;rw [if_neg (by omega)] at hch;have hCt:=HCC.out;rw [Hg.out,hch] at hCt;have HCt:=hid hCt;clear hch hCt;go_wp2_with fail
       go_quiet (fail)
       go_wp2_with fail
       go_ret
       exact ⟨rfl,ys,by rw [HCt.out,List.append_nil],HJ.out.ext Hj.out ((Ext.refl wr).drewN _),HI.out.ext ((Ext.refl wr).drewN _),HS.out⟩
     ·have hzb:(z == (k:Int))=false:=(by simpa using hzk);have Hit:=hid (show ¬ M[u]?=some (k:Int) from fun h=>hzk (Option.some.inj (hz.symm.trans h)));clear hz hzk;by_cases hG:ML≤u+(m - L - 1)
      ·skip;have hgi:(ML:Int) - (u:Int)≤(m:Int) - (L:Int) - 1:=(by omega);have hgd:decide ((ML:Int) - (u:Int)≤(m:Int) - (L:Int) - 1)=true:=decide_eq_true hgi;have hwa:IntKind.i64.wrap ((m:Int) - (L:Int))=(m:Int) - (L:Int):=IntWalk.i64_in _ (by omega);have hwb:IntKind.i64.wrap ((m:Int) - (L:Int) - 1)=(m:Int) - (L:Int) - 1:=IntWalk.i64_in _ (by omega);have hwc:IntKind.i64.wrap ((ML:Int) - (u:Int))=(ML:Int) - (u:Int):=IntWalk.i64_in _ (by omega);have hLm1:L+1≤m:=(by omega);have hvM:u≤ML:=(by omega);have hk1w:IntKind.i64.wrap ((k:Int)+1)=(k:Int)+1:=IntWalk.i64_in _ (by omega);have hch:=Hmiss.out g k hmg Hkg.out Hit.out;rw [if_pos (by omega)] at hch;have hcr:=Hrec.out g hgf (k:Int) u (pre++ys);have hCt:=HCC.out;rw [Hg.out,hch] at hCt;have hNN:(pre++ys).length+(cho n m M g (ns++[(k:Int)]) u).length≤N:=by
        have h1:=HN.out;rw [hCt] at h1;simp only [List.length_append,List.length_map] at h1 ⊢;omega
       have Hcr:=hid hcr;have HCt:=hid hCt;have HNN:=hid hNN;clear hch hcr hCt hNN;have Hown:=hid (show (wr.drew.alloc (.cells #[.int .i64 (k:Int)] 3)).ownsRow r0 3 1 (.slice (some ⟨r0,0,none⟩) L m) L (zaq ns) by rw [← HLL.out];exact World.ownsRow.alloc ((Ext.refl wr).drew.own HI.out.row) _);go_wp2_with fail
       go_region_held3 (fun w'=>w'.cell? ⟨Bq,2,none⟩=some (.int .i64 (m:Int))∧w'.cell? ⟨Bq,4,none⟩=some (.slice (some ⟨bg,bo,none⟩) ML cm)∧w'.cell? ⟨Bc,0,none⟩=some (.func (.func 175) #[] #[.pointer (some ⟨Bq,0,none⟩),.pointer (some ⟨By,0,none⟩),.pointer (some ⟨Bn,0,none⟩),.pointer (some ⟨Bc,0,none⟩)]))
        (first | (with_reducible assumption) | exact ⟨(Ext.refl wr).drew.cell q2,(Ext.refl wr).drew.cell q4,(Ext.refl wr).drew.cell qc⟩ | exact ⟨((Ext.refl wr).drew.alloc _).cell q2,((Ext.refl wr).drew.alloc _).cell q4,((Ext.refl wr).drew.alloc _).cell qc⟩)
        (first
         | (refine zn4 (by rfl) _ _ 24 rfl r0 3 i0 1 Tryz.underlying24 hi hz1 r0 L m (zaq ns) (by rfl) Hown.out ⟨wr.heap.size,0,none⟩ 1 1 [.int .i64 (k:Int)] (by rfl) rfl (cell_one_new _ _ _) (by simp [Value.oneCell']) hLm1 ?_;intro w7 hown7 hg7;have hi7:=Hrow7.out wr w7 (k:Int) _ HI.out hown7 hg7;have hj7:=Hj7.out (pre++ys) wr w7 _ Hj.out hg7;have hsz7:wr.heap.size≤w7.heap.size:=Nat.le_trans ((Ext.refl wr).drew.alloc _).size hg7.size;have hS7:w7.cell? ⟨Bq,2,none⟩=some (.int .i64 (m:Int))∧w7.cell? ⟨Bq,4,none⟩=some (.slice (some ⟨bg,bo,none⟩) ML cm)∧w7.cell? ⟨Bc,0,none⟩=some (.func (.func 175) #[] #[.pointer (some ⟨Bq,0,none⟩),.pointer (some ⟨By,0,none⟩),.pointer (some ⟨Bn,0,none⟩),.pointer (some ⟨Bc,0,none⟩)]):=⟨hi7.q.cs.2.2.1,(by have e4:=hi7.q.cs.2.2.2.2.1;rw [HML.out] at e4;exact e4),hi7.bc.cell⟩;have Hi7:=hid hi7;have HJ7:=hid hj7;have Hs7:=hid hsz7;clear hi7 hj7 hsz7 hown7 hg7)
         | (go_at_call 175;refine (Hcr.out w7 Hkz.out hvM HJ7.out Hi7.out (Nat.le_trans HW.out (Nat.le_trans HS.out Hs7.out)) HNN.out (fun l hl=>HVV.out l (by rw [HCt.out];exact List.mem_append.2 (.inr (List.mem_append.2 (.inl hl)))))).mono ?_;rintro e w8 ⟨rfl,hE8⟩;have hS8:w8.cell? ⟨Bq,2,none⟩=some (.int .i64 (m:Int))∧w8.cell? ⟨Bq,4,none⟩=some (.slice (some ⟨bg,bo,none⟩) ML cm)∧w8.cell? ⟨Bc,0,none⟩=some (.func (.func 175) #[] #[.pointer (some ⟨Bq,0,none⟩),.pointer (some ⟨By,0,none⟩),.pointer (some ⟨Bn,0,none⟩),.pointer (some ⟨Bc,0,none⟩)]):=(by obtain ⟨_,_,_,hi8,_⟩:=hE8;exact ⟨hi8.q.cs.2.2.1,(by have e4:=hi8.q.cs.2.2.2.2.1;rw [HML.out] at e4;exact e4),hi8.bc.cell⟩);have HE8:=hid hE8;clear hE8))
       all_goals
        obtain ⟨ys2,hm2,hj8,hi8,hs8⟩:=HE8.out;have Hm2:=hid hm2;have Hj8:=hid hj8;have Hi8:=hid hi8;have Hs8:=hid hs8;clear hm2 hj8 hi8 hs8;go_wp2_with fail
        go_roundw
        case rel=>exact ⟨k+1,_,by go_num,rfl,by omega,by omega,hid ⟨ys++ys2,by rw [Hgn.out,List.map_append,Hm2.out,HCt.out,List.append_assoc],by rw [← List.append_assoc];exact Hj8.out,Hi8.out,Nat.le_trans HS.out (Nat.le_trans Hs7.out Hs8.out)⟩⟩
        case measure=>simp [zam];omega
      ·skip;have hgi:¬ (ML:Int) - (u:Int)≤(m:Int) - (L:Int) - 1:=(by omega);have hgd:decide ((ML:Int) - (u:Int)≤(m:Int) - (L:Int) - 1)=false:=decide_eq_false hgi;have hwa:IntKind.i64.wrap ((m:Int) - (L:Int))=(m:Int) - (L:Int):=IntWalk.i64_in _ (by omega);have hwb:IntKind.i64.wrap ((m:Int) - (L:Int) - 1)=(m:Int) - (L:Int) - 1:=IntWalk.i64_in _ (by omega);have hwc:IntKind.i64.wrap ((ML:Int) - (u:Int))=(ML:Int) - (u:Int):=IntWalk.i64_in _ (by omega);have hch:=Hmiss.out g k hmg Hkg.out Hit.out;rw [if_neg (by omega)] at hch;have hCt:=HCC.out;rw [Hg.out,hch] at hCt;have HCt:=hid hCt;clear hch hCt;go_wp2_with fail
       go_quiet (fail)
       go_wp2_with fail
       go_roundw
       case rel=>exact ⟨k+1,_,by go_num,rfl,by omega,by omega,hid ⟨ys,by rw [Hgn.out,HCt.out,List.nil_append],HJ.out.ext Hj.out ((Ext.refl wr).drewN _),HI.out.ext ((Ext.refl wr).drewN _),HS.out⟩⟩
       case measure=>simp [zam];omega
    ·have hui:¬ (u:Int)<(ML:Int):=(by omega);have Hit:=hid (show ¬ M[u]?=some (k:Int) from fun h=>hul (HMu.out _ h));by_cases hG:ML≤u+(m - L - 1)
     ·skip;have hgi:(ML:Int) - (u:Int)≤(m:Int) - (L:Int) - 1:=(by omega);have hgd:decide ((ML:Int) - (u:Int)≤(m:Int) - (L:Int) - 1)=true:=decide_eq_true hgi;have hwa:IntKind.i64.wrap ((m:Int) - (L:Int))=(m:Int) - (L:Int):=IntWalk.i64_in _ (by omega);have hwb:IntKind.i64.wrap ((m:Int) - (L:Int) - 1)=(m:Int) - (L:Int) - 1:=IntWalk.i64_in _ (by omega);have hwc:IntKind.i64.wrap ((ML:Int) - (u:Int))=(ML:Int) - (u:Int):=IntWalk.i64_in _ (by omega);have hLm1:L+1≤m:=(by omega);have hvM:u≤ML:=(by omega);have hk1w:IntKind.i64.wrap ((k:Int)+1)=(k:Int)+1:=IntWalk.i64_in _ (by omega);have hch:=Hmiss.out g k hmg Hkg.out Hit.out;rw [if_pos (by omega)] at hch;have hcr:=Hrec.out g hgf (k:Int) u (pre++ys);have hCt:=HCC.out;rw [Hg.out,hch] at hCt;have hNN:(pre++ys).length+(cho n m M g (ns++[(k:Int)]) u).length≤N:=by
       have h1:=HN.out;rw [hCt] at h1;simp only [List.length_append,List.length_map] at h1 ⊢;omega
      have Hcr:=hid hcr;have HCt:=hid hCt;have HNN:=hid hNN;clear hch hcr hCt hNN;have Hown:=hid (show (wr.drew.alloc (.cells #[.int .i64 (k:Int)] 3)).ownsRow r0 3 1 (.slice (some ⟨r0,0,none⟩) L m) L (zaq ns) by rw [← HLL.out];exact World.ownsRow.alloc ((Ext.refl wr).drew.own HI.out.row) _);go_wp2_with fail
      go_region_held3 (fun w'=>w'.cell? ⟨Bq,2,none⟩=some (.int .i64 (m:Int))∧w'.cell? ⟨Bq,4,none⟩=some (.slice am ML cm)∧w'.cell? ⟨Bc,0,none⟩=some (.func (.func 175) #[] #[.pointer (some ⟨Bq,0,none⟩),.pointer (some ⟨By,0,none⟩),.pointer (some ⟨Bn,0,none⟩),.pointer (some ⟨Bc,0,none⟩)]))
       (first | (with_reducible assumption) | exact ⟨(Ext.refl wr).drew.cell q2,(Ext.refl wr).drew.cell q4,(Ext.refl wr).drew.cell qc⟩ | exact ⟨((Ext.refl wr).drew.alloc _).cell q2,((Ext.refl wr).drew.alloc _).cell q4,((Ext.refl wr).drew.alloc _).cell qc⟩)
       (first
        | (refine zn4 (by rfl) _ _ 24 rfl r0 3 i0 1 Tryz.underlying24 hi hz1 r0 L m (zaq ns) (by rfl) Hown.out ⟨wr.heap.size,0,none⟩ 1 1 [.int .i64 (k:Int)] (by rfl) rfl (cell_one_new _ _ _) (by simp [Value.oneCell']) hLm1 ?_;intro w7 hown7 hg7;have hi7:=Hrow7.out wr w7 (k:Int) _ HI.out hown7 hg7;have hj7:=Hj7.out (pre++ys) wr w7 _ Hj.out hg7;have hsz7:wr.heap.size≤w7.heap.size:=Nat.le_trans ((Ext.refl wr).drew.alloc _).size hg7.size;have hS7:w7.cell? ⟨Bq,2,none⟩=some (.int .i64 (m:Int))∧w7.cell? ⟨Bq,4,none⟩=some (.slice am ML cm)∧w7.cell? ⟨Bc,0,none⟩=some (.func (.func 175) #[] #[.pointer (some ⟨Bq,0,none⟩),.pointer (some ⟨By,0,none⟩),.pointer (some ⟨Bn,0,none⟩),.pointer (some ⟨Bc,0,none⟩)]):=⟨hi7.q.cs.2.2.1,(by have e4:=hi7.q.cs.2.2.2.2.1;rw [HML.out] at e4;exact e4),hi7.bc.cell⟩;have Hi7:=hid hi7;have HJ7:=hid hj7;have Hs7:=hid hsz7;clear hi7 hj7 hsz7 hown7 hg7)
        | (go_at_call 175;refine (Hcr.out w7 Hkz.out hvM HJ7.out Hi7.out (Nat.le_trans HW.out (Nat.le_trans HS.out Hs7.out)) HNN.out (fun l hl=>HVV.out l (by rw [HCt.out];exact List.mem_append.2 (.inr (List.mem_append.2 (.inl hl)))))).mono ?_;rintro e w8 ⟨rfl,hE8⟩;have hS8:w8.cell? ⟨Bq,2,none⟩=some (.int .i64 (m:Int))∧w8.cell? ⟨Bq,4,none⟩=some (.slice am ML cm)∧w8.cell? ⟨Bc,0,none⟩=some (.func (.func 175) #[] #[.pointer (some ⟨Bq,0,none⟩),.pointer (some ⟨By,0,none⟩),.pointer (some ⟨Bn,0,none⟩),.pointer (some ⟨Bc,0,none⟩)]):=(by obtain ⟨_,_,_,hi8,_⟩:=hE8;exact ⟨hi8.q.cs.2.2.1,(by have e4:=hi8.q.cs.2.2.2.2.1;rw [HML.out] at e4;exact e4),hi8.bc.cell⟩);have HE8:=hid hE8;clear hE8))
      all_goals
       obtain ⟨ys2,hm2,hj8,hi8,hs8⟩:=HE8.out;have Hm2:=hid hm2;have Hj8:=hid hj8;have Hi8:=hid hi8;have Hs8:=hid hs8;clear hm2 hj8 hi8 hs8;go_wp2_with fail
       go_roundw
       case rel=>exact ⟨k+1,_,by go_num,rfl,by omega,by omega,hid ⟨ys++ys2,by rw [Hgn.out,List.map_append,Hm2.out,HCt.out,List.append_assoc],by rw [← List.append_assoc];exact Hj8.out,Hi8.out,Nat.le_trans HS.out (Nat.le_trans Hs7.out Hs8.out)⟩⟩
       case measure=>simp [zam];omega
     ·exact (hG (by omega)).elim
theorem zn9 {m m':Nat}{P:Program}{l:Nat}{args:Array Value}{W:World}{R:Ending→World→Prop}(h:YieldAt Fence.wide m P l args W R):YieldAt Fence.wide m' P l args W R:=by
 obtain ⟨fn,tmps,assign,body,hy,hr⟩:=h;exact ⟨fn,tmps,assign,body,hy,zn5 hr⟩
structure ItQ (W:World)(n0 Bq Bn:Nat)(vp vn:Value)(n m:Nat)(P:Int)(am:Option Addr)(cm:Nat)(b:Bool)(M:List Int):Prop where
 q:znn W Bq vp vn (m:Int) P (.slice am M.length cm) b
 bn:Boxed W Bn 3 (.int .i64 (n:Int))
 must:∀ i z,M[i]?=some z→∃ g off,am=some ⟨g,off,none⟩∧g<n0∧W.cell? ⟨g,off+i,none⟩=some (.int .i64 z)
theorem znA (d n0 Bq Bn:Nat)(vp vn:Value)(n m:Nat)(P:Int)(am:Option Addr)(cm:Nat)(b:Bool)(M:List Int)(N:Nat)(R:Nat→Prop)(V:List Int→Prop)(w:World)
  (h:ItQ w n0 Bq Bn vp vn n m P am cm b M) (hn0:n0≤w.heap.size) (hM:M.length≤1000) (hm:m≤1000) (hn:n≤1000) (hN:(cho n m M n [] 0).length≤N) (hVV:∀ l∈cho n m M n [] 0,V l)
  (hR:∀ r,r<n0∨r=Bq∨r=Bn∨(w.heap.size+2≤r∧r<w.heap.size+5)→R r) :
  znv Fence.wide d Tryz.prog 174 #[.pointer (some ⟨Bq,0,none⟩),.pointer (some ⟨Bn,0,none⟩)] (fun x:Iw=>#[x.u]) (znx V) R 3 N (fun xs=>xs.map Iw.l=cho n m M n [] 0) w:=by
 intro l J W hW hold hJ hY h0;have hq:=h.q;have hbn:=h.bn;have hltq:Bq<w.heap.size:=(Array.getElem?_eq_some_iff.1 hq).1;have hltn:Bn<w.heap.size:=hbn.lt;have hq1:znn W Bq vp vn (m:Int) P (.slice am M.length cm) b:=(hold Bq hltq).trans hq;have hbn1:Boxed W Bn 3 (.int .i64 (n:Int)):=(hold Bn hltn).trans hbn;have hmu:∀ i z,M[i]?=some z→∃ g off,am=some ⟨g,off,none⟩∧g<n0∧W.cell? ⟨g,off+i,none⟩=some (.int .i64 z):=fun i z hz=>by
  obtain ⟨g,off,e,hg,hc⟩:=h.must i z hz;exact ⟨g,off,e,hg,(zny (a:=⟨g,off+i,none⟩) (hold g (Nat.lt_of_lt_of_le hg hn0))).trans hc⟩
 obtain ⟨i0,hi,hz0,hz1,hz2⟩:=info_parts zfh
 -- the three blocks
 obtain ⟨V0,hV⟩:∃ V0,V0=(W.alloc (.cells #[.func (.yield l) #[] #[]] 222)).alloc (.cells #[.func (.func 175) #[] #[.pointer (some ⟨Bq,0,none⟩),.pointer (some ⟨W.heap.size,0,none⟩),.pointer (some ⟨Bn,0,none⟩),.pointer (some ⟨W.heap.size+1,0,none⟩)]] 214):=⟨_,rfl⟩
 have hVs:V0.heap.size=W.heap.size+2:=by rw [hV,World.size_alloc,World.size_alloc]
 have hby:Boxed V0 W.heap.size 222 (.func (.yield l) #[] #[]):=by
  rw [hV];exact (Below.heap_alloc _ _ _ (by rw [World.size_alloc];omega)).trans (World.alloc_heap_new W _)
 have hbc:Boxed V0 (W.heap.size+1) 214 (.func (.func 175) #[] #[.pointer (some ⟨Bq,0,none⟩),.pointer (some ⟨W.heap.size,0,none⟩),.pointer (some ⟨Bn,0,none⟩),.pointer (some ⟨W.heap.size+1,0,none⟩)]):=by
  rw [hV];have:=World.alloc_heap_new (W.alloc (.cells #[.func (.yield l) #[] #[]] 222)) (.cells #[.func (.func 175) #[] #[.pointer (some ⟨Bq,0,none⟩),.pointer (some ⟨W.heap.size,0,none⟩),.pointer (some ⟨Bn,0,none⟩),.pointer (some ⟨W.heap.size+1,0,none⟩)]] 214);rwa [World.size_alloc] at this
 have hVw:∀ r,r<W.heap.size→V0.heap[r]?=W.heap[r]?:=fun r hr=>by
  rw [hV];exact (Below.heap_alloc _ _ _ (by rw [World.size_alloc];omega)).trans (Below.heap_alloc _ _ _ hr)
 have hJV:J [] V0:=by
  rw [hV];exact hJ.alloc _ (hJ.alloc _ h0)
 obtain ⟨w7,hrun,hrow,hg7⟩:=run_make_own (P:=Tryz.prog) V0.drew (W.heap.size+2) 24 3 i0 (.int .i64 0) 1 Tryz.underlying24 hi hz0 hz1 .i64 .i64 m (by rw [hz2];omega) (by unfold maxLen;omega) (by show W.heap.size+2≤V0.heap.size;omega)
 have e0:V0.drew.heap.size=W.heap.size+2:=hVs
 rw [e0] at hrun hrow
 have h7:∀ r,r<V0.heap.size→w7.heap[r]?=V0.heap[r]?:=fun r hr=>hg7.block r hr (by intro e;cases e)
 have hJ7:J [] w7:=hJ _ _ w7 none (hJ.ext hJV (Ext.refl V0).drew) hg7 fun r e=>by cases e
 have hI7:ItS w7 n0 Bq Bn W.heap.size (W.heap.size+1) (W.heap.size+2) l vp vn n m P am cm b M []:=by
  refine ⟨(h7 Bq (by omega)).trans ((hVw Bq (by omega)).trans hq1),(h7 Bn (by omega)).trans ((hVw Bn (by omega)).trans hbn1),(h7 _ (by omega)).trans hby,(h7 _ (by omega)).trans hbc,hrow,fun i z hz=>?_⟩;obtain ⟨g,off,e,hg,hc⟩:=hmu i z hz;exact ⟨g,off,e,hg,(zny (a:=⟨g,off+i,none⟩) ((h7 g (by omega)).trans (hVw g (by omega)))).trans hc⟩
 have hcc:=zn8 (Bc:=W.heap.size+1) (r0:=W.heap.size+2) (c:=W.heap.size+3) (N:=N) (R:=R) hJ rfl rfl rfl ⟨by omega,by omega,by omega⟩ (fun r hr=>hR r (by
  rcases hr with (h | h | h | h | h) | h <;> omega)) (fun pre x W1 a1 a2 a3 a4=>zn9 (hY pre x W1 a1 a2 a3 a4)) hM hm hn n [] 0 [] w7 (Nat.le_refl _) (Nat.zero_le _) (Nat.zero_le _) hJ7 hI7 (by have:=(World.ownsRow.lt hrow (W.heap.size+2) rfl).2;omega) (by rw [List.length_nil,Nat.zero_add];exact hN) hVV
 rw [List.length_nil,Nat.sub_self] at hcc
 have q2:=(show V0.cell? ⟨Bq,2,none⟩=some (.int .i64 (m:Int)) from (zny (a:=⟨Bq,2,none⟩) (hVw Bq (by omega))).trans hq1.cs.2.2.1)
 have qc:=hbc.cell
 have hs7:w7.cell? ⟨Bq,2,none⟩=some (.int .i64 (m:Int))∧w7.cell? ⟨W.heap.size+1,0,none⟩=some (.func (.func 175) #[] #[.pointer (some ⟨Bq,0,none⟩),.pointer (some ⟨W.heap.size,0,none⟩),.pointer (some ⟨Bn,0,none⟩),.pointer (some ⟨W.heap.size+1,0,none⟩)]):=⟨hI7.q.cs.2.2.1,hI7.bc.cell⟩
 have Hcc:=hid hcc
 clear hcc hI7 hJ7 h7 hg7 hrow e0 hJV hVw hbc hby hmu hbn1 hq1 hbn hq h hY h0 hJ hold hR hW hVs
 refine callsIn_wide.2 ?_
 go_enter Tryz.func174,Tryz.ntmps174
 go_wp2_with fail
 rw [← hV]
 clear hV
 go_region_held3 (fun w'=>w'.cell? ⟨Bq,2,none⟩=some (.int .i64 (m:Int))∧w'.cell? ⟨W.heap.size+1,0,none⟩=some (.func (.func 175) #[] #[.pointer (some ⟨Bq,0,none⟩),.pointer (some ⟨W.heap.size,0,none⟩),.pointer (some ⟨Bn,0,none⟩),.pointer (some ⟨W.heap.size+1,0,none⟩)]))
  (first | (with_reducible assumption) | exact ⟨(Ext.refl V0).drew.cell q2,(Ext.refl V0).drew.cell qc⟩)
  (first
   | (go_at_call 175;refine Hcc.out.mono ?_;rintro e w8 ⟨rfl,hE8⟩;have hS8:w8.cell? ⟨Bq,2,none⟩=some (.int .i64 (m:Int))∧w8.cell? ⟨W.heap.size+1,0,none⟩=some (.func (.func 175) #[] #[.pointer (some ⟨Bq,0,none⟩),.pointer (some ⟨W.heap.size,0,none⟩),.pointer (some ⟨Bn,0,none⟩),.pointer (some ⟨W.heap.size+1,0,none⟩)]):=(by obtain ⟨_,_,_,hi8,_⟩:=hE8;exact ⟨hi8.q.cs.2.2.1,hi8.bc.cell⟩);have HE8:=hid hE8;clear hE8))
 all_goals
  go_wp2_with fail
  go_end0
  obtain ⟨ys,hm8,hj8,_,_⟩:=HE8.out
  exact ⟨⟨_,rfl⟩,ys,hm8,hj8⟩
theorem znB {w:World}{B:Nat}{v:Value}{p:List Int}{N:List (List Rat)}{ls:List Lq}(h:LqM w B B v ls)(hx:lqx ls=zmw p N){d:Nat}(hd:d≤N.length) :
  ∃ l a c,ls[d]?=some l∧l.u=.slice a (cls p N (d:Int)).length c∧QwM w B B (.slice a (cls p N (d:Int)).length c) l.rs∧l.rs.map Qw.x=cls p N (d:Int):=by
 have h1:(zmw p N)[d]?=some (cls p N (d:Int)):=by
  unfold zmw;rw [List.getElem?_map,List.getElem?_range (by omega)];rfl
 rw [← hx] at h1;unfold lqx at h1;rw [List.getElem?_map] at h1;obtain ⟨l,hl,e⟩:=Option.map_eq_some_iff.1 h1;have hq:=h.2 l (List.mem_of_getElem? hl);obtain ⟨a,c,hu⟩:=zfj hq.1;have hlen:l.rs.length=(cls p N (d:Int)).length:=by rw [← e,List.length_map]
 rw [hlen] at hu;rw [hu] at hq;exact ⟨l,a,c,hl,hu,hq,e⟩
end
section
open Go.RowKit Go.Lib Go.Shelf
theorem znC (ls:List Lq):(lqc ls).length=ls.length:=by unfold lqc;exact List.length_map ..
def znD (P:Lq→Bool)(rs:List Lq)(z:Int):Prop:=(z=-1∧∀ r∈rs,P r=false)∨∃ (k:Nat)(r:Lq),z=k∧rs[k]?=some r∧P r=true∧∀ s∈rs.take k,P s=false
theorem znD.any {P:Lq→Bool}{rs:List Lq}{z:Int}(h:znD P rs z):rs.any (fun r=>P r)=decide (0≤z):=by
 rcases h with ⟨rfl,h⟩ | ⟨k,r,rfl,h1,h2,_⟩
 ·rw [show decide ((0:Int)≤-1)=false by decide,List.any_eq_false];intro r hr;rw [h r hr];simp
 ·rw [show decide ((0:Int)≤(k:Int))=true from decide_eq_true (by omega),List.any_eq_true];exact ⟨r,List.mem_of_getElem? h1,h2⟩
theorem znE (g:Nat)(cb:Array Value)(v:Value)(rs:List Lq)(P:Lq→Bool)(w:World)(hv:Sl w v (lqc rs))(hl:rs.length≤1000)
  (eg:∀ args w,(callFunc g args).run Tryz.prog w=.ok (.enter g args) w)
  (hp:∀ W,Ext w W→∀ r∈rs,Calls Tryz.prog g (#[r.u]++cb) W fun e w'=>e=.returned (.bool (P r))∧Ext W w') :
  Calls Tryz.prog 100 #[v,.func (.func g) #[] cb] w fun e w'=>∃ z:Int,e=.returned (.int .i64 z)∧znD P rs z∧Ext w w':=by
 obtain ⟨a,c,rfl,_,_,hc⟩:=hv.parts;rw [znC];have hcell:∀ k r,rs[k]?=some r→∃ b off,a=some ⟨b,off,none⟩∧w.cell? ⟨b,off+k,none⟩=some r.u:=fun k r hr=>hc k r.u (by unfold lqc;rw [List.getElem?_map,hr];rfl);generalize hn:rs.length=n at *;have Hn:=hid hn;have Hp:=hid hp;have Hc:=hid hcell;clear hv hc hn hp hcell;go_enter Tryz.func100,Tryz.ntmps100
 go_wp2_with fail
 go_loopw [5,8] (fun v5 v8 wr=>∃ k:Nat,v8=.int .i64 k∧k≤n∧(∀ s∈rs.take k,P s=false)∧Ext w wr) (fun _ v8 _=>n - (zam v8).toNat)
 case atStart=>exact ⟨0,rfl,Nat.zero_le _,fun r h=>by simp at h,Ext.refl _⟩
 case round =>
  obtain ⟨k,rfl,hk,hall,hE⟩:=hrel;have Hall:=hid hall;clear hall;by_cases hlt:k<n
  ·obtain ⟨r,hr⟩:∃ r,rs[k]?=some r:=⟨_,List.getElem?_eq_getElem (by rw [Hn.out];exact hlt)⟩;obtain ⟨b,off,rfl,h0⟩:=Hc.out k r hr;have hc0:=hE.cell h0;have hd:=Hp.out wr hE r (List.mem_of_getElem? hr);have HE:=hid hE;have Hr:=hid hr;clear hr h0 hE;generalize r.u=u at *;generalize hdx:P r=dx at *;have Hd:=hid hd;have Hdx:=hid hdx;clear hd hdx;have hk0:(0:Int)≤(k:Int):=(by omega);have hk1:(k:Int)<(n:Int):=(by omega);go_wp2_with fail
   refine Hd.out.mono ?_;rintro e W2 ⟨rfl,hx2⟩;have HE2:=hid (HE.out.trans hx2);clear hx2
   cases dx with
   | true =>
    go_wp2
    go_ret
    exact ⟨_,rfl,.inr ⟨k,r,rfl,Hr.out,Hdx.out,Hall.out⟩,HE2.out⟩
   | false =>
    go_wp2_with fail
    go_roundw
    case rel=>exact ⟨k+1,by go_num,hlt,fun s hs=>by
     obtain ⟨hl2,e⟩:=List.getElem?_eq_some_iff.1 Hr.out;rw [List.take_succ_eq_append_getElem hl2] at hs;rcases List.mem_append.1 hs with h | h
     ·exact Hall.out s h
     ·rw [List.mem_singleton] at h;rw [h,e];exact Hdx.out,HE2.out⟩
    case measure=>simp [zam];omega
  ·have hkk:¬ (k:Int)<(n:Int):=(by omega);have hkl:k=n:=(by omega);have Hkl:=hid hkl;clear hkl;have HE:=hid hE;clear hE;go_wp2
   go_ret
   exact ⟨-1,rfl,.inl ⟨rfl,fun r hr=>Hall.out r (by rw [Hkl.out,← Hn.out,List.take_length];exact hr)⟩,HE.out⟩
theorem znF (g:Nat)(cb:Array Value)(v:Value)(rs:List Lq)(P:Lq→Bool)(w:World)(hv:Sl w v (lqc rs))(hl:rs.length≤1000)
  (eg:∀ args w,(callFunc g args).run Tryz.prog w=.ok (.enter g args) w)
  (hp:∀ W,Ext w W→∀ r∈rs,Calls Tryz.prog g (#[r.u]++cb) W fun e w'=>e=.returned (.bool (P r))∧Ext W w') :
  Calls Tryz.prog 45 #[v,.func (.func g) #[] cb] w fun e w'=>e=.returned (.bool (rs.any fun r=>P r))∧Ext w w':=by
 have hi:=znE g cb v rs P w hv hl eg hp;obtain ⟨a,c,rfl,_,_,_⟩:=hv.parts;have Hi:=hid hi;clear hi hp hv;go_enter Tryz.func45,Tryz.ntmps45
 go_wp2_with fail
 refine Hi.out.mono ?_;rintro e w1 ⟨z,rfl,hz,hx⟩;have Hz:=hid hz.any;have Hx:=hid hx;clear hz hx;go_wp2
 go_ret
 exact ⟨by rw [Hz.out];rfl,Hx.out⟩
end
end Go.Proofs.YtebabancfnmfjaaGreatDoor
