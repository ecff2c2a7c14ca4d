/- Plain: pieces of nine digits: order, difference, division piece by piece. Walks: schismaref02's trim and split. Walk: schismaref02's times. Walks: schismaref02's order and minus. -/
import Derived.Test.YtebabancfnmfjaaGreatDoorPu29
import Derived.Test.YtebabancfnmfjaaGreatDoorPu07
set_option maxRecDepth 100000
set_option maxHeartbeats 1000000
namespace Go.Proofs.YtebabancfnmfjaaGreatDoor
section
open Go.RowKit Go.Lib
theorem zca {a:List Nat}{i:Nat}(h:i<a.length):Dec.pv (a.drop i)=nth a i+Dec.B * Dec.pv (a.drop (i+1)):=by
 rw [List.drop_eq_getElem_cons h];have e:nth a i=a[i]:=by unfold nth;rw [List.getD_eq_getElem?_getD,List.getElem?_eq_getElem h];rfl
 rw [e];rfl
theorem znS (a:List Nat)(i:Nat)(h:i≤a.length):Dec.pv a=Dec.pv (a.take i)+Dec.B ^ i * Dec.pv (a.drop i):=by
 have:=Dec.pv_append (a.take i) (a.drop i);rw [List.take_append_drop,List.length_take,Nat.min_eq_left h] at this;exact this
theorem zcb {a:List Nat}(h:Dec.Small a)(i:Nat):Dec.Small (a.take i):=fun x hx=>h x (List.mem_of_mem_take hx)
theorem znT {a b:List Nat}{i:Nat}(ha:Dec.Small a)(hl:a.length=b.length)(hi:i<a.length)(hd:a.drop (i+1)=b.drop (i+1))(h:nth a i<nth b i):Dec.pv a<Dec.pv b:=by
 have e1:=znS a i (by omega);have e2:=znS b i (by omega);have e3:=zca hi;have e4:=zca (a:=b) (i:=i) (by omega);rw [hd] at e3;have l1:=Dec.pv_lt (a.take i) (zcb ha i);rw [List.length_take,Nat.min_eq_left (by omega)] at l1;have h2:Dec.pv (a.drop i)+1≤Dec.pv (b.drop i):=by omega
 have h3:=Nat.mul_le_mul_left (Dec.B ^ i) h2;rw [Nat.mul_add] at h3;omega
theorem znU {a b:Nat}(h:(Dec.P a).length<(Dec.P b).length):a<b:=by
 have h1:=Dec.P_len_lt a;have hb:b ≠ 0:=by rintro rfl;rw [Dec.P_zero] at h;exact absurd h (by simp)
 have h2:=Dec.P_len_ge hb;have h3:=Nat.pow_le_pow_right (n:=Dec.B) Dec.B_pos (show (Dec.P a).length≤(Dec.P b).length - 1 by omega);omega
def znV (a b:Nat):Int:=if a<b then -1 else if b<a then 1 else 0
theorem znW {a b:Nat}(h:a<b):znV a b=-1:=by unfold znV;rw [if_pos h]
theorem znX {a b:Nat}(h:b<a):znV a b=1:=by unfold znV;rw [if_neg (by omega),if_pos h]
theorem znY (a:Nat):znV a a=0:=by unfold znV;rw [if_neg (by omega),if_neg (by omega)]
theorem znZ {a b:Nat}:znV a b≤0 ↔ a≤b:=by unfold znV;split <;> (try split) <;> omega
theorem zoa {x:Nat}{l:List Nat}(hx:x<Dec.B)(h:Dec.Small l):Dec.Small (x::l):=fun y hy=>by
 rcases List.mem_cons.1 hy with rfl | hy
 ·exact hx
 ·exact h y hy
theorem zob {a:List Nat}{b i Q R:Nat}(hi:i<a.length)(ha:Dec.Small a)(hR:R<b)(hq:Dec.pv (a.drop (i+1))=Q * b+R) :
  nth a i+Dec.B * R<b * Dec.B∧Dec.pv (a.drop i)=(Q * Dec.B+(nth a i+Dec.B * R) / b) * b+(nth a i+Dec.B * R) % b:=by
 have hx:nth a i<Dec.B:=Dec.small_getD ha i;constructor
 ·have h1:=Nat.mul_le_mul_left Dec.B (show R+1≤b by omega);rw [Nat.mul_add,Nat.mul_one,Nat.mul_comm Dec.B b] at h1;omega
 ·rw [zca hi,hq];have h2:=Nat.div_add_mod (nth a i+Dec.B * R) b;have h3:(Q * Dec.B+(nth a i+Dec.B * R) / b) * b=Dec.B * (Q * b)+b * ((nth a i+Dec.B * R) / b):=by
   rw [Nat.add_mul,Nat.mul_comm Q Dec.B,Nat.mul_assoc,Nat.mul_comm ((nth a i+Dec.B * R) / b) b]
  rw [h3,Nat.mul_add];omega
end
section
open Go.RowKit Go.Lib Go.Shelf
attribute [local go_sem] Oper.semAt_some
def nis (l:List Nat):List Value:=l.map fun (n:Nat)=>Value.int .i64 (n:Int)
theorem zoc (l:List Nat):(nis l).length=l.length:=by simp [nis]
theorem zod {l:List Nat}{i:Nat}(h:i<l.length):(nis l)[i]?=some (.int .i64 (nth l i:Nat)):=by
 unfold nis nth;rw [List.getElem?_map,List.getElem?_eq_getElem h,List.getD_eq_getElem?_getD,List.getElem?_eq_getElem h];rfl
def zoe (w:World)(B:Nat)(v:Value)(l:List Nat):Prop:=w.ownsRow B 3 1 v l.length (nis l)
theorem Ext.ownN {w w':World}(h:Ext w w'){B:Nat}{v:Value}{l:List Nat}(ho:zoe w B v l):zoe w' B v l:=h.own ho
theorem zoe.sl {w:World}{B:Nat}{v:Value}{l:List Nat}(ho:zoe w B v l):Sl w v (nis l):=zaj ho
def zof (w:World)(B:Nat)(l:List Nat)(e:Ending):Prop:=∃ v,e=.returned v∧zoe w B v l
theorem zog (b n cap:Nat)(l:List Nat)(w:World)(hn:n≤cap)(hcap:cap≤maxLen)
  (hc:∀ i,i<n→w.cell? ⟨b,i,none⟩=some (.int .i64 (nth l i:Nat))) :
  Calls Tryz.prog 190 #[.slice (some ⟨b,0,none⟩) n cap] w fun e w'=>zay b cap n l e∧w=w':=by
 unfold maxLen at hcap;go_enter Tryz.func190,Tryz.ntmps190
 go_wp2
 go_loop [3] (fun v=>∃ k:Nat,k≤n∧v=.int .i64 k∧(∀ j,k≤j→j<n→nth l j=0)) (fun v=>(zah v).toNat)
 case atStart=>exact ⟨n,Nat.le_refl _,rfl,fun j h1 h2=>by omega⟩
 case round =>
  obtain ⟨k,hk,rfl,hz⟩:=hrel;have Hz:=hid hz;clear hz;rcases Nat.eq_zero_or_pos k with hk0 | hk0
  ·subst hk0;go_wp2
   go_ret
   exact ⟨⟨0,Nat.zero_le _,rfl,Hz.out,fun h=>by omega⟩,rfl⟩
  ·obtain ⟨m,rfl⟩:∃ m,k=m+1:=⟨k - 1,by omega⟩;have hcm:=hc m (by omega);have Hc:=hid hc;clear hc;by_cases h0:nth l m=0
   ·have ht:((nth l m:Int) == 0)=true:=(by rw [h0];rfl);have H0:=hid h0;clear h0;go_wp2
    go_round
    case rel=>exact ⟨m,by omega,by go_num,fun j h1 h2=>by
     rcases Nat.eq_or_lt_of_le h1 with e | e
     ·rw [← e];exact H0.out
     ·exact Hz.out j e h2⟩
    case measure=>simp [zah]
   ·have ht:((nth l m:Int) == 0)=false:=beq_eq_false_iff_ne.2 (by omega);have H0:=hid h0;clear h0;go_wp2
    go_ret
    exact ⟨⟨m+1,hk,rfl,Hz.out,fun _=>H0.out⟩,rfl⟩
theorem zoh (w:World):Calls Tryz.prog 190 #[.slice none 0 0] w fun e w'=>e=.returned (.slice none 0 0)∧w=w':=by
 go_enter Tryz.func190,Tryz.ntmps190
 go_wp2
 go_loop [3] (fun v=>v=.int .i64 0) (fun v=>(zah v).toNat)
 case atStart=>rfl
 case round =>
  obtain rfl:=hrel;go_wp2
  go_ret
  exact ⟨rfl,rfl⟩
theorem zoi (B:Nat)(v:Value)(l:List Nat)(w:World)(ho:zoe w B v l)(hs:Dec.Small l) :
  Calls Tryz.prog 190 #[v] w fun e w'=>zof w B (Dec.P (Dec.pv l)) e∧w=w':=by
 have ho1:w.ownsRow B 3 1 v l.length (nis l):=ho;rcases ho1.2 with ⟨rfl,hn⟩ | ⟨g,cap,cur,rfl,hb,hg,h1,h2,h3,h4⟩
 ·refine (zoh w).mono fun e w' ⟨he,hw⟩=>⟨⟨_,he,?_⟩,hw⟩;obtain rfl:=List.eq_nil_of_length_eq_zero hn;rw [show Dec.pv []=0 from rfl,Dec.P_zero];exact World.ownsRow_nil w B _ 1
 ·have hc:∀ i,i<l.length→w.cell? ⟨g,i,none⟩=some (.int .i64 (nth l i:Nat)):=fun i hi=>by
   have:=ho1.cells (g:=g) rfl i _ (zod hi);rwa [show ((⟨g,0,none⟩:Addr).add i)=⟨g,i,none⟩ by unfold Addr.add;split <;> simp_all] at this
  refine (zog g l.length cap l w h1 h2 hc).mono fun e w' ⟨⟨k,hk,he,hz,hnz⟩,hw⟩=>⟨⟨_,he,?_⟩,hw⟩;have e1:=Dec.trim_P l k hs hk hz hnz;have hlen:(Dec.P (Dec.pv l)).length=k:=by rw [← e1,List.length_take];omega
  refine ⟨by rw [zoc,hlen];simp,.inr ⟨g,cap,cur,by rw [hlen],hb,hg,by omega,h2,h3,?_⟩⟩;rw [hlen,← e1];have h5:cur.toList.take (l.length * 1)=nis l:=h4;unfold nis at *;rw [List.map_take,← h5,List.take_take];congr 1;omega
structure zoj (l:List UInt8)(w0:World)(S:ByteArray)(z:Nat)(o:List Nat)(v:Value)(wr:World):Prop where
 s:S=⟨(l.take z).toArray⟩
 zl:z≤l.length
 k:z=0∨l.length=z+9 * o.length
 n:o.length+z≤l.length
 sm:Dec.Small o
 pv:Dec.pv o=Dec.val 0 (l.drop z)
 own:zoe wr w0.heap.size v o
 x:Ext w0 wr
theorem zok {l:List UInt8}{z:Nat}(h:z≤l.length):(⟨(l.take z).toArray⟩:ByteArray).size=z:=by
 show (l.take z).toArray.size=z;rw [List.size_toArray,List.length_take];omega
theorem zol {l:List UInt8}{z i:Nat}(hz:z≤l.length)(S:ByteArray)(hS:S=⟨(l.take z).toArray⟩)(hi:i<S.size):S[i]=(l[i]?).getD 0:=by
 subst hS;have h:=zok hz;rw [h] at hi;show (l.take z).toArray[i]'_=_;rw [List.getElem_toArray,List.getElem_take,List.getElem?_eq_getElem (by omega)];rfl
theorem zom (l:List UInt8)(w:World)(hd:Dec.Dig l)(hl:l.length≤1000) :
  Calls Tryz.prog 125 #[.string ⟨l.toArray⟩] w fun e w'=>zof w' w.heap.size (Dec.P (Dec.val 0 l)) e∧Ext w w':=by
 obtain ⟨i0,hj,hz0,hz1,hz2⟩:=info_parts zeY;have hst:zoj l w ⟨l.toArray⟩ l.length [] (.slice none 0 0) w:=⟨by rw [List.take_length],Nat.le_refl _,.inr (by simp),by simp,by simp [Dec.Small],by rw [List.drop_length];rfl,⟨rfl,.inl ⟨rfl,rfl⟩⟩,Ext.refl _⟩;generalize (⟨l.toArray⟩:ByteArray)=S0 at *;have Hd:=hid hd;have Hst:=hid hst;have Hl:=hid hl;clear hd hst;go_enter Tryz.func125,Tryz.ntmps125
 go_wp2_with fail
 go_loopw [0,3,4,5,6] (fun v0 v3 _ _ _ wr=>∃ (S:ByteArray)(z:Nat)(o:List Nat),v0=.string S∧S.size=z∧Hid (zoj l w S z o v3 wr)) (fun v0 _ _ _ _ _=>match v0 with | .string S=>S.size | _=>0)
 case atStart=>exact ⟨S0,l.length,[],rfl,by rw [Hst.out.s];exact zok (Nat.le_refl _),Hst⟩
 case round =>
  obtain ⟨S,z,o,rfl,hz,HR⟩:=hrel;by_cases hp:0<z
  ·have hs9:=hz;obtain ⟨a,ha⟩:∃ a:Nat,a=z - 9:=⟨_,rfl⟩;obtain ⟨c,hc⟩:∃ c,c=(l.take z).drop a:=⟨_,rfl⟩;have hzl:=HR.out.zl;have hcl:c.length=z - a:=(by rw [hc,List.length_drop,List.length_take];omega);have hdc:Dec.Dig c:=(by rw [hc];exact Dec.dig_drop (Dec.dig_take Hd.out _) _);have hbyte:∀ k,k<c.length→∀ i (hi:i<S.size),i=a+k→48≤(S[i]).toNat∧(S[i]).toNat≤57∧Dec.val 0 (c.take (k+1))=10 * Dec.val 0 (c.take k)+((S[i]).toNat - 48):=fun k hk i h hik=>by
    subst hik;obtain ⟨x,h1,h2,h3,h4⟩:=Dec.val_take_succ c k hdc hk;have e:(S[a+k]).toNat=x:=by
     rw [zol hzl S HR.out.s h,← h3,hc,List.getD_eq_getElem?_getD,List.getElem?_drop,List.getElem?_take];rw [if_pos (by omega)]
    rw [e];exact ⟨h1,h2,h4⟩
   have hv9:∀ k,Dec.val 0 (c.take k)<1000000000:=fun k=>Dec.val_take_lt c k hdc (by omega);have hstep:Dec.pv (o++[Dec.val 0 c])=Dec.val 0 (l.drop a):=by
    rw [hc];exact Dec.cut_step l a z o.length o (by omega) (by have:=HR.out.k;omega) rfl HR.out.pv
   have hext:S.extract 0 a=⟨(l.take a).toArray⟩:=by
    rw [HR.out.s,zau,List.drop_zero,List.take_take,Nat.min_eq_left (by omega)]
   have hown:=HR.out.own;unfold zoe at hown;have hx:=HR.out.x;have hwr:=hx.size;have hon:=HR.out.n;generalize ho:o.length=L at *;have Ho:=hid ho;have Hown:=hid hown;have Hx:=hid hx;have Hb:=hid hbyte;have Hv9:=hid hv9;have Hstep:=hid hstep;have Hext:=hid hext;have Hdc:=hid hdc;have Hc:=hid hc;clear ho hown hx hbyte hv9 hstep hext hdc hc;rcases Nat.lt_or_ge 9 z with h9 | h9
   ·have hza:(z:Int) - 9=(a:Int):=(by omega);go_wp2_with fail
    go_loop [5,6] (fun v5 v6=>∃ i:Nat,a≤i∧i≤z∧v6=.int .i64 i∧v5=.int .i64 (Dec.val 0 (c.take (i - a)):Nat)) (fun _ v6=>z - (zah v6).toNat)
    case atStart=>exact ⟨a,Nat.le_refl _,by omega,by rw [ha],by rw [Nat.sub_self];rfl⟩
    case round =>
     obtain ⟨i,hai,hiz,rfl,rfl⟩:=hrel;obtain ⟨k,hk⟩:∃ k:Nat,k=i - a:=⟨_,rfl⟩;rw [← hk];have hm9:=Hv9.out k;by_cases hkc:i<z
     ·obtain ⟨h48,h57,hnx⟩:=Hb.out k (by omega) i (by omega) (by omega);have hm10:=Hv9.out (k+1);rw [hnx] at hm10;generalize Dec.val 0 (c.take k)=m at *;have hi0:(0:Int)≤(i:Int):=(by omega);have hi1:(i:Int)<(z:Int):=(by omega);have hk1:i+1 - a=k+1:=(by omega);have Hnx:=hid hnx;have Hk:=hid hk;have Hk1:=hid hk1;clear hnx hk hk1;go_wp2_with fail
      go_round
      case rel =>
       exact ⟨i+1,by omega,by omega,by go_num,by rw [Hk1.out,Hnx.out];go_num⟩
      case measure=>simp [zah];omega
     ·have hfull:Dec.val 0 (c.take k)=Dec.val 0 c:=(by rw [List.take_of_length_le (by omega)]);rw [hfull];rw [hfull] at hm9;generalize Dec.val 0 c=m at *;go_wp2_with (at_builtin;refine wpList_append_own _ rfl _ _ 24 rfl w.heap.size 3 i0 (.int .i64 0) 1 8 Tryz.underlying24 hj hz0 hz1 hz2 rfl (by decide) _ _ _ rfl (Hown.out.alloc _) ⟨wr.heap.size,0,none⟩ 1 1 [.int .i64 (m:Int)] rfl rfl (cell_one_new _ _ _) (by simp [Value.oneCell']) (by unfold maxLen;have:=Hl.out;omega) (by have:=Hl.out;omega) (by rw [World.size_alloc];omega) ?_;intro v7 V7 hown7 hgrow7 _)
      have hX7:Ext w V7:=(Hx.out.alloc _).grown hgrow7 fun k hk=>(World.ownsRow.lt Hown.out k hk).1;have HX7:=hid hX7;have Hown7:=hid hown7;clear hX7 hown7 hgrow7;have hsz:S.extract 0 (z - 9)=⟨(l.take a).toArray⟩:=(by rw [← ha];exact Hext.out);have hsa:(S.extract 0 (z - 9)).size=a:=(by rw [hsz];exact zok (by omega));have Hsz:=hid hsz;clear hsz;go_wp2_with fail
      go_roundw
      case rel =>
       refine ⟨_,a,o++[m],rfl,hsa,hid ⟨Hsz.out,by omega,.inr ?_,?_,?_,?_,?_,HX7.out⟩⟩
       ·have:=HR.out.k;rw [List.length_append,List.length_singleton];have:=Ho.out;omega
       ·rw [List.length_append,List.length_singleton];have:=Ho.out;omega
       ·exact Dec.small_snoc HR.out.sm hm9
       ·exact Hstep.out
       ·unfold zoe nis;rw [List.length_append,List.length_singleton,Ho.out,List.map_append];exact Hown7.out
      case measure =>
       show (S.extract 0 (z - 9)).size<S.size;rw [hsa,hs9];omega
   ·have Ha0:=hid (show a=0 by omega);clear ha;go_wp2_with fail
    go_loop [5,6] (fun v5 v6=>∃ i:Nat,a≤i∧i≤z∧v6=.int .i64 i∧v5=.int .i64 (Dec.val 0 (c.take (i - a)):Nat)) (fun _ v6=>z - (zah v6).toNat)
    case atStart=>exact ⟨a,Nat.le_refl _,by have:=Ha0.out;omega,by rw [Ha0.out];rfl,by rw [Nat.sub_self];rfl⟩
    case round =>
     obtain ⟨i,hai,hiz,rfl,rfl⟩:=hrel;obtain ⟨k,hk⟩:∃ k:Nat,k=i - a:=⟨_,rfl⟩;rw [← hk];have hm9:=Hv9.out k;by_cases hkc:i<z
     ·obtain ⟨h48,h57,hnx⟩:=Hb.out k (by have:=Ha0.out;omega) i (by have:=Ha0.out;omega) (by have:=Ha0.out;omega);have hm10:=Hv9.out (k+1);rw [hnx] at hm10;generalize Dec.val 0 (c.take k)=m at *;have hi0:(0:Int)≤(i:Int):=(by have:=Ha0.out;omega);have hi1:(i:Int)<(z:Int):=(by have:=Ha0.out;omega);have hk1:i+1 - a=k+1:=(by have:=Ha0.out;omega);have Hnx:=hid hnx;have Hk:=hid hk;have Hk1:=hid hk1;clear hnx hk hk1;go_wp2_with fail
      go_round
      case rel =>
       exact ⟨i+1,by have:=Ha0.out;omega,by have:=Ha0.out;omega,by go_num,by rw [Hk1.out,Hnx.out];go_num⟩
      case measure=>simp [zah];omega
     ·have hfull:Dec.val 0 (c.take k)=Dec.val 0 c:=(by rw [List.take_of_length_le (by have:=Ha0.out;omega)]);rw [hfull];rw [hfull] at hm9;generalize Dec.val 0 c=m at *;go_wp2_with (at_builtin;refine wpList_append_own _ rfl _ _ 24 rfl w.heap.size 3 i0 (.int .i64 0) 1 8 Tryz.underlying24 hj hz0 hz1 hz2 rfl (by decide) _ _ _ rfl (Hown.out.alloc _) ⟨wr.heap.size,0,none⟩ 1 1 [.int .i64 (m:Int)] rfl rfl (cell_one_new _ _ _) (by simp [Value.oneCell']) (by unfold maxLen;have:=Hl.out;omega) (by have:=Hl.out;omega) (by rw [World.size_alloc];omega) ?_;intro v7 V7 hown7 hgrow7 _)
      have hX7:Ext w V7:=(Hx.out.alloc _).grown hgrow7 fun k hk=>(World.ownsRow.lt Hown.out k hk).1;have HX7:=hid hX7;have Hown7:=hid hown7;clear hX7 hown7 hgrow7;have hsz:ByteArray.empty=⟨(l.take a).toArray⟩:=(by rw [Ha0.out];rfl);have hsa:(ByteArray.empty).size=a:=(by rw [Ha0.out];rfl);have Hsz:=hid hsz;clear hsz;go_wp2_with fail
      go_roundw
      case rel =>
       refine ⟨_,a,o++[m],rfl,hsa,hid ⟨Hsz.out,by have:=Ha0.out;omega,.inl Ha0.out,?_,?_,?_,?_,HX7.out⟩⟩
       ·rw [List.length_append,List.length_singleton];have:=Ho.out;have:=Ha0.out;omega
       ·exact Dec.small_snoc HR.out.sm hm9
       ·exact Hstep.out
       ·unfold zoe nis;rw [List.length_append,List.length_singleton,Ho.out,List.map_append];exact Hown7.out
      case measure =>
       show (ByteArray.empty).size<S.size;rw [hsa,hs9];have:=Ha0.out;omega
  ·obtain rfl:z=0:=by omega
   have hv:Dec.pv o=Dec.val 0 l:=(by have:=HR.out.pv;rwa [List.drop_zero] at this);have htr:=zoi w.heap.size u3 o wr HR.out.own HR.out.sm;rw [hv] at htr;have Htr:=hid htr;clear htr hv;go_wp2_with fail
   refine Htr.out.mono ?_;rintro e w' ⟨⟨v,rfl,hv⟩,rfl⟩;have Hv:=hid hv;clear hv;go_wp2_with fail
   go_ret
   exact ⟨⟨v,rfl,Hv.out⟩,HR.out.x⟩
theorem zon {w:World}{B g cap n:Nat}{o:List Nat}(hn:o.length=n)(h:zoe w B (.slice (some ⟨g,0,none⟩) n cap) o)(j x:Nat) :
  zoe (w.setCell ⟨g,j,none⟩ (.int .i64 (x:Int))) B (.slice (some ⟨g,0,none⟩) n cap) (o.set j x):=by
 subst hn;have:=(World.ownsRow.stored h j (.int .i64 (x:Int))).1;unfold zoe;rw [List.length_set];rwa [show (nis o).set j (.int .i64 (x:Int))=nis (o.set j x) by simp [nis,List.map_set]] at this
theorem zoo {w:World}{B g cap n:Nat}{o:List Nat}(hn:o.length=n)(h:zoe w B (.slice (some ⟨g,0,none⟩) n cap) o)(j:Nat)(hj:j<o.length) :
  w.cell? ⟨g,j,none⟩=some (.int .i64 (nth o j:Nat)):=by
 subst hn;rw [World.ownsRow.cellAt h j (by omega),zod hj]
theorem zop {w:World}{B g cap n:Nat}{o:List Nat}(hn:o.length=n)(h:zoe w B (.slice (some ⟨g,0,none⟩) n cap) o):∀ j,w.frozen? ⟨g,j,none⟩=false:=by
 subst hn;exact World.ownsRow.frozenAt h
theorem zoq {w:World}{a:Option Addr}{n c:Nat}{l:List Nat}(h:Sl w (.slice a n c) (nis l))(i:Nat)(hi:i<l.length):∃ b off,a=some ⟨b,off,none⟩∧w.cell? ⟨b,off+i,none⟩=some (.int .i64 (nth l i:Nat)):=by
 obtain ⟨a2,c2,e,_,_,hc⟩:=h.parts;injection e with e1 _ _;subst e1;exact hc i _ (zod hi)
def zor (p q:List Nat)(w0:World)(k:Nat)(o:List Nat)(wr:World):Prop :=
 o.length=p.length+q.length+1∧Dec.Small o∧Dec.pv o=Dec.pv (p.take k) * Dec.pv q∧(∀ j,k+q.length≤j→nth o j=0) ∧
  zoe wr w0.heap.size (.slice (some ⟨w0.heap.size,0,none⟩) (p.length+q.length+1) (p.length+q.length+1)) o∧Ext w0 wr
def zos (p q:List Nat)(k:Nat)(w0:World)(m c:Nat)(o:List Nat)(wr:World):Prop :=
 c<Dec.B∧o.length=p.length+q.length+1∧Dec.Small o ∧
  Dec.pv o+c * Dec.B ^ (k+m)=Dec.pv (p.take k) * Dec.pv q+p.getD k 0 * Dec.B ^ k * Dec.pv (q.take m)∧(∀ j,k+q.length+1≤j→nth o j=0)∧(m≤q.length→nth o (k+q.length)=0)∧(q.length<m→c=0) ∧
  zoe wr w0.heap.size (.slice (some ⟨w0.heap.size,0,none⟩) (p.length+q.length+1) (p.length+q.length+1)) o∧Ext w0 wr
theorem zot (vp vq:Value)(p q:List Nat)(w:World)(hp:Sl w vp (nis p))(hq:Sl w vq (nis q))(hsp:Dec.Small p)(hsq:Dec.Small q)(hlp:p.length≤1000)(hlq:q.length≤1000) :
  Calls Tryz.prog 129 #[vp,vq] w fun e w'=>zof w' w.heap.size (Dec.P (Dec.pv p * Dec.pv q)) e∧Ext w w':=by
 obtain ⟨ap,cp,rfl,_,_,_⟩:=hp.parts;obtain ⟨aq,cq,rfl,_,_,_⟩:=hq.parts;rw [zoc] at *;rw [zoc] at *;obtain ⟨i0,hi,hz0,hz1,hz2⟩:=info_parts zeY;have Hp:=hid hp;have Hq:=hid hq;have Hsp:=hid hsp;have Hsq:=hid hsq;clear hp hq hsp hsq;go_enter Tryz.func129,Tryz.ntmps129
 go_wp2_with (at_make;refine wpList_make_full _ rfl _ _ 24 rfl w.heap.size 3 i0 (.int .i64 0) 1 Tryz.underlying24 hi hz0 hz1 _ _ _ _ (p.length+q.length+1) rfl rfl ?hL ?hC ?b2 ?b3 (Nat.le_refl _) ?_)
 case hL=>simp
 case hC=>simp
 case b2=>rw [hz2];omega
 case b3=>unfold maxLen;omega
 intro w1 hown hgrow;have h0:zor p q w 0 (List.replicate (p.length+q.length+1) 0) w1:=by
  refine ⟨List.length_replicate ..,Dec.small_zeros _,?_,?_,?_,(Ext.refl w).grown hgrow (by simp)⟩
  ·rw [Dec.pv_zeros,List.take_zero];simp [Dec.pv]
  ·intro j _;unfold nth;rw [List.getD_eq_getElem?_getD,List.getElem?_replicate];split <;> rfl
  ·unfold zoe;rw [List.length_replicate];have e:nis (List.replicate (p.length+q.length+1) 0)=(madeCells #[Value.int .i64 0] (p.length+q.length+1)).toList:=by
    rw [toList_madeCells_one];simp [nis]
   rw [e];exact hown
 have H0:=hid h0;clear h0 hown hgrow;go_wp2_with fail
 go_loopw [6,7,8,9] (fun v6 _ _ _ wr=>∃ (k:Nat)(o:List Nat),v6=.int .i64 k∧k≤p.length∧Hid (zor p q w k o wr)) (fun v6 _ _ _ _=>p.length - (zah v6).toNat)
 case atStart=>exact ⟨0,_,rfl,Nat.zero_le _,H0⟩
 case round =>
  obtain ⟨k,o,rfl,hk,HO⟩:=hrel;by_cases hlt:k<p.length
  ·have hstart:zos p q k w 0 0 o wr:=⟨Dec.B_pos,HO.out.1,HO.out.2.1,by rw [HO.out.2.2.1];simp [Dec.pv],fun j hj=>HO.out.2.2.2.1 j (by omega),fun _=>HO.out.2.2.2.1 _ (Nat.le_refl _),fun h=>absurd h (by omega),HO.out.2.2.2.2.1,HO.out.2.2.2.2.2⟩;have Hst:=hid hstart;clear hstart;go_wp2_with fail
   go_loopw [7,8,9] (fun v7 v8 v9 wr=>∃ (m c:Nat)(o:List Nat),v8=.int .i64 m∧m≤q.length+1∧v7=.int .i64 c∧Hid (zos p q k w m c o wr)) (fun _ v8 _ _=>q.length+1 - (zah v8).toNat)
   case atStart=>exact ⟨0,0,o,rfl,Nat.zero_le _,rfl,Hst⟩
   case round =>
    obtain ⟨m,c,o',rfl,hm,rfl,HI⟩:=hrel;have hcB:=HI.out.1;unfold Dec.B at hcB;have hol:=HI.out.2.1;have hown:=HI.out.2.2.2.2.2.2.2.1;have hX:=HI.out.2.2.2.2.2.2.2.2;have hfr:∀ j,wr.frozen? ⟨w.heap.size,j,none⟩=false:=zop hol hown;rcases Nat.lt_or_ge m q.length with hmq | hmq
    ·obtain ⟨bp,op,rfl,hcp⟩:=zoq (hX.sl Hp.out) k hlt;obtain ⟨bq,oq,rfl,hcq⟩:=zoq (hX.sl Hq.out) m hmq;have hco:=zoo hol hown (k+m) (by omega);have hf:=hfr (k+m);have hxa:nth p k<Dec.B:=Dec.small_getD Hsp.out k;have hxb:nth q m<Dec.B:=Dec.small_getD Hsq.out m;have hxo:nth o' (k+m)<Dec.B:=Dec.small_getD HI.out.2.2.1 (k+m);have hprod:nth p k * nth q m≤999999998000000001:=Dec.prod_lt hxa hxb;have hstep:=Dec.times_step o' q k m (nth p k) c (nth q m) (c+(nth o' (k+m)+nth p k * nth q m)) (by omega) hmq rfl rfl _ HI.out.2.2.2.1;have hset:=fun nq x=>zon hol (((Ext.refl wr).drewN nq).ownN hown) (k+m) x;unfold Dec.B at hxa hxb hxo;obtain ⟨A,hA⟩:∃ A,A=nth p k:=⟨_,rfl⟩;obtain ⟨Bq,hBq⟩:∃ Bq,Bq=nth q m:=⟨_,rfl⟩;obtain ⟨O,hO⟩:∃ O,O=nth o' (k+m):=⟨_,rfl⟩;rw [← hA] at hcp hxa hprod hstep;rw [← hBq] at hcq hxb hprod hstep;rw [← hO] at hco hxo hstep;have Hset:=hid hset;have Hstep:=hid hstep;have HA:=hid hA;have HX:=hid hX;have Hol:=hid hol;clear hset hstep hA hBq hO hfr hX hown hol;have hprod':(A:Int) * (Bq:Int)≤999999998000000001:=(by rw [← Int.natCast_mul];omega);have hprod0:0≤(A:Int) * (Bq:Int):=(by rw [← Int.natCast_mul];omega);have hm0:(m:Int)<(q.length:Int):=(by omega);have hm1:(0:Int)≤(m:Int):=(by omega);have hk0:(0:Int)≤(k:Int):=(by omega);have hk1:(k:Int)<(p.length:Int):=(by omega);go_wp2_with fail
     go_quiet (fail)
     go_wp2_with fail
     go_roundw
     case rel =>
      have e1:((O:Int)+c+A * Bq) / 1000000000=(((c+(O+A * Bq)) / Dec.B:Nat):Int):=(by unfold Dec.B;rw [← Int.natCast_mul];omega);have e2:((O:Int)+c+A * Bq) % 1000000000=(((c+(O+A * Bq)) % Dec.B:Nat):Int):=(by unfold Dec.B;rw [← Int.natCast_mul];omega);refine ⟨m+1,(c+(O+A * Bq)) / Dec.B,o'.set (k+m) ((c+(O+A * Bq)) % Dec.B),by go_num,by omega,by rw [e1],hid ⟨?_,by rw [List.length_set];exact Hol.out,Dec.small_set HI.out.2.2.1 (Nat.mod_lt _ Dec.B_pos),?_,?_,?_,fun h=>absurd h (by omega),?_,?_⟩⟩
      ·unfold Dec.B;omega
      ·have:=Hstep.out;rw [HA.out] at this ⊢;exact this
      ·intro j hj;have:=HI.out.2.2.2.2.1 j hj;unfold nth at *;rw [Dec.nthD_set _ _ _ _ (by have:=Hol.out;omega),if_neg (by omega)];exact this
      ·intro _;have:=HI.out.2.2.2.2.2.1 (by omega);unfold nth at *;rw [Dec.nthD_set _ _ _ _ (by have:=Hol.out;omega),if_neg (by omega)];exact this
      ·rw [e2];exact Hset.out _ _
      ·exact (HX.out.drewN _).setCell (Nat.le_refl _) _
     case measure=>simp [zah];omega
    ·rcases Nat.eq_zero_or_pos c with hc0 | hc0
     ·subst hc0;have hend:zor p q w (k+1) o' wr:=by
       refine ⟨hol,HI.out.2.2.1,?_,?_,hown,hX⟩
       ·have h:=HI.out.2.2.2.1;rw [Nat.zero_mul,Nat.add_zero,List.take_of_length_le hmq] at h;rw [h,Dec.pv_take_succ p k hlt,Nat.add_mul]
       ·intro j hj;exact HI.out.2.2.2.2.1 j (by omega)
      have Hend:=hid hend;have hm0:¬ (m:Int)<(q.length:Int):=(by omega);clear hend hol hown hX hfr;go_wp2_with fail
      go_roundw
      case rel=>exact ⟨k+1,o',by go_num,hlt,Hend⟩
      case measure=>simp [zah];omega
     ·have hmq2:m=q.length:=by
       rcases Nat.lt_or_ge q.length m with g | g
       ·have:=HI.out.2.2.2.2.2.2.1 g;omega
       ·omega
      subst hmq2;have hz:=HI.out.2.2.2.2.2.1 (Nat.le_refl _);have hco:=zoo hol hown (k+q.length) (by omega);rw [hz] at hco;have hf:=hfr (k+q.length);have hset:=zon hol hown (k+q.length) c;have hpv:=Dec.pv_set o' (k+q.length) c (by omega);have hz':o'.getD (k+q.length) 0=0:=hz;rw [hz',Nat.zero_mul,Nat.add_zero] at hpv;have Hset:=hid hset;have Hpv:=hid hpv;have HX:=hid hX;have Hol:=hid hol;clear hset hpv hX hol hown hfr hz hz';have hm0:¬ (q.length:Int)<(q.length:Int):=(by omega);have hc1:(0:Int)<(c:Int):=(by omega);have hk0:(0:Int)≤(k:Int):=(by omega);have hcm:(c:Int) % 1000000000=(c:Int):=(by omega);have hcd:(c:Int) / 1000000000=0:=(by omega);go_wp2_with fail
      go_roundw
      case rel =>
       refine ⟨q.length+1,0,o'.set (k+q.length) c,by go_num,Nat.le_refl _,by first | rfl | (rw [hcd];rfl),hid ⟨Dec.B_pos,by rw [List.length_set];exact Hol.out,Dec.small_set HI.out.2.2.1 HI.out.1,?_,?_,fun h=>absurd h (by omega),fun _=>rfl,?_,?_⟩⟩
       ·have h:=HI.out.2.2.2.1;have e1:q.take (q.length+1)=q:=List.take_of_length_le (Nat.le_succ _);have e2:q.take q.length=q:=List.take_length;rw [e2] at h;rw [Nat.zero_mul,Nat.add_zero,Hpv.out,h,e1]
       ·intro j hj;have:=HI.out.2.2.2.2.1 j hj;unfold nth at *;rw [Dec.nthD_set _ _ _ _ (by have:=Hol.out;omega),if_neg (by omega)];exact this
       ·first | exact Hset.out | (rw [hcm];exact Hset.out)
       ·exact HX.out.setCell (Nat.le_refl _) _
      case measure=>simp [zah]
  ·obtain rfl:k=p.length:=by omega
   have hval:Dec.pv o=Dec.pv p * Dec.pv q:=(by rw [HO.out.2.2.1,List.take_length]);have htr:=zoi w.heap.size _ o wr HO.out.2.2.2.2.1 HO.out.2.1;rw [hval] at htr;have Htr:=hid htr;clear htr hval;go_wp2_with fail
   refine Htr.out.mono ?_;rintro e w' ⟨⟨v,rfl,hv⟩,rfl⟩;have Hv:=hid hv;clear hv;go_wp2_with fail
   go_ret
   exact ⟨⟨v,rfl,Hv.out⟩,HO.out.2.2.2.2.2⟩
theorem zou (vp vq:Value)(a b:Nat)(w:World)(hp:Sl w vp (nis (Dec.P a)))(hq:Sl w vq (nis (Dec.P b)))(hlq:(Dec.P b).length≤1000) :
  Calls Tryz.prog 191 #[vp,vq] w fun e w'=>e=.returned (.int .i64 (znV a b))∧Ext w w':=by
 obtain ⟨ap,cp,rfl,_,_,_⟩:=hp.parts;obtain ⟨aq,cq,rfl,_,_,_⟩:=hq.parts;rw [zoc] at *;rw [zoc] at *;by_cases hl:(Dec.P a).length=(Dec.P b).length
 ·have hsa:=Dec.small_P a;have hsb:=Dec.small_P b;have hpa:=Dec.pv_P a;have hpb:=Dec.pv_P b;obtain ⟨p,hpe⟩:∃ p,p=Dec.P a:=⟨_,rfl⟩;obtain ⟨q,hqe⟩:∃ q,q=Dec.P b:=⟨_,rfl⟩;rw [← hpe] at hp hl hsa hpa ⊢;rw [← hqe] at hq hlq hl hsb hpb ⊢;obtain ⟨n,hn⟩:∃ n,n=p.length:=⟨_,rfl⟩;rw [← hl] at hq hlq ⊢;rw [← hn] at hp hq hlq hl ⊢;have Hp:=hid hp;have Hq:=hid hq;have Hl:=hid hl;have Hsa:=hid hsa;have Hsb:=hid hsb;have Hpa:=hid hpa;have Hpb:=hid hpb;have Hn:=hid hn;clear hp hq hl hsa hsb hpa hpb hpe hqe hn;go_enter Tryz.func191,Tryz.ntmps191
  go_wp2_with fail
  go_loopw [5] (fun v5 wr=>∃ k:Nat,v5=.int .i64 ((k:Int) - 1)∧k≤n∧Hid (p.drop k=q.drop k)∧Ext w wr) (fun v5 _=>(zah v5+1).toNat)
  case atStart=>exact ⟨n,by go_num,Nat.le_refl _,hid (by rw [List.drop_of_length_le (by have:=Hn.out;omega),List.drop_of_length_le (by have:=Hl.out;omega)]),Ext.refl _⟩
  case round =>
   obtain ⟨k,rfl,hk,HD,hE⟩:=hrel;have HE:=hid hE;rcases Nat.eq_zero_or_pos k with hk0 | hk0
   ·subst hk0;have he:znV a b=0:=by
     have h:p=q:=(by have:=HD.out;simpa using this);rw [← Hpa.out,← Hpb.out,h,znY]
    have He:=hid he;clear he hE;go_wp2_with fail
    go_ret
    exact ⟨by rw [He.out] <;> rfl,HE.out⟩
   ·obtain ⟨m,rfl⟩:∃ m,k=m+1:=⟨k - 1,by omega⟩;have hkm:((m+1:Nat):Int) - 1=(m:Int):=(by omega);rw [hkm];obtain ⟨bp,op,rfl,hcp⟩:=zoq (hE.sl Hp.out) m (by have:=Hn.out;omega);obtain ⟨bq,oq,rfl,hcq⟩:=zoq (hE.sl Hq.out) m (by have:=Hl.out;omega);have hcmp:(nth p m<nth q m→znV a b=-1)∧(nth q m<nth p m→znV a b=1)∧(nth p m=nth q m→p.drop m=q.drop m):=by
     have hd:=HD.out;have hln:p.length=q.length:=(by rw [← Hn.out,Hl.out]);refine ⟨fun h=>?_,fun h=>?_,fun h=>?_⟩
     ·have:=znT Hsa.out hln (by have:=Hn.out;omega) hd h;rw [Hpa.out,Hpb.out] at this;exact znW this
     ·have:=znT Hsb.out hln.symm (by have:=Hl.out;omega) hd.symm h;rw [Hpa.out,Hpb.out] at this;exact znX this
     ·have h1:m<p.length:=(by have:=Hn.out;omega);have h2:m<q.length:=(by have:=Hl.out;omega);rw [List.drop_eq_getElem_cons h1,List.drop_eq_getElem_cons h2,hd];congr 1;unfold nth at h;rw [List.getD_eq_getElem?_getD,List.getD_eq_getElem?_getD,List.getElem?_eq_getElem h1,List.getElem?_eq_getElem h2] at h;exact h
    generalize nth p m=X at *;generalize nth q m=Y at *;have Hcmp:=hid hcmp;clear hcmp;have hm0:(0:Int)≤(m:Int):=(by omega);have hm1:(m:Int)<(n:Int):=(by omega);clear hE hkm;rcases Nat.lt_trichotomy X Y with g | g | g
    ·have He:=hid (Hcmp.out.1 g);have g1:(X:Int)<(Y:Int):=(by omega);go_wp2_with fail
     go_quiet (fail)
     go_wp2_with fail
     go_ret
     exact ⟨by rw [He.out] <;> rfl,by first | exact HE.out.drewN _ | exact (HE.out.drewN _).drewN _⟩
    ·subst g;have Hd:=hid (Hcmp.out.2.2 rfl);go_wp2_with fail
     go_quiet (fail)
     go_wp2_with fail
     go_quiet (fail)
     go_wp2_with fail
     go_roundw
     case rel=>exact ⟨m,by go_num,by omega,Hd,HE.out.drewN _⟩
     case measure=>simp [zah]
    ·have He:=hid (Hcmp.out.2.1 g);have g1:(Y:Int)<(X:Int):=(by omega);have g2:¬ (X:Int)<(Y:Int):=(by omega);go_wp2_with fail
     go_quiet (fail)
     go_wp2_with fail
     go_quiet (fail)
     go_wp2_with fail
     go_ret
     exact ⟨by rw [He.out] <;> rfl,by first | exact HE.out.drewN _ | exact (HE.out.drewN _).drewN _⟩
 ·have hlt:(Dec.P a).length<(Dec.P b).length∨(Dec.P b).length<(Dec.P a).length:=by omega
  have he:((Dec.P a).length<(Dec.P b).length→znV a b=-1)∧((Dec.P b).length<(Dec.P a).length→znV a b=1):=⟨fun h=>znW (znU h),fun h=>znX (znU h)⟩;generalize (Dec.P a).length=x at *;generalize (Dec.P b).length=y at *;have He:=hid he;clear he hp hq;have hne:¬ (x:Int)=(y:Int):=by omega
  go_enter Tryz.func191,Tryz.ntmps191
  rcases hlt with g | g
  ·have g1:(x:Int)<(y:Int):=(by omega);have He1:=hid (He.out.1 g);go_wp2_with fail
   go_ret
   exact ⟨by rw [He1.out] <;> rfl,Ext.refl _⟩
  ·have g1:¬ (x:Int)<(y:Int):=(by omega);have He1:=hid (He.out.2 g);go_wp2_with fail
   go_ret
   exact ⟨by rw [He1.out] <;> rfl,Ext.refl _⟩
theorem zov (q:List Nat)(k:Nat):Dec.pv (q.take (k+1))=Dec.pv (q.take k)+q.getD k 0 * Dec.B ^ k:=by
 rcases Nat.lt_or_ge k q.length with h | h
 ·exact Dec.pv_take_succ q k h
 ·rw [List.take_of_length_le (by omega),List.take_of_length_le h,List.getD_eq_getElem?_getD,List.getElem?_eq_none h];simp
theorem zow {o p q:List Nat}{k bo bo' x:Nat}(ho:o.length=k)(hx:x+bo+q.getD k 0=p.getD k 0+Dec.B * bo')(h:Dec.pv o+Dec.pv (q.take k)=Dec.pv (p.take k)+bo * Dec.B ^ k) :
  Dec.pv (o++[x])+Dec.pv (q.take (k+1))=Dec.pv (p.take (k+1))+bo' * Dec.B ^ (k+1):=by
 rw [Dec.pv_append,ho,zov,zov,Nat.pow_succ];have e:=congrArg (· * Dec.B ^ k) hx;simp only [Nat.add_mul] at e;have e1:Dec.pv [x]=x:=by simp [Dec.pv]
 have e2:bo' * (Dec.B ^ k * Dec.B)=Dec.B * bo' * Dec.B ^ k:=by rw [Nat.mul_comm (Dec.B ^ k) Dec.B,← Nat.mul_assoc,Nat.mul_comm bo' Dec.B]
 have e3:Dec.B ^ k * x=x * Dec.B ^ k:=Nat.mul_comm ..;rw [e1,e2,e3];omega
structure zox (p q:List Nat)(w0:World)(k bo:Nat)(o:List Nat)(v:Value)(wr:World):Prop where
 n:o.length=k
 sm:Dec.Small o
 b1:bo≤1
 pv:Dec.pv o+Dec.pv (q.take k)=Dec.pv (p.take k)+bo * Dec.B ^ k
 own:zoe wr w0.heap.size v o
 x:Ext w0 wr
theorem zox.next {p q:List Nat}{w0 wr V:World}{k bo bo' x:Nat}{o:List Nat}{v v7:Value}(h:zox p q w0 k bo o v wr)(hb:bo'≤1)(hxB:x<Dec.B)(hx:x+bo+q.getD k 0=p.getD k 0+Dec.B * bo')(hX:Ext w0 V)
  (hown:V.ownsRow w0.heap.size 3 1 v7 (k+1) (nis o++[Value.int .i64 (x:Int)])):zox p q w0 (k+1) bo' (o++[x]) v7 V :=
 ⟨by rw [List.length_append,List.length_singleton,h.n],Dec.small_snoc h.sm hxB,hb,zow h.n hx h.pv,by
  unfold zoe nis;rw [List.length_append,List.length_singleton,h.n,List.map_append];exact hown,hX⟩
theorem zoy (vp vq:Value)(a b:Nat)(w:World)(hp:Sl w vp (nis (Dec.P a)))(hq:Sl w vq (nis (Dec.P b)))(hlp:(Dec.P a).length≤1000)(hba:b≤a) :
  Calls Tryz.prog 192 #[vp,vq] w fun e w'=>zof w' w.heap.size (Dec.P (a - b)) e∧Ext w w':=by
 have hlq:(Dec.P b).length≤(Dec.P a).length:=by
  rcases Nat.lt_or_ge (Dec.P a).length (Dec.P b).length with g | g
  ·have:=znU g;omega
  ·exact g
 have hsp:=Dec.small_P a;have hsq:=Dec.small_P b;have hpa:=Dec.pv_P a;have hpb:=Dec.pv_P b;generalize Dec.P a=p at *;generalize Dec.P b=q at *;obtain ⟨ap,cp,rfl,_,_,_⟩:=hp.parts;obtain ⟨aq,cq,rfl,_,_,_⟩:=hq.parts;rw [zoc] at *;rw [zoc] at *;obtain ⟨i0,hj,hz0,hz1,hz2⟩:=info_parts zeY;have Hp:=hid hp;have Hq:=hid hq;have Hsp:=hid hsp;have Hsq:=hid hsq;have Hpa:=hid hpa;have Hpb:=hid hpb;clear hp hq hsp hsq hpa hpb;go_enter Tryz.func192,Tryz.ntmps192
 go_wp2_with fail
 go_loopw [5,6,7,8] (fun v5 v6 v7 _ wr=>∃ (k bo:Nat)(o:List Nat),v7=.int .i64 k∧k≤p.length∧v6=.int .i64 bo∧Hid (zox p q w k bo o v5 wr)) (fun _ _ v7 _ _=>p.length - (zah v7).toNat)
 case atStart=>exact ⟨0,0,[],rfl,Nat.zero_le _,rfl,hid ⟨rfl,by simp [Dec.Small],Nat.zero_le _,by simp [Dec.pv],⟨rfl,.inl ⟨rfl,rfl⟩⟩,Ext.refl _⟩⟩
 case round =>
  obtain ⟨k,bo,o,rfl,hk,rfl,HR⟩:=hrel;have hbo:=HR.out.b1;have hX:=HR.out.x;have hwr:=hX.size;have hown:=HR.out.own;unfold zoe at hown;rw [HR.out.n] at hown;obtain ⟨al,cl,rfl⟩:=zfa hown;by_cases hkp:k<p.length
  ·obtain ⟨bp,op,rfl,hcp⟩:=zoq (hX.sl Hp.out) k hkp;have hxa:nth p k<Dec.B:=Dec.small_getD Hsp.out k;have hxb:nth q k<Dec.B:=Dec.small_getD Hsq.out k;unfold Dec.B at hxa hxb;have hnx:=fun (bo' x:Nat)(v7:Value)(V:World)(hb:bo'≤1)(hxB:x<1000000000)(hx:x+bo+nth q k=nth p k+1000000000 * bo')(hE:Ext w V)(ho:V.ownsRow w.heap.size 3 1 v7 (k+1) (nis o++[Value.int .i64 (x:Int)]))=>HR.out.next hb hxB hx hE ho;have hq0:q.length≤k→nth q k=0:=fun h=>by
    unfold nth;rw [List.getD_eq_getElem?_getD,List.getElem?_eq_none h];rfl
   have hk0:(0:Int)≤(k:Int):=(by omega);have hk1:(k:Int)<(p.length:Int):=(by omega);have hm3:k+1≤maxLen:=(by unfold maxLen;omega);have hm4:(k+1) * 8≤140737488355328:=(by omega);rcases Nat.lt_or_ge k q.length with hkq | hkq
   ·obtain ⟨bq,oq,rfl,hcq⟩:=zoq (hX.sl Hq.out) k hkq;have hq1:(k:Int)<(q.length:Int):=(by omega);generalize nth p k=X at *;generalize nth q k=Y at *;have Hown:=hid hown;have HX:=hid hX;have Hnx:=hid hnx;clear hown hX hnx hq0;rcases (by omega:X<bo+Y∨bo+Y≤X) with g | g
    ·have hneg:(X:Int) - (bo:Int) - (Y:Int)<0:=(by omega);obtain ⟨x,hxe⟩:∃ x:Nat,x=(X+1000000000 - bo - Y):=⟨_,rfl⟩;have hxv:(X:Int) - (bo:Int) - (Y:Int)+1000000000=(x:Int):=(by omega);have Hxe:=hid hxe;clear hxe;go_wp2_with (at_builtin;refine wpList_append_own _ rfl _ _ 24 rfl w.heap.size 3 i0 (.int .i64 0) 1 8 Tryz.underlying24 hj hz0 hz1 hz2 rfl (by decide) _ _ _ rfl (Hown.out.alloc _) ⟨wr.heap.size,0,none⟩ 1 1 [.int .i64 (x:Int)] rfl rfl (cell_one_new _ _ _) (by simp [Value.oneCell']) hm3 hm4 (by rw [World.size_alloc];omega) ?_;intro v7 V7 hown7 hgrow7 _)
     have Hx7:=hid (show Ext w V7 from (HX.out.alloc _).grown hgrow7 fun k hk=>(World.ownsRow.lt Hown.out k hk).1);have H7:=hid (Hnx.out 1 x v7 V7 (by omega) (by have:=Hxe.out;omega) (by have:=Hxe.out;omega) Hx7.out hown7);clear hown7 hgrow7;go_wp2_with fail
     go_roundw
     case rel=>exact ⟨k+1,1,_,by go_num,hkp,rfl,H7⟩
     case measure=>simp [zah];omega
    ·have hneg:¬ (X:Int) - (bo:Int) - (Y:Int)<0:=(by omega);obtain ⟨x,hxe⟩:∃ x:Nat,x=(X - bo - Y):=⟨_,rfl⟩;have hxv:(X:Int) - (bo:Int) - (Y:Int)=(x:Int):=(by omega);have Hxe:=hid hxe;clear hxe;go_wp2_with (at_builtin;refine wpList_append_own _ rfl _ _ 24 rfl w.heap.size 3 i0 (.int .i64 0) 1 8 Tryz.underlying24 hj hz0 hz1 hz2 rfl (by decide) _ _ _ rfl (Hown.out.alloc _) ⟨wr.heap.size,0,none⟩ 1 1 [.int .i64 (x:Int)] rfl rfl (cell_one_new _ _ _) (by simp [Value.oneCell']) hm3 hm4 (by rw [World.size_alloc];omega) ?_;intro v7 V7 hown7 hgrow7 _)
     have Hx7:=hid (show Ext w V7 from (HX.out.alloc _).grown hgrow7 fun k hk=>(World.ownsRow.lt Hown.out k hk).1);have H7:=hid (Hnx.out 0 x v7 V7 (by omega) (by have:=Hxe.out;omega) (by have:=Hxe.out;omega) Hx7.out hown7);clear hown7 hgrow7;go_wp2_with fail
     go_roundw
     case rel=>exact ⟨k+1,0,_,by go_num,hkp,rfl,H7⟩
     case measure=>simp [zah];omega
   ·have hy0:=hq0 hkq;rw [hy0] at hnx;have hq1:¬ (k:Int)<(q.length:Int):=(by omega);generalize nth p k=X at *;have Hown:=hid hown;have HX:=hid hX;have Hnx:=hid hnx;clear hown hX hnx hq0 hy0 hxb;rcases (by omega:X<bo∨bo≤X) with g | g
    ·have hneg:(X:Int) - (bo:Int)<0:=(by omega);obtain ⟨x,hxe⟩:∃ x:Nat,x=(X+1000000000 - bo - 0):=⟨_,rfl⟩;have hxv:(X:Int) - (bo:Int)+1000000000=(x:Int):=(by omega);have Hxe:=hid hxe;clear hxe;go_wp2_with (at_builtin;refine wpList_append_own _ rfl _ _ 24 rfl w.heap.size 3 i0 (.int .i64 0) 1 8 Tryz.underlying24 hj hz0 hz1 hz2 rfl (by decide) _ _ _ rfl (Hown.out.alloc _) ⟨wr.heap.size,0,none⟩ 1 1 [.int .i64 (x:Int)] rfl rfl (cell_one_new _ _ _) (by simp [Value.oneCell']) hm3 hm4 (by rw [World.size_alloc];omega) ?_;intro v7 V7 hown7 hgrow7 _)
     have Hx7:=hid (show Ext w V7 from (HX.out.alloc _).grown hgrow7 fun k hk=>(World.ownsRow.lt Hown.out k hk).1);have H7:=hid (Hnx.out 1 x v7 V7 (by omega) (by have:=Hxe.out;omega) (by have:=Hxe.out;omega) Hx7.out hown7);clear hown7 hgrow7;go_wp2_with fail
     go_roundw
     case rel=>exact ⟨k+1,1,_,by go_num,hkp,rfl,H7⟩
     case measure=>simp [zah];omega
    ·have hneg:¬ (X:Int) - (bo:Int)<0:=(by omega);obtain ⟨x,hxe⟩:∃ x:Nat,x=(X - bo - 0):=⟨_,rfl⟩;have hxv:(X:Int) - (bo:Int)=(x:Int):=(by omega);have Hxe:=hid hxe;clear hxe;go_wp2_with (at_builtin;refine wpList_append_own _ rfl _ _ 24 rfl w.heap.size 3 i0 (.int .i64 0) 1 8 Tryz.underlying24 hj hz0 hz1 hz2 rfl (by decide) _ _ _ rfl (Hown.out.alloc _) ⟨wr.heap.size,0,none⟩ 1 1 [.int .i64 (x:Int)] rfl rfl (cell_one_new _ _ _) (by simp [Value.oneCell']) hm3 hm4 (by rw [World.size_alloc];omega) ?_;intro v7 V7 hown7 hgrow7 _)
     have Hx7:=hid (show Ext w V7 from (HX.out.alloc _).grown hgrow7 fun k hk=>(World.ownsRow.lt Hown.out k hk).1);have H7:=hid (Hnx.out 0 x v7 V7 (by omega) (by have:=Hxe.out;omega) (by have:=Hxe.out;omega) Hx7.out hown7);clear hown7 hgrow7;go_wp2_with fail
     go_roundw
     case rel=>exact ⟨k+1,0,_,by go_num,hkp,rfl,H7⟩
     case measure=>simp [zah];omega
  ·obtain rfl:k=p.length:=by omega
   have hend:Dec.pv o=a - b:=by
    have h:=HR.out.pv;rw [List.take_length,List.take_of_length_le hlq,Hpa.out,Hpb.out] at h;have hlt:=Dec.pv_lt o HR.out.sm;rw [HR.out.n] at hlt;rcases (by omega:bo=0∨bo=1) with e | e
    ·rw [e,Nat.zero_mul] at h;omega
    ·rw [e,Nat.one_mul] at h;omega
   have htr:=zoi w.heap.size _ o wr HR.out.own HR.out.sm;rw [hend] at htr;have Htr:=hid htr;clear htr hend hown;have hk1:¬ (p.length:Int)<(p.length:Int):=(by omega);go_wp2_with fail
   refine Htr.out.mono ?_;rintro e w' ⟨⟨v,rfl,hv⟩,rfl⟩;have Hv:=hid hv;clear hv;go_wp2_with fail
   go_ret
   exact ⟨⟨v,rfl,Hv.out⟩,hX⟩
end
end Go.Proofs.YtebabancfnmfjaaGreatDoor
