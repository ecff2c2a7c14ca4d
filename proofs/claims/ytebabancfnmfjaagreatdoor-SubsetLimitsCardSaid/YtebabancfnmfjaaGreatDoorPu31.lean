/- Walks: schismaref02's join, Sign, side, signed at numbers that are not negative. Walks: schismaref02's side, signed, Mul at numbers that are not negative. Walks: law 31's primes of a world. Walk: schismaref02's divide. Walk: schismaref02's DivMod beyond 18 digits. Walk: law 38's choose, over any products and quotients of the reference. Walk: law 38's choose at numbers to 60. -/
import Derived.Test.YtebabancfnmfjaaGreatDoorPu30
import Derived.Test.YtebabancfnmfjaaGreatDoorPu29
import Derived.Test.YtebabancfnmfjaaGreatDoorPu20
import Derived.Laws.AppendOwnNone
import Derived.Test.YtebabancfnmfjaaGreatDoorPu22
set_option maxRecDepth 100000
set_option maxHeartbeats 2000000
namespace Go.Proofs.YtebabancfnmfjaaGreatDoor
section
open Go.RowKit Go.Lib Go.Shelf
attribute [local go_sem] Oper.semAt_some
def Zn (j l:Nat):ByteArray:=⟨(List.replicate j 48++decDigits l).toArray⟩
theorem zoz (j l:Nat):(Zn j l).size=j+nDigits l:=by
 show ((List.replicate j 48++decDigits l).toArray).size=_;rw [List.size_toArray,List.length_append,List.length_replicate,decDigits_length]
theorem zo0 (j l:Nat):(⟨#[48]⟩:ByteArray)++Zn j l=Zn (j+1) l:=by
 apply ByteArray.ext;show (⟨#[48]⟩++Zn j l:ByteArray).data=_;rw [ByteArray.data_append];unfold Zn;simp [List.replicate_succ]
theorem zo1 {h l:Nat}(hh:0<h)(hl:l<1000000000):D h++Zn (9 - nDigits l) l=D (h * 1000000000+l):=by
 apply ByteArray.ext;rw [ByteArray.data_append];show (decDigits h).toArray++(List.replicate (9 - nDigits l) 48++decDigits l).toArray=(decDigits (h * 1000000000+l)).toArray;rw [znR hh hl];simp
theorem zo2 {n:Nat}{m:Nat}(hm:m+1=(Dec.P n).length):nth (Dec.P n) m=n / Dec.B ^ m∧0<n / Dec.B ^ m:=by
 have h0:n ≠ 0:=fun e=>by rw [e,Dec.P_zero] at hm;simp at hm
 have h1:=Dec.P_len_lt n;have h2:=Dec.P_len_ge h0;rw [← hm] at h1 h2;rw [Nat.add_sub_cancel] at h2;have hb:0<Dec.B ^ m:=Nat.pow_pos Dec.B_pos;constructor
 ·unfold nth;rw [Dec.P_at,Nat.mod_eq_of_lt];rw [Nat.div_lt_iff_lt_mul hb,Nat.mul_comm,← Nat.pow_succ];exact h1
 ·exact Nat.div_pos h2 hb
theorem zo3 (n m:Nat):n / Dec.B ^ m=n / Dec.B ^ (m+1) * 1000000000+nth (Dec.P n) m:=by
 unfold nth;rw [Dec.P_at,Nat.pow_succ,← Nat.div_div_eq_div_mul];have:=Nat.div_add_mod (n / Dec.B ^ m) Dec.B;rw [show (1000000000:Nat)=Dec.B from rfl,Nat.mul_comm];exact this.symm
theorem zo4 (v:Value)(n:Nat)(w:World)(he:Env w)(hp:Sl w v (nis (Dec.P n)))(hl:(Dec.P n).length≤1000) :
  Calls Tryz.prog 193 #[v] w fun e w'=>e=.returned (.string (D n))∧Ext w w':=by
 have hsm:=Dec.small_P n;have hhd:=fun m=>zo2 (n:=n) (m:=m);have hdn:=zo3 n;have hz0:(Dec.P n).length=0→n=0:=fun h=>by
  rcases Nat.eq_zero_or_pos n with e | e
  ·exact e
  ·have:=Dec.P_len_pos (n:=n) (by omega);omega
 have hsz:∀ H,H≤n→(D H).size≤9 * (Dec.P n).length+1:=fun H hH=>by
  rw [zav];refine Nat.le_trans (Dec.nDigits_mono hH) (Dec.nDigits_le (by omega) ?_);have h1:=Dec.P_len_lt n;rw [Dec.pow_B] at h1;exact Nat.lt_of_lt_of_le h1 (Nat.pow_le_pow_right (by omega) (by omega))
 generalize Dec.P n=p at *;obtain ⟨ap,cp,rfl,_,_,_⟩:=hp.parts;rw [zoc] at *;have hit:=fun (l:Nat) W (hE:Ext w W)(hB:l<1000000000)=>zaA (l:Int) (by omega) (by omega) W (he.ext hE);have Hp:=hid hp;have Hsm:=hid hsm;have Hhd:=hid hhd;have Hdn:=hid hdn;have Hz0:=hid hz0;have Hit:=hid hit;have Hsz:=hid hsz;clear hsz hp hsm hhd hdn hz0 hit he;go_enter Tryz.func193,Tryz.ntmps193
 rcases Nat.eq_zero_or_pos p.length with h0 | h0
 ·have hn0:n=0:=Hz0.out h0;have Hn:=hid hn0;clear hn0;have h00:(p.length:Int)=0:=by omega
  go_wp2_with fail
  go_ret
  exact ⟨by rw [Hn.out,show D 0=⟨#[48]⟩ by decide +kernel] <;> rfl,Ext.refl _⟩
 ·obtain ⟨m,hm⟩:∃ m,p.length=m+1:=⟨p.length - 1,by omega⟩;obtain ⟨bp,op,rfl,hc0⟩:=zoq Hp.out m (by omega);obtain ⟨hh1,hh2⟩:=Hhd.out m hm.symm;have hx0:nth p m<1000000000:=Dec.small_getD Hsm.out m;have hi0:=Hit.out (nth p m) w (Ext.refl w) hx0;rw [zaw] at hi0;rw [hh1] at hi0 hc0;generalize hLp:p.length=L at *;have Hi0:=hid hi0;have Hh2:=hid hh2;have HLp:=hid hLp;clear hi0 hh1 hh2 hx0 hLp;have hL1:(L:Int) - 1=(m:Int):=by omega
  have hL2:(L:Int) - 2=(m:Int) - 1:=by omega
  have hL3:¬ (L:Int)=0:=by omega
  have hm0:(0:Int)≤(m:Int):=by omega
  have hm1:(m:Int)<(L:Int):=by omega
  go_wp2_with fail
  refine Hi0.out.mono ?_;rintro e w1 ⟨rfl,hx1⟩;have Hx1:=hid hx1;clear hx1 hc0;go_wp2_with fail
  go_loopw [3,4,5] (fun v3 v4 _ wr=>∃ k:Nat,v4=.int .i64 ((k:Int) - 1)∧k≤m∧v3=.string (D (n / Dec.B ^ k))∧Hid (0<n / Dec.B ^ k)∧Ext w wr) (fun _ v4 _ _=>(zah v4+1).toNat)
  case atStart=>exact ⟨m,by first | rfl | go_num,Nat.le_refl _,rfl,Hh2,Hx1.out⟩
  case round =>
   obtain ⟨k,rfl,hk,rfl,Hpos,hE⟩:=hrel;have HE:=hid hE;rcases Nat.eq_zero_or_pos k with hk0 | hk0
   ·subst hk0;have hn0:n / Dec.B ^ 0=n:=(by rw [Nat.pow_zero,Nat.div_one]);rw [hn0];clear hE hn0;go_wp2_with fail
    go_ret
    exact ⟨rfl,HE.out⟩
   ·obtain ⟨j,rfl⟩:∃ j,k=j+1:=⟨k - 1,by omega⟩;have hkj:((j+1:Nat):Int) - 1=(j:Int):=(by omega);rw [hkj];obtain ⟨b2,o2,e2,hc⟩:=zoq (hE.sl Hp.out) j (by have:=HLp.out;omega)
    cases e2
    have hxB:nth p j<1000000000:=Dec.small_getD Hsm.out j;have hi:=Hit.out (nth p j) wr hE hxB;rw [zaw] at hi;have hdn:=Hdn.out j;have hposj:0<n / Dec.B ^ j:=(by have:=Hpos.out;rw [hdn];omega);generalize nth p j=X at *;have hd9:=Dec.nDigits_le (n:=X) (k:=9) (by decide) hxB;have Hdn1:=hid hdn;have Hposj:=hid hposj;have Hi:=hid hi;clear hdn hposj hi hE hkj;have hj0:(0:Int)≤(j:Int):=(by omega);have hj1:(j:Int)<(L:Int):=(by omega);have hszH:=Hsz.out (n / Dec.B ^ (j+1)) (Nat.div_le_self _ _);generalize n / Dec.B ^ (j+1)=H at *;go_wp2_with fail
    refine Hi.out.mono ?_;rintro e w2 ⟨rfl,hx2⟩;have HE2:=hid (HE.out.trans hx2);clear hx2 hc;go_wp2_with fail
    go_loop [5] (fun v5=>∃ t:Nat,v5=.string (Zn t X)∧t+nDigits X≤9) (fun v5=>match v5 with | .string S=>9 - S.size | _=>0)
    case atStart=>exact ⟨0,rfl,by omega⟩
    case round =>
     obtain ⟨t,rfl,ht⟩:=hrel;have hsz:=zoz t X;have hsu:=zo0 t X;have Hsu:=hid hsu;clear hsu;by_cases hlt:t+nDigits X<9
     ·have hlt1:((t+nDigits X:Nat):Int)<9:=(by omega);go_wp2_with fail
      go_round
      case rel=>exact ⟨t+1,by rw [Hsu.out],by omega⟩
      case measure =>
       show 9 - ((⟨#[48]⟩:ByteArray)++Zn t X).size<9 - (Zn t X).size;rw [Hsu.out,zoz,zoz];omega
     ·have hend:t=9 - nDigits X:=(by omega);have hlt1:¬ ((t+nDigits X:Nat):Int)<9:=(by omega);have hcat:=zo1 (h:=H) Hpos.out hxB;rw [← hend,← Hdn1.out] at hcat;have Hcat:=hid hcat;clear hcat hend;have hnl:¬ 9223372036854775807<(D H).size+(t+nDigits X):=(by have:=HLp.out;omega);go_wp2_with fail
      go_roundw
      case rel=>exact ⟨j,by first | rfl | go_num,by omega,by rw [Hcat.out],Hposj,HE2.out⟩
      case measure=>simp [zah]
theorem zo5 (n:Nat)(w:World) :
  Calls Tryz.prog 64 #[.string (D n)] w fun e w'=>e=.returned (.int .i64 (if n=0 then 0 else 1))∧w'=w:=by
 have hz:((D n).toList == [48])=decide (n=0):=by
  rw [← zaw,zbu];rcases Nat.eq_zero_or_pos n with e | e
  ·rw [e];rfl
  ·rw [decide_eq_false (by omega),decide_eq_false (by omega)]
 have hp:=zbi n;have hd:=znH hp;generalize D n=S at *;have hsz:(0:Int)<(S.size:Int):=by omega
 have h45:¬ S[0].toNat=45:=by omega
 go_enter Tryz.func64,Tryz.ntmps64
 by_cases h0:n=0
 ·subst h0;have hz1:(S.toList == [48])=true:=by rw [hz];rfl
  have hz2:S.toList=[48]:=by simpa using hz1
  clear hz;go_wp2_with fail
  go_ret
  exact ⟨rfl,rfl⟩
 ·have hz1:(S.toList == [48])=false:=by rw [hz];simp [h0]
  have hz2:¬ S.toList=[48]:=by simpa using hz1
  clear hz;rw [if_neg h0];go_wp2_with fail
  go_ret
  exact ⟨rfl,rfl⟩
theorem zo6 (n:Nat)(w:World) :
  Calls Tryz.prog 66 #[.string (D n)] w fun e w'=>e=.returned (.int .i64 1)∧w'=w:=by
 have h:=zo5 n w;obtain ⟨z,hz⟩:∃ z:Int,z=if n=0 then 0 else 1:=⟨_,rfl⟩;have hz0:¬ z<0:=by rw [hz];split <;> decide
 rw [← hz] at h;have H:=hid h;clear h hz;go_enter Tryz.func66,Tryz.ntmps66
 go_wp2_with fail
 refine H.out.mono ?_;rintro e w1 ⟨rfl,rfl⟩;go_wp2_with fail
 go_ret
 exact ⟨rfl,rfl⟩
theorem zo7 (B:Nat)(v:Value)(l:List Nat)(w:World)(he:Env w)(ho:zoe w B v l)(hs:Dec.Small l)(hl:l.length≤1000) :
  Calls Tryz.prog 126 #[.bool false,v] w fun e w'=>e=.returned (.string (D (Dec.pv l)))∧Ext w w':=by
 have htr:=zoi B v l w ho hs;have hlen:(Dec.P (Dec.pv l)).length≤1000:=Nat.le_trans (Dec.P_length_lt _ _ (Dec.pv_lt l hs)) hl;have hjn:=fun u (h:zoe w B u (Dec.P (Dec.pv l)))=>zo4 u (Dec.pv l) w he h.sl hlen;obtain ⟨a,c,rfl⟩:=zfa ho;have Htr:=hid htr;have Hjn:=hid hjn;clear htr hjn ho hs he hlen;generalize l.length=L at *;go_enter Tryz.func126,Tryz.ntmps126
 go_wp2_with fail
 refine Htr.out.mono ?_;rintro e w1 ⟨⟨u,rfl,hu⟩,rfl⟩;have Hj:=hid (Hjn.out u hu);obtain ⟨a2,c2,rfl⟩:=zfa hu;clear hu;go_wp2_with fail
 refine Hj.out.mono ?_;rintro e w2 ⟨rfl,hx⟩;have Hx:=hid hx;clear hx;go_wp2_with fail
 go_ret
 exact ⟨rfl,Hx.out⟩
theorem zo8 {n:Nat}(h:nDigits n≤4000):(Dec.P n).length≤1000:=by
 rcases Nat.eq_zero_or_pos n with e | e
 ·rw [e,Dec.P_zero];simp
 ·have:=Dec.nDigits_P (n:=n) (by omega);omega
theorem zo9 (a b:Nat)(w:World)(he:Env w)(h:18<nDigits a+nDigits b)(ha:nDigits a≤100)(hb:nDigits b≤100) :
  Calls Tryz.prog 63 #[.string (D a),.string (D b)] w fun e w'=>e=.returned (.string (D (a * b)))∧Ext w w':=by
 have hda:=fun W=>znI a W (by omega);have hdb:=fun W=>znI b W (by omega);have hsa:=fun W=>zo6 a W;have hsb:=fun W=>zo6 b W;have hpa:=fun W=>zom (decDigits a) W (Dec.dig_dec a) (by rw [decDigits_length];omega);have hpb:=fun W=>zom (decDigits b) W (Dec.dig_dec b) (by rw [decDigits_length];omega);rw [Dec.val_dec] at hpa hpb;have hpa:∀ W,Calls Tryz.prog 125 #[.string (D a)] W fun e w'=>zof w' W.heap.size (Dec.P a) e∧Ext W w':=hpa;have hpb:∀ W,Calls Tryz.prog 125 #[.string (D b)] W fun e w'=>zof w' W.heap.size (Dec.P b) e∧Ext W w':=hpb;have hla:(Dec.P a).length≤1000:=zo8 (by omega);have hlb:(Dec.P b).length≤1000:=zo8 (by omega);have htm:=fun W va vb (h1:Sl W va (nis (Dec.P a)))(h2:Sl W vb (nis (Dec.P b)))=>zot va vb (Dec.P a) (Dec.P b) W h1 h2 (Dec.small_P a) (Dec.small_P b) hla hlb;rw [Dec.pv_P,Dec.pv_P] at htm;have hlab:(Dec.P (a * b)).length≤200:=by
  refine Dec.P_length_lt _ _ (Nat.lt_of_lt_of_le (Nat.mul_lt_mul'' (Dec.P_len_lt a) (Dec.P_len_lt b)) ?_);rw [← Nat.pow_add];refine Nat.pow_le_pow_right Dec.B_pos ?_;have h1:(Dec.P a).length≤100:=by
   rcases Nat.eq_zero_or_pos a with e | e
   ·rw [e,Dec.P_zero];simp
   ·have:=Dec.nDigits_P (n:=a) (by omega);omega
  have h2:(Dec.P b).length≤100:=by
   rcases Nat.eq_zero_or_pos b with e | e
   ·rw [e,Dec.P_zero];simp
   ·have:=Dec.nDigits_P (n:=b) (by omega);omega
  omega
 have hsg:=fun W u (hE:Ext w W)(B:Nat)(ho:zoe W B u (Dec.P (a * b)))=>zo7 B u (Dec.P (a * b)) W (he.ext hE) ho (Dec.small_P _) (by omega);rw [Dec.pv_P] at hsg;have hsz:(18:Int)<((D a).size:Int)+((D b).size:Int):=by rw [zav,zav];omega
 have hs1:(D a).size≤100:=by rw [zav];exact ha
 have hs2:(D b).size≤100:=by rw [zav];exact hb
 generalize D a=SA at *;generalize D b=SB at *;generalize D (a * b)=SC at *;have Hda:=hid hda;have Hdb:=hid hdb;have Hsa:=hid hsa;have Hsb:=hid hsb;have Hpa:=hid hpa;have Hpb:=hid hpb;have Htm:=hid htm;have Hsg:=hid hsg;clear hda hdb hsa hsb hpa hpb htm hsg hla hlb hlab h ha hb he;go_enter Tryz.func63,Tryz.ntmps63
 go_wp2_with fail
 refine (Hda.out _).mono ?_;rintro e w1 ⟨rfl,rfl⟩;go_wp2_with fail
 refine (Hdb.out _).mono ?_;rintro e w1 ⟨rfl,rfl⟩;go_wp2_with fail
 refine (Hsa.out _).mono ?_;rintro e w1 ⟨rfl,rfl⟩;go_wp2_with fail
 refine (Hsb.out _).mono ?_;rintro e w1 ⟨rfl,rfl⟩;go_wp2_with fail
 refine (Hda.out _).mono ?_;rintro e w1 ⟨rfl,rfl⟩;go_wp2_with fail
 refine (Hpa.out _).mono ?_;rintro e w2 ⟨⟨va,rfl,hva⟩,hx2⟩;have Hva:=hid hva;have Hx2:=hid hx2;clear hva hx2;go_wp2_with fail
 refine (Hdb.out _).mono ?_;rintro e w1 ⟨rfl,rfl⟩;go_wp2_with fail
 refine (Hpb.out _).mono ?_;rintro e w3 ⟨⟨vb,rfl,hvb⟩,hx3⟩;have Hvb:=hid hvb;have Hx3:=hid hx3;clear hvb hx3;go_wp2_with fail
 refine (Htm.out _ _ _ (Hx3.out.sl Hva.out.sl) Hvb.out.sl).mono ?_;rintro e w4 ⟨⟨vc,rfl,hvc⟩,hx4⟩;have Hvc:=hid hvc;have Hx4:=hid ((Hx2.out.trans Hx3.out).trans hx4);clear hvc hx4;go_wp2_with fail
 refine (Hsg.out _ _ Hx4.out _ Hvc.out).mono ?_;rintro e w5 ⟨rfl,hx5⟩;have Hx5:=hid (Hx4.out.trans hx5);clear hx5;go_wp2_with fail
 go_ret
 exact ⟨rfl,Hx5.out⟩
def Wl.cs (a:Wl):Array Value:=#[.bool a.three,.int .u8 a.kind,.int .u8 a.num,.int .i8 (a.xs 0).a,.int .i8 (a.xs 0).b,.int .i8 (a.xs 0).c,.int .i8 (a.xs 1).a,.int .i8 (a.xs 1).b,.int .i8 (a.xs 1).c,.int .i8 (a.xs 2).a,.int .i8 (a.xs 2).b,.int .i8 (a.xs 2).c,.int .i8 (a.xs 3).a,.int .i8 (a.xs 3).b,.int .i8 (a.xs 3).c,.int .i8 (a.xs 4).a,.int .i8 (a.xs 4).b,.int .i8 (a.xs 4).c,.int .i8 (a.xs 5).a,.int .i8 (a.xs 5).b,.int .i8 (a.xs 5).c,.int .i8 (a.xs 6).a,.int .i8 (a.xs 6).b,.int .i8 (a.xs 6).c,.int .i8 (a.xs 7).a,.int .i8 (a.xs 7).b,.int .i8 (a.xs 7).c]
def Wl.v (a:Wl):Value:=.agg a.cs
theorem zoA {w:World}{B:Nat}(T:TypeId)(xs:Array Value)(hB:B≤w.heap.size)(hm:xs.size≤maxLen):(w.alloc (.cells xs T)).ownsRow B T 1 (.slice (some ⟨w.heap.size,0,none⟩) xs.size xs.size) xs.size xs.toList :=
 ⟨by simp,.inr ⟨w.heap.size,xs.size,xs,rfl,hB,World.alloc_heap_new w _,Nat.le_refl _,hm,by simp,by rw [Nat.mul_one,← Array.length_toList,List.take_length]⟩⟩
structure zoB (p:List Nat)(b:Nat)(w0:World)(k R Q:Nat)(o:List Nat)(v7:Value)(wr:World):Prop where
 n:o.length=p.length
 sm:Dec.Small o
 q:Dec.pv (o.drop k)=Q
 e:Dec.pv (p.drop k)=Q * b+R
 lt:R<b
 out:zoe wr w0.heap.size (.slice (some ⟨w0.heap.size,0,none⟩) p.length p.length) o
 rest:zoe wr (w0.heap.size+1) v7 (Dec.P R)
 x:Ext w0 wr
theorem zoC {w:World}{B:Nat}:zoe w B (.slice none 0 0) []:=⟨rfl,.inl ⟨rfl,rfl⟩⟩
theorem zoD {w:World}{g B cap n:Nat}{v:Value}{o l:List Nat}(hn:o.length=n)(h:zoe w g (.slice (some ⟨g,0,none⟩) n cap) o)(hr:zoe w B v l)(hB:g<B)(j:Nat)(x:Value):zoe (w.setCell ⟨g,j,none⟩ x) B v l:=by
 subst hn;refine World.ownsRow.kept hr (World.ownsRow.stored h j x).2 ?_
 cases hv:v.ownBlock with
 | none=>exact .inl rfl
 | some r =>
  right
  intro e
  have e2:r=g:=by simpa [Value.ownBlock] using e
  have:=(World.ownsRow.lt hr r hv).1
  omega
theorem zoE {o:List Nat}{m d:Nat}(h:m<o.length):(o.set m d).drop m=d::o.drop (m+1):=by
 rw [List.drop_eq_getElem_cons (by rw [List.length_set];exact h),List.getElem_set_self];congr 1
 first | exact List.drop_set_of_lt (Nat.lt_succ_self m) | (rw [List.drop_set];simp)
theorem zoF {T b x:Nat}(hb:0<b):znV (b * x) T≤0 ↔ x≤T / b:=by
 rw [znZ,Nat.le_div_iff_mul_le hb,Nat.mul_comm]
theorem zoG (vp vq:Value)(a b:Nat)(w:World)(hp:Sl w vp (nis (Dec.P a)))(hq:Sl w vq (nis (Dec.P b)))(hb:0<b)(hla:(Dec.P a).length≤200)(hlb:(Dec.P b).length≤200) :
  Calls Tryz.prog 124 #[vp,vq] w fun e w'=>∃ u r,e=.returned (.tuple #[u,r])∧zoe w' w.heap.size u (Dec.P (a / b))∧zoe w' w.heap.size r (Dec.P (a % b))∧Ext w w':=by
 have hsa:=Dec.small_P a;have hpv:=Dec.pv_P a;generalize Dec.P a=p at *;obtain ⟨ap,cp,rfl,_,_,_⟩:=hp.parts;obtain ⟨aq,cq,rfl,_,_,_⟩:=hq.parts;rw [zoc] at *;rw [zoc] at *;have htm:=fun W (x:Nat) vx (hE:Ext w W)(hx:Sl W vx (nis [x]))(hB:x<Dec.B)=>zot (.slice aq (Dec.P b).length cq) vx (Dec.P b) [x] W (hE.sl hq) hx (Dec.small_P b) (by intro y hy;rw [List.mem_singleton.1 hy];exact hB) (by omega) (by simp);have hpx:∀ x,Dec.pv [x]=x:=fun x=>by simp [Dec.pv]
 simp only [hpx,Dec.pv_P] at htm;have hRb:∀ R,R<b→(Dec.P R).length≤(Dec.P b).length:=fun R h=>by
  rcases Nat.lt_or_ge (Dec.P b).length (Dec.P R).length with g | g
  ·have:=znU g;omega
  ·exact g
 generalize (Dec.P b).length=lb at *;obtain ⟨i0,hj,hz0,hz1,hz2⟩:=info_parts zeY;have Hp:=hid hp;have Hsa:=hid hsa;have Hpv:=hid hpv;have Htm:=hid htm;have Hbp:=hid hb;have HRb:=hid hRb;clear hRb hp hq hsa hpv htm hpx;go_enter Tryz.func124,Tryz.ntmps124
 go_wp2_with (at_make;refine wpList_make_full _ rfl _ _ 24 rfl w.heap.size 3 i0 (.int .i64 0) 1 Tryz.underlying24 hj hz0 hz1 _ _ _ _ p.length rfl rfl ?hL ?hC ?b2 ?b3 (Nat.le_refl _) ?_)
 case hL=>simp
 case hC=>simp
 case b2=>rw [hz2];omega
 case b3=>unfold maxLen;omega
 intro w1 hown hgrow;have h0:zoB p b w p.length 0 0 (List.replicate p.length 0) (.slice none 0 0) w1:=by
  refine ⟨List.length_replicate ..,Dec.small_zeros _,?_,?_,hb,?_,?_,(Ext.refl w).grown hgrow (by simp)⟩
  ·rw [List.drop_of_length_le (by rw [List.length_replicate];exact Nat.le_refl _)];rfl
  ·rw [List.drop_length];simp [Dec.pv]
  ·unfold zoe;rw [List.length_replicate];have e:nis (List.replicate p.length 0)=(madeCells #[Value.int .i64 0] p.length).toList:=by
    rw [toList_madeCells_one];simp [nis]
   rw [e];exact hown
  ·rw [Dec.P_zero];exact zoC
 have H0:=hid h0;clear h0 hown hgrow hb;go_wp2_with fail
 go_loopw [7,8,9,10,11] (fun v7 v8 _ _ _ wr=>∃ (k R Q:Nat)(o:List Nat),v8=.int .i64 ((k:Int) - 1)∧k≤p.length∧Hid (zoB p b w k R Q o v7 wr)) (fun _ v8 _ _ _ _=>(zah v8+1).toNat)
 case atStart=>exact ⟨p.length,0,0,_,by first | rfl | go_num,Nat.le_refl _,H0⟩
 case round =>
  obtain ⟨k,R,Q,o,rfl,hk,HR⟩:=hrel;rcases Nat.eq_zero_or_pos k with hk0 | hk0
  ·subst hk0;have hdm:Dec.pv o=a / b∧R=a % b:=by
    have he:=HR.out.e;have hq:=HR.out.q;rw [List.drop_zero] at he hq;rw [Hpv.out] at he;have hlt:=HR.out.lt;subst hq;have h1:a / b=Dec.pv o:=by
     rw [he,Nat.add_comm,Nat.add_mul_div_right _ _ Hbp.out,Nat.div_eq_of_lt hlt,Nat.zero_add]
    have h2:a % b=R:=by
     rw [he,Nat.add_comm,Nat.add_mul_mod_self_right,Nat.mod_eq_of_lt hlt]
    exact ⟨h1.symm,h2.symm⟩
   have htr:=zoi w.heap.size _ o wr HR.out.out HR.out.sm;rw [hdm.1] at htr;have Htr:=hid htr;have Hdm:=hid hdm.2;clear htr hdm;have hrst:=HR.out.rest;obtain ⟨a7,c7,rfl⟩:=zfa hrst;clear hrst;go_wp2_with fail
   refine Htr.out.mono ?_;rintro e w' ⟨⟨v,rfl,hv⟩,rfl⟩;have Hv:=hid hv;clear hv;go_wp2_with fail
   go_ret2
   refine ⟨v,_,rfl,Hv.out,?_,HR.out.x⟩;rw [← Hdm.out];exact zai HR.out.rest (Nat.le_succ _)
  ·obtain ⟨m,rfl⟩:∃ m,k=m+1:=⟨k - 1,by omega⟩;have hkm:((m+1:Nat):Int) - 1=(m:Int):=(by omega);rw [hkm];obtain ⟨bp,op,rfl,hcp⟩:=zoq (HR.out.x.sl Hp.out) m (by omega);obtain ⟨hTb,hnx⟩:=zob (i:=m) (by omega) Hsa.out HR.out.lt HR.out.e;have hxB:nth p m<Dec.B:=Dec.small_getD Hsa.out m;generalize nth p m=X at *;obtain ⟨T,hT⟩:∃ T,T=X+Dec.B * R:=⟨_,rfl⟩;rw [← hT] at hTb hnx;obtain ⟨d,hd⟩:∃ d,d=T / b:=⟨_,rfl⟩;have hdB:d<Dec.B:=by
    rw [hd,Nat.div_lt_iff_lt_mul Hbp.out,Nat.mul_comm];exact hTb
   unfold Dec.B at hdB;have hpT:Dec.pv (X::Dec.P R)=T:=(by rw [hT];simp [Dec.pv,Dec.pv_P]);have hsX:Dec.Small (X::Dec.P R):=zoa hxB (Dec.small_P R);have hwr:=HR.out.x.size;have hRl:(Dec.P R).length≤200:=Nat.le_trans (HRb.out R HR.out.lt) hlb;have hTl:(Dec.P T).length≤201:=by
    have h1:=Dec.P_length_lt _ _ (Dec.pv_lt _ hsX);rw [hpT,List.length_cons] at h1;omega
   have hwr1:w.heap.size+1≤wr.heap.size:=by
    have:=(World.ownsRow.lt HR.out.out w.heap.size rfl).2;omega
   have hX1:=HR.out.x.alloc (.cells #[.int .i64 (X:Int)] 3);have hlit:(wr.alloc (.cells #[.int .i64 (X:Int)] 3)).ownsRow (w.heap.size+1) 3 1 (.slice (some ⟨wr.heap.size,0,none⟩) 1 1) 1 [Value.int .i64 (X:Int)]:=zoA 3 #[.int .i64 (X:Int)] hwr1 (by unfold maxLen;simp);have hrs:=((Ext.refl wr).alloc (.cells #[.int .i64 (X:Int)] 3)).ownN HR.out.rest;have hou:=((Ext.refl wr).alloc (.cells #[.int .i64 (X:Int)] 3)).ownN HR.out.out;have htr:=fun W u (ho:zoe W (w.heap.size+1) u (X::Dec.P R))=>zoi (w.heap.size+1) u _ W ho hsX;rw [hpT] at htr;have Htr:=hid htr;have Hnx:=hid hnx;have Hd:=hid hd;have HX1:=hid hX1;have Hlit:=hid hlit;have Hrs:=hid hrs;have Hou:=hid hou;have HT:=hid hT;have hm0:(0:Int)≤(m:Int):=(by omega);have hm1:(m:Int)<(p.length:Int):=(by omega);obtain ⟨a7,c7,rfl⟩:=zfa hrs;clear htr hnx hd hX1 hlit hrs hou hT hpT hsX hxB hTb hkm;go_upto_region 6 with (fail)
   go_cut [7] (fun v7 wx=>zoe wx (w.heap.size+1) v7 (Dec.P T)∧zoe wx w.heap.size (.slice (some ⟨w.heap.size,0,none⟩) p.length p.length) o∧Ext w wx)
   case first =>
    cases a7 with
    | none =>
     have he:Value.slice none (Dec.P R).length c7=Value.slice none 0 0∧Dec.P R=[]:=by
      rcases Hrs.out.2 with ⟨h1,h2⟩ | ⟨g,cap,cur,h1,_⟩
      ·exact ⟨h1,List.eq_nil_of_length_eq_zero h2⟩
      ·simp at h1
     obtain ⟨he1,he2⟩:=he
     injection he1 with _ e2 e3
     rw [e2,e3]
     have H1:=hid (show zoe (wr.alloc (.cells #[.int .i64 (X:Int)] 3)) (w.heap.size+1) (.slice (some ⟨wr.heap.size,0,none⟩) 1 1) (X::Dec.P R) by rw [he2];exact Hlit.out)
     clear he2 e2 e3
     go_wp2_with (at_builtin;refine wpList_append_own_none rfl _ _ 24 rfl (w.heap.size+1) 3 i0 1 Tryz.underlying24 hj _ 1 _ rfl Hlit.out rfl ?_)
     refine (Htr.out _ _ H1.out).mono ?_
     rintro e w' ⟨⟨v,rfl,hv⟩,rfl⟩
     have Hv:=hid hv
     clear hv
     go_wp2_with fail
     go_meet
     exact ⟨Hv.out,Hou.out,HX1.out⟩
    | some ad =>
     obtain ⟨g7,rfl⟩:∃ g,ad=⟨g,0,none⟩:=by
      rcases Hrs.out.2 with ⟨h1,h2⟩ | ⟨g,cap,cur,h1,_⟩
      ·simp at h1
      ·injection h1 with e1 _ _;injection e1 with e1;exact ⟨g,e1⟩
     have hcl:∀ j u,(nis (Dec.P R))[j]?=some u→(wr.alloc (.cells #[.int .i64 (X:Int)] 3)).cell? ((⟨g7,0,none⟩:Addr).add j)=some u:=fun j u hu=>World.ownsRow.cells Hrs.out (g:=g7) rfl j u hu
     have Hcl:=hid hcl
     clear hcl
     have hn1:(nis (Dec.P R)).length=(Dec.P R).length * 1:=by rw [zoc,Nat.mul_one]
     have Hn1:=hid hn1
     clear hn1
     generalize hrl:(Dec.P R).length=rl at *
     have Hrl:=hid hrl
     clear hrl
     go_wp2_with (at_builtin;refine wpList_append_own _ rfl _ _ 24 rfl (w.heap.size+1) 3 i0 (.int .i64 0) 1 8 Tryz.underlying24 hj hz0 hz1 hz2 rfl (by decide) _ _ _ rfl Hlit.out ⟨g7,0,none⟩ rl c7 (nis (Dec.P R)) rfl Hn1.out Hcl.out (by intro u hu;obtain ⟨y,_,rfl⟩:=List.mem_map.1 hu;rfl) (by unfold maxLen;omega) (by omega) (by rw [World.size_alloc];omega) ?_;intro v7 V7 hown7 hgrow7 _)
     have H1:=hid (show zoe V7 (w.heap.size+1) v7 (X::Dec.P R) by
      unfold zoe;rw [List.length_cons,Hrl.out,Nat.add_comm rl 1];exact hown7)
     have hgrow8:(wr.alloc (.cells #[.int .i64 (X:Int)] 3)).grownBy V7 (some wr.heap.size):=hgrow7
     have hlt7:∀ k,(Value.slice (some ⟨wr.heap.size,0,none⟩) 1 1).ownBlock=some k→w.heap.size≤k:=fun k hk=>by
      have e:wr.heap.size=k:=(by simpa [Value.ownBlock] using hk);omega
     have H2:=hid (HX1.out.grown hgrow7 hlt7)
     have H3:=hid (show zoe V7 w.heap.size (.slice (some ⟨w.heap.size,0,none⟩) p.length p.length) o from World.ownsRow.kept Hou.out hgrow8 (.inr (by
      intro e;have e2:w.heap.size=wr.heap.size:=(by simpa [Value.ownBlock] using e);omega)))
     clear hown7 hgrow7 hlt7 hgrow8
     go_wp2_with fail
     refine (Htr.out _ _ H1.out).mono ?_
     rintro e w' ⟨⟨v,rfl,hv⟩,rfl⟩
     have Hv:=hid hv
     clear hv
     go_wp2_with fail
     go_meet
     exact ⟨Hv.out,H3.out,H2.out⟩
   case rest =>
    obtain ⟨hr7,ho7,hx7⟩:=hcut;obtain ⟨a8,c8,rfl⟩:=zfa hr7;have hord:=fun W va (x:Nat)(hE:Ext wc W)(hs:Sl W va (nis (Dec.P (b * x))))=>zou va _ (b * x) T W hs (hE.sl hr7.sl) (by omega);have Hord:=hid hord;have Hr7:=hid hr7;have Ho7:=hid ho7;have Hx7:=hid hx7;clear hord hr7 ho7 hx7 Htr Hlit Hrs Hou HX1;go_wp2_with fail
    go_loopw [9,10,11] (fun v9 v10 _ wx=>∃ lo hi:Nat,v9=.int .i64 lo∧v10=.int .i64 hi∧lo≤d∧d≤hi∧hi≤999999999∧Ext wc wx) (fun v9 v10 _ _=>(zah v10 - zah v9).toNat)
    case atStart=>exact ⟨0,999999999,rfl,rfl,Nat.zero_le _,by omega,Nat.le_refl _,Ext.refl _⟩
    case round =>
     obtain ⟨lo,hi,rfl,rfl,hlo,hhi,hh9,hE⟩:=hrel;have HE:=hid hE;clear hE;by_cases hlh:lo<hi
     ·obtain ⟨mid,hmid⟩:∃ mid:Nat,mid=(lo+hi+1) / 2:=⟨_,rfl⟩;have hmi:((lo:Int)+(hi:Int)+1) / 2=(mid:Int):=(by omega);have hml:lo<mid:=(by omega);have hmh:mid≤hi:=(by omega);have hlh1:(lo:Int)<(hi:Int):=(by omega);have hE1:=(Ext.refl wr).alloc (.cells #[.int .i64 (mid:Int)] 3);have hsl:Sl (wr.alloc (.cells #[.int .i64 (mid:Int)] 3)) (.slice (some ⟨wr.heap.size,0,none⟩) 1 1) (nis [mid]) :=
       zaj (zoA (w:=wr) (B:=wr.heap.size) 3 #[.int .i64 (mid:Int)] (Nat.le_refl _) (by unfold maxLen;simp))
      have htm:=Htm.out _ mid _ (((Hx7.out.trans HE.out).trans hE1)) hsl (by unfold Dec.B;omega);have hdec:znV (b * mid) T≤0 ↔ mid≤d:=(by rw [zoF Hbp.out,Hd.out]);generalize hon:znV (b * mid) T=z at *;have Htm1:=hid htm;have Hdec:=hid hdec;have HE1:=hid (HE.out.trans hE1);have Hon:=hid hon;clear htm hdec hE1 hsl hmid hon;go_wp2_with fail
      refine Htm1.out.mono ?_;rintro e w2 ⟨⟨va,rfl,hva⟩,hx2⟩;have ho:=Hord.out _ va mid (HE1.out.trans hx2) hva.sl;rw [Hon.out] at ho;have Ho:=hid ho;have HE2:=hid (HE1.out.trans hx2);clear ho hva hx2;go_wp2_with fail
      refine Ho.out.mono ?_;rintro e w3 ⟨rfl,hx3⟩;have HE3:=hid (HE2.out.trans hx3);clear hx3;rcases Nat.lt_or_ge d mid with g | g
      ·have hz:¬ z≤0:=fun h=>by have:=Hdec.out.1 h;omega
       go_wp2_with fail
       go_roundw
       case rel=>exact ⟨lo,mid - 1,rfl,by go_num,hlo,by omega,by omega,HE3.out⟩
       case measure=>simp [zah];omega
      ·have hz:z≤0:=Hdec.out.2 g;go_wp2_with fail
       go_roundw
       case rel=>exact ⟨mid,hi,rfl,rfl,g,hhi,hh9,HE3.out⟩
       case measure=>simp [zah];omega
     ·obtain rfl:d=lo:=by omega
      obtain rfl:d=hi:=by omega
      have hdd:¬ (d:Int)<(d:Int):=(by omega);have hou:=HE.out.ownN Ho7.out;have hrt:=HE.out.ownN Hr7.out;have hX8:=Hx7.out.trans HE.out;have hon:=HR.out.n;have hco:=zoo hon hou m (by omega);have hf:=zop hon hou m;have hset:=zon hon hou m d;have hpast:=zoD hon hou hrt (Nat.lt_succ_self _) m (.int .i64 (d:Int));have hxs:=hX8.setCell (p:=⟨w.heap.size,m,none⟩) (Nat.le_refl _) (.int .i64 (d:Int));have hsz:(wr.setCell ⟨w.heap.size,m,none⟩ (.int .i64 (d:Int))).heap.size ≥ w.heap.size+1:=by
       have:=(World.ownsRow.lt hset w.heap.size rfl).2;omega
      have hfin:∀ u V,zoe V (w.heap.size+1) u (Dec.P (T % b))→Ext (wr.setCell ⟨w.heap.size,m,none⟩ (.int .i64 (d:Int))) V→zoB p b w m (T % b) (Q * Dec.B+d) (o.set m d) u V:=fun u V h1 h2 =>
       ⟨by rw [List.length_set];exact hon,Dec.small_set HR.out.sm (by unfold Dec.B;omega),by
        rw [zoE (by omega)];have:=HR.out.q;show d+Dec.B * Dec.pv (o.drop (m+1))=_;rw [this,Nat.mul_comm,Nat.add_comm],by rw [Hd.out];exact Hnx.out,Nat.mod_lt _ Hbp.out,h2.ownN hset,h1,hxs.trans h2⟩
      have Hset:=hid hset;have Hpast:=hid hpast;have Hxs:=hid hxs;have Hfin:=hid hfin;have Hsz:=hid hsz;clear hset hpast hxs hfin hsz hou hrt hX8 hon hhi hlo;rcases Nat.eq_zero_or_pos d with hd0 | hd0
      ·have hTm:T % b=T:=by
        have h1:=Nat.div_add_mod T b;rw [← Hd.out,hd0,Nat.mul_zero,Nat.zero_add] at h1;exact h1
       have Hfin1:=hid (Hfin.out _ _ (by rw [hTm];exact Hpast.out) (Ext.refl _));clear hTm;subst hd0;have hd1:¬ (0:Int)<((0:Nat):Int):=(by omega);go_wp2_with fail
       go_roundw
       case rel=>exact ⟨m,_,_,_,by go_num,by omega,Hfin1⟩
       case measure=>simp [zah]
      ·have hd1:(0:Int)<(d:Int):=(by omega);have hbd:b * d≤T:=by
        rw [Hd.out];exact Nat.mul_div_le T b
       have hTm:T - b * d=T % b:=(by rw [Hd.out];exact (Nat.mod_eq_sub T b).symm);obtain ⟨W8,hW8⟩:∃ W8,W8=wr.setCell ⟨w.heap.size,m,none⟩ (.int .i64 (d:Int)):=⟨_,rfl⟩;have hE1:=(Ext.refl W8).alloc (.cells #[.int .i64 (d:Int)] 3);have hsz8:W8.heap.size=wr.heap.size:=(by rw [hW8];simp);have hsl:Sl (W8.alloc (.cells #[.int .i64 (d:Int)] 3)) (.slice (some ⟨wr.heap.size,0,none⟩) 1 1) (nis [d]):=by
        rw [← hsz8];exact zaj (zoA (w:=W8) (B:=W8.heap.size) 3 #[.int .i64 (d:Int)] (Nat.le_refl _) (by unfold maxLen;simp))
       have hxs:=Hxs.out;have hpa:=Hpast.out;have hfi:=Hfin.out;have hsz:=Hsz.out;rw [← hW8] at hxs hpa hfi hsz;have htm:=Htm.out _ d _ (hxs.trans hE1) hsl (by unfold Dec.B;omega);have hmi:=fun V va (hE:Ext W8 V)(h:Sl V va (nis (Dec.P (b * d))))=>zoy _ va T (b * d) V (hE.sl hpa.sl) h (by omega) hbd;rw [hTm] at hmi;have Htm1:=hid htm;have Hmi:=hid hmi;have HE1:=hid hE1;have Hfi:=hid hfi;have Hsz1:=hid hsz;clear htm hmi hE1 hsl hfi hsz hxs hpa hTm hbd hsz8;subst hW8;go_wp2_with fail
       refine Htm1.out.mono ?_;rintro e w2 ⟨⟨va,rfl,hva⟩,hx2⟩;have HE2:=hid (HE1.out.trans hx2);have Hm:=hid (Hmi.out _ va HE2.out hva.sl);clear hva hx2;go_wp2_with fail
       refine Hm.out.mono ?_;rintro e w3 ⟨⟨vb,rfl,hvb⟩,hx3⟩;have Hfin1:=hid (Hfi.out vb w3 (zai hvb (Nat.le_trans Hsz1.out HE2.out.size)) (HE2.out.trans hx3));clear hvb hx3;go_wp2_with fail
       go_roundw
       case rel=>exact ⟨m,_,_,_,by go_num,by omega,Hfin1⟩
       case measure=>simp [zah]
theorem zoH (a b:Nat)(w:World)(he:Env w)(ha:1000000000000000000≤a)(ha1:nDigits a≤100)(hb:b<1000000000000000000)(hb0:0<b) :
  Calls Tryz.prog 62 #[.string (D a),.string (D b)] w fun e w'=>e=.returned (.tuple #[.string (D (a / b)),.string (D (a % b))])∧Ext w w':=by
 have hb1:nDigits b≤100:=Nat.le_trans (Dec.nDigits_mono (show b≤a by omega)) ha1;have hqa:=fun W=>znL a W ha (by omega);have hqb:=fun W=>znK b W hb;have hda:=fun W=>znI a W (by omega);have hdb:=fun W=>znI b W (by omega);have hsa:=fun W=>zo6 a W;have hsb:=fun W=>zo6 b W;have hpa:=fun W=>zom (decDigits a) W (Dec.dig_dec a) (by rw [decDigits_length];omega);have hpb:=fun W=>zom (decDigits b) W (Dec.dig_dec b) (by rw [decDigits_length];omega);rw [Dec.val_dec] at hpa hpb;have hpa:∀ W,Calls Tryz.prog 125 #[.string (D a)] W fun e w'=>zof w' W.heap.size (Dec.P a) e∧Ext W w':=hpa;have hpb:∀ W,Calls Tryz.prog 125 #[.string (D b)] W fun e w'=>zof w' W.heap.size (Dec.P b) e∧Ext W w':=hpb;have hlen:∀ x,x≤a→(Dec.P x).length≤200:=fun x hx=>by
  have h1:=Dec.nDigits_mono hx;rcases Nat.eq_zero_or_pos x with e | e
  ·rw [e,Dec.P_zero];simp
  ·have:=Dec.nDigits_P (n:=x) (by omega);omega
 have hdv:=fun W va vb (h1:Sl W va (nis (Dec.P a)))(h2:Sl W vb (nis (Dec.P b)))=>zoG va vb a b W h1 h2 hb0 (hlen a (Nat.le_refl _)) (hlen b (by omega));have hsg:=fun (x:Nat) W u (hE:Ext w W)(B:Nat)(hx:x≤a)(ho:zoe W B u (Dec.P x))=>zo7 B u (Dec.P x) W (he.ext hE) ho (Dec.small_P _) (by have:=hlen x hx;omega);simp only [Dec.pv_P] at hsg;have hq1:a / b≤a:=Nat.div_le_self _ _;have hr1:a % b≤a:=Nat.mod_le _ _;have hsq:=fun W u (hE:Ext w W)(B:Nat)(ho:zoe W B u (Dec.P (a / b)))=>hsg (a / b) W u hE B hq1 ho;have hsr:=fun W u (hE:Ext w W)(B:Nat)(ho:zoe W B u (Dec.P (a % b)))=>hsg (a % b) W u hE B hr1 ho;generalize D a=SA at *;generalize D b=SB at *;generalize D (a / b)=SC at *;generalize D (a % b)=SR at *;have Hda:=hid hda;have Hdb:=hid hdb;have Hsa:=hid hsa;have Hsb:=hid hsb;have Hpa:=hid hpa;have Hpb:=hid hpb;have Hdv:=hid hdv;have Hsq:=hid hsq;have Hsr:=hid hsr;have Hqa:=hid hqa;have Hqb:=hid hqb;clear hda hdb hsa hsb hpa hpb hdv hsq hsr hsg hqa hqb hlen ha ha1 hb1 he hq1 hr1;go_enter Tryz.func62,Tryz.ntmps62
 go_wp2_with fail
 refine (Hqa.out _).mono ?_;rintro e w1 ⟨rfl,hx1⟩;have Hx1:=hid hx1;clear hx1;go_wp2_with fail
 refine (Hqb.out _).mono ?_;rintro e w2 ⟨rfl,hx2⟩;have Hx2:=hid (Hx1.out.trans hx2);clear hx2;go_wp2_with fail
 refine (Hda.out _).mono ?_;rintro e w3 ⟨rfl,rfl⟩;go_wp2_with fail
 refine (Hpa.out _).mono ?_;rintro e w3 ⟨⟨va,rfl,hva⟩,hx3⟩;have Hva:=hid hva;have Hx3:=hid (Hx2.out.trans hx3);clear hva hx3;go_wp2_with fail
 refine (Hdb.out _).mono ?_;rintro e w4 ⟨rfl,rfl⟩;go_wp2_with fail
 refine (Hpb.out _).mono ?_;rintro e w4 ⟨⟨vb,rfl,hvb⟩,hx4⟩;have Hvb:=hid hvb;have Hva4:=hid (hx4.ownN Hva.out);have Hx4:=hid (Hx3.out.trans hx4);clear hvb hx4;go_wp2_with fail
 refine (Hdv.out _ _ _ Hva4.out.sl Hvb.out.sl).mono ?_;rintro e w5 ⟨u,r,rfl,hu,hr,hx5⟩;have Hu:=hid hu;have Hr:=hid hr;have Hx5:=hid (Hx4.out.trans hx5);clear hu hr hx5;go_wp2_with fail
 refine (Hsa.out _).mono ?_;rintro e w6 ⟨rfl,rfl⟩;go_wp2_with fail
 refine (Hsb.out _).mono ?_;rintro e w6 ⟨rfl,rfl⟩;go_wp2_with fail
 refine (Hsq.out _ _ Hx5.out _ Hu.out).mono ?_;rintro e w6 ⟨rfl,hx6⟩;have Hr6:=hid (hx6.ownN Hr.out);have Hx6:=hid (Hx5.out.trans hx6);clear hx6;go_wp2_with fail
 refine (Hsa.out _).mono ?_;rintro e w7 ⟨rfl,rfl⟩;go_wp2_with fail
 refine (Hsr.out _ _ Hx6.out _ Hr6.out).mono ?_;rintro e w8 ⟨rfl,hx8⟩;have Hx8:=hid (Hx6.out.trans hx8);clear hx8;by_cases h0:SR.toList=[48]
 ·go_wp2_with fail
  go_ret2
  exact ⟨rfl,Hx8.out⟩
 ·have h1:(SR.toList == [48])=false:=by simpa using h0
  go_wp2_with fail
  refine (Hsa.out _).mono ?_;rintro e w9 ⟨rfl,rfl⟩;go_wp2_with fail
  refine (Hsb.out _).mono ?_;rintro e w9 ⟨rfl,rfl⟩;go_wp2_with fail
  go_ret2
  exact ⟨rfl,Hx8.out⟩
theorem zoI (n:Nat)(k:Int)(w:World)(he:Env w)(hn:n≤60)(hk:k≤(n:Int))
  (hmu:∀ (i:Nat) W,Ext w W→(i:Int)<k→Calls Tryz.prog 63 #[.string (I (zl4 (n:Int) i)),.string (I ((n:Int) - (i:Int)))] W fun e w'=>e=.returned (.string (I (zl4 (n:Int) i * ((n:Int) - (i:Int)))))∧Ext W w')
  (hdm:∀ (i:Nat) W,Ext w W→(i:Int)<k→Calls Tryz.prog 62 #[.string (I (zl4 (n:Int) i * ((n:Int) - (i:Int)))),.string (I ((i:Int)+1))] W fun e w'=>∃ r,e=.returned (.tuple #[.string (I (zl4 (n:Int) (i+1))),.string r])∧Ext W w') :
  Calls Tryz.prog 22 #[.int .i64 (n:Int),.int .i64 k] w fun e w'=>e=.returned (.string (I (if k<0 then 0 else zl4 (n:Int) k.toNat)))∧Ext w w':=by
 have hof:=fun (z:Int)(h0:-1000≤z)(h1:z≤1000) W (hE:Ext w W)=>znM z W (he.ext hE) (by omega) (by omega);obtain ⟨Z,hZ⟩:∃ Z,Z=if k<0 then 0 else zl4 (n:Int) k.toNat:=⟨_,rfl⟩;rw [← hZ];have Hof:=hid hof;have Hmu:=hid hmu;have Hdm:=hid hdm;have HZ:=hid hZ;clear hof hmu hdm hZ he;go_enter Tryz.func22,Tryz.ntmps22
 by_cases hneg:k<0
 ·have HZ0:=hid (show Z=0 by rw [HZ.out,if_pos hneg]);go_wp2_with fail
  go_ret
  exact ⟨by rw [HZ0.out,zl8] <;> rfl,Ext.refl _⟩
 ·obtain ⟨K,rfl⟩:∃ K:Nat,k=(K:Int):=⟨k.toNat,by omega⟩;have HZ2:=hid (show Z=zl4 (n:Int) K by rw [HZ.out,if_neg hneg,Int.toNat_natCast]);have hk0:¬ (K:Int)<0:=by omega
  have hkn:¬ (n:Int)<(K:Int):=by omega
  have H01:=hid (show zl4 (n:Int) 0=1 from rfl);clear HZ hneg;go_wp2_with fail
  go_loopw [5,6] (fun v5 v6 wr=>∃ i:Nat,v6=.int .i64 (i:Int)∧i≤K∧v5=.string (I (zl4 (n:Int) i))∧Hid (Ext w wr)) (fun _ v6 _=>K - (zah v6).toNat)
  case atStart=>exact ⟨0,rfl,Nat.zero_le _,by rw [H01.out,zl9],hid (Ext.refl _)⟩
  case round =>
   obtain ⟨i,rfl,hi,rfl,HE⟩:=hrel;by_cases hik:i<K
   ·have hw3:IntKind.i64.wrap ((n:Int) - (i:Int))=(n:Int) - (i:Int):=IntWalk.i64_in _ (by omega);have ho1:=Hof.out ((n:Int) - (i:Int)) (by omega) (by omega) wr HE.out;have ho2:=Hof.out ((i:Int)+1) (by omega) (by omega);have hm1:=fun W hE=>Hmu.out i W hE (by omega);have hd1:=fun W hE=>Hdm.out i W hE (by omega);generalize hz2:zl4 (n:Int) (i+1)=z2 at *;have Hz2:=hid hz2;clear hz2;generalize zl4 (n:Int) i * ((n:Int) - (i:Int))=z1 at *;generalize zl4 (n:Int) i=z0 at *;have Ho1:=hid ho1;have Ho2:=hid ho2;have Hm1:=hid hm1;have Hd1:=hid hd1;have hi0:(0:Int)≤(i:Int):=(by omega);have hi1:(i:Int)<(K:Int):=(by omega);clear ho1 ho2 hm1 hd1;go_wp2_with fail
    refine Ho1.out.mono ?_;rintro e w1 ⟨rfl,hx1⟩;have HE1:=hid (HE.out.trans hx1);clear hx1;go_wp2_with fail
    refine (Hm1.out _ HE1.out).mono ?_;rintro e w2 ⟨rfl,hx2⟩;have HE2:=hid (HE1.out.trans hx2);clear hx2;go_wp2_with fail
    refine (Ho2.out _ HE2.out).mono ?_;rintro e w3 ⟨rfl,hx3⟩;have HE3:=hid (HE2.out.trans hx3);clear hx3;go_wp2_with fail
    refine (Hd1.out _ HE3.out).mono ?_;rintro e w4 ⟨r,rfl,hx4⟩;have HE4:=hid (HE3.out.trans hx4);clear hx4;go_wp2_with fail
    go_roundw
    case rel=>exact ⟨i+1,by go_num,by omega,by rw [Hz2.out],HE4⟩
    case measure=>simp [zah];omega
   ·obtain rfl:i=K:=by omega
    have hi1:¬ (i:Int)<(i:Int):=(by omega);go_wp2_with fail
    go_ret
    exact ⟨by rw [HZ2.out] <;> rfl,HE.out⟩
end
section
open Go.RowKit Go.Lib Go.Shelf
theorem zoJ (a b:Nat)(w:World)(he:Env w)(ha:nDigits a≤100)(hb:nDigits b≤100) :
  Calls Tryz.prog 63 #[.string (D a),.string (D b)] w fun e w'=>e=.returned (.string (D (a * b)))∧Ext w w':=by
 rcases Nat.lt_or_ge 18 (nDigits a+nDigits b) with h | h
 ·exact zo9 a b w he h ha hb
 ·exact znN a b w he h
theorem zoK (a b:Nat)(w:World)(he:Env w)(ha:nDigits a≤100)(hb:b<1000000000000000000)(hb0:0<b) :
  Calls Tryz.prog 62 #[.string (D a),.string (D b)] w fun e w'=>e=.returned (.tuple #[.string (D (a / b)),.string (D (a % b))])∧Ext w w':=by
 rcases Nat.lt_or_ge a 1000000000000000000 with h | h
 ·exact znO a b w he h hb hb0
 ·exact zoH a b w he h ha hb hb0
theorem zoL (n:Nat)(k:Int)(w:World)(he:Env w)(hn:n≤60)(hk:k≤(n:Int)) :
  Calls Tryz.prog 22 #[.int .i64 (n:Int),.int .i64 k] w fun e w'=>e=.returned (.string (I (if k<0 then 0 else zl4 (n:Int) k.toNat)))∧Ext w w':=by
 have hb:∀ i:Nat,(i:Int)<k→∃ x y:Nat,zl4 (n:Int) i=(x:Int)∧x≤1000000000000000000∧(n:Int) - (i:Int)=(y:Int)∧y≤60:=fun i hi=>by
  have h1:=zl6 n (by omega) i (by omega);exact ⟨(zl4 (n:Int) i).toNat,n - i,by omega,by omega,by omega,by omega⟩
 refine zoI n k w he hn hk (fun i W hE hi=>?_) (fun i W hE hi=>?_)
 ·obtain ⟨x,y,h1,h2,h3,h4⟩:=hb i hi;rw [h1,h3,zaw,zaw,← Int.natCast_mul,zaw];exact zoJ x y W (he.ext hE) (by
   have:=Dec.nDigits_le (n:=x) (k:=19) (by decide) (by omega);omega) (by
   have:=Dec.nDigits_le (n:=y) (k:=2) (by decide) (by omega);omega)
 ·obtain ⟨x,y,h1,h2,h3,h4⟩:=hb i hi;have e:zl4 (n:Int) (i+1)=((x * y / (i+1):Nat):Int):=by
   rw [zl4,h1,h3,← Int.natCast_mul,show (i:Int)+1=((i+1:Nat):Int) by omega];exact (Int.natCast_ediv _ _).symm
  rw [e,h1,h3,← Int.natCast_mul,zaw,zaw,show (i:Int)+1=((i+1:Nat):Int) by omega,zaw];have hxy:x * y≤1000000000000000000 * 60:=Nat.mul_le_mul h2 h4;exact (zoK (x * y) (i+1) W (he.ext hE) (by
   have:=Dec.nDigits_le (n:=x * y) (k:=20) (by decide) (by omega);omega) (by omega) (by omega)).mono fun e w' h=>⟨_,h.1,h.2⟩
end
end Go.Proofs.YtebabancfnmfjaaGreatDoor
