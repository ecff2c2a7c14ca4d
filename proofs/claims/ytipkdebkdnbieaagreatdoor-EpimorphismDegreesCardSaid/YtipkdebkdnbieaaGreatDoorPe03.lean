/- Plain law: carries, borrows and long division in pieces. Walks: pieces' back and take, in place. Walks: pieces' small, scaled and compare. -/
import Derived.Test.YtipkdebkdnbieaaGreatDoorPe01
set_option maxRecDepth 100000
set_option maxHeartbeats 4000000
namespace Go.Proofs.YtipkdebkdnbieaaGreatDoor.Dec
open Go.Lib
theorem zcD (i:Nat):B ^ (i+1)=B ^ i * B:=Nat.pow_succ ..
theorem zcE (o:List Nat)(i t:Nat)(hi:i<o.length):pv (o.set i (t % B))+t / B * B ^ (i+1)+o.getD i 0 * B ^ i=pv o+t * B ^ i:=by
 have h1:=zaY o i (t % B) hi;have h2:t / B * B ^ (i+1)+t % B * B ^ i=t * B ^ i:=by
  rw [zcD,Nat.mul_comm (B ^ i) B,← Nat.mul_assoc,← Nat.add_mul,Nat.mul_comm (t / B) B,Nat.div_add_mod]
 omega
theorem back_step (o q:List Nat)(at_ k c t S:Nat)(hi:at_+k<o.length)(hk:k<q.length)(ht:t=c+o.getD (at_+k) 0+q.getD k 0)(hinv:pv o+c * B ^ (at_+k)=S+B ^ at_ * pv (q.take k)) :
  pv (o.set (at_+k) (t % B))+t / B * B ^ (at_+(k+1))=S+B ^ at_ * pv (q.take (k+1)):=by
 have h1:=zcE o (at_+k) t hi;rw [zaZ q k hk,Nat.mul_add,← Nat.add_assoc S,← hinv];have h3:t * B ^ (at_+k)=c * B ^ (at_+k)+o.getD (at_+k) 0 * B ^ (at_+k)+q.getD k 0 * B ^ (at_+k):=by rw [ht,Nat.add_mul,Nat.add_mul]
 have h4:B ^ at_ * (q.getD k 0 * B ^ k)=q.getD k 0 * B ^ (at_+k):=by rw [Nat.mul_left_comm,← Nat.pow_add]
 rw [h4,← Nat.add_assoc at_ k 1];omega
theorem back_last (o q:List Nat)(at_ c t S:Nat)(hi:at_+q.length<o.length)(ht:t=c+o.getD (at_+q.length) 0)(hinv:pv o+c * B ^ (at_+q.length)=S+B ^ at_ * pv (q.take q.length)) :
  pv (o.set (at_+q.length) (t % B))+t / B * B ^ (at_+(q.length+1))=S+B ^ at_ * pv q:=by
 have h1:=zcE o (at_+q.length) t hi;rw [List.take_length] at hinv;have h3:t * B ^ (at_+q.length)=c * B ^ (at_+q.length)+o.getD (at_+q.length) 0 * B ^ (at_+q.length):=by rw [ht,Nat.add_mul]
 rw [← Nat.add_assoc at_ q.length 1];omega
theorem zcF (o:List Nat)(i b c c1 b' x S Y:Nat)(hi:i<o.length)(hc:c≤c1)(hx:x+c1 % B+b=o.getD i 0+b' * B)(hinv:pv o+Y=S+(b+c) * B ^ i) :
  pv (o.set i x)+(Y+(c1 - c) * B ^ i)=S+(b'+c1 / B) * B ^ (i+1):=by
 have h1:=zaY o i x hi;have h2:x * B ^ i+c1 % B * B ^ i+b * B ^ i=o.getD i 0 * B ^ i+b' * B ^ (i+1):=by
  rw [← Nat.add_mul,← Nat.add_mul,hx,Nat.add_mul,zcD,Nat.mul_assoc b',Nat.mul_comm B]
 have h3:c1 / B * B ^ (i+1)+c1 % B * B ^ i=c1 * B ^ i:=by
  rw [zcD,Nat.mul_comm (B ^ i) B,← Nat.mul_assoc,← Nat.add_mul,Nat.mul_comm (c1 / B) B,Nat.div_add_mod]
 have h4:(c1 - c) * B ^ i+c * B ^ i=c1 * B ^ i:=by rw [← Nat.add_mul];congr 1;omega
 rw [Nat.add_mul] at hinv;rw [Nat.add_mul];omega
theorem take_step (o q:List Nat)(at_ k n b c b' x S:Nat)(hi:at_+k<o.length)(hk:k<q.length)(hx:x+(c+n * q.getD k 0) % B+b=o.getD (at_+k) 0+b' * B)
  (hinv:pv o+B ^ at_ * (n * pv (q.take k))=S+(b+c) * B ^ (at_+k)) :
  pv (o.set (at_+k) x)+B ^ at_ * (n * pv (q.take (k+1)))=S+(b'+(c+n * q.getD k 0) / B) * B ^ (at_+(k+1)):=by
 have h:=zcF o (at_+k) b c _ b' x S _ hi (Nat.le_add_right c (n * q.getD k 0)) hx hinv;rw [Nat.add_sub_cancel_left] at h;rw [← Nat.add_assoc at_ k 1,← h,zaZ q k hk,Nat.mul_add,Nat.mul_add];have h4:B ^ at_ * (n * (q.getD k 0 * B ^ k))=n * q.getD k 0 * B ^ (at_+k):=by
  rw [Nat.pow_add,← Nat.mul_assoc n,Nat.mul_left_comm]
 rw [h4]
theorem take_last (o q:List Nat)(at_ n b c b' x S:Nat)(hi:at_+q.length<o.length)(hx:x+c % B+b=o.getD (at_+q.length) 0+b' * B)
  (hinv:pv o+B ^ at_ * (n * pv (q.take q.length))=S+(b+c) * B ^ (at_+q.length)) :
  pv (o.set (at_+q.length) x)+B ^ at_ * (n * pv q)=S+(b'+c / B) * B ^ (at_+(q.length+1)):=by
 have h:=zcF o (at_+q.length) b c c b' x S _ hi (Nat.le_refl _) hx hinv;rw [Nat.sub_self,Nat.zero_mul,Nat.add_zero,List.take_length] at h;rw [← Nat.add_assoc at_ q.length 1];exact h
theorem small_step (o p:List Nat)(i n r t:Nat)(hi:i<o.length)(hp:i<p.length)(h0:o.getD i 0=0)(ht:t=r * B+p.getD i 0)(S:Nat)
  (hinv:n * pv o+r * B ^ (i+1)+pv (p.take (i+1))=S):n * pv (o.set i (t / n))+t % n * B ^ i+pv (p.take i)=S:=by
 have h1:=zaY o i (t / n) hi;rw [h0,Nat.zero_mul,Nat.add_zero] at h1;rw [h1,← hinv,zaZ p i hp,zcD,Nat.mul_add];have h2:n * (t / n * B ^ i)+t % n * B ^ i=t * B ^ i:=by rw [← Nat.mul_assoc,← Nat.add_mul,Nat.div_add_mod]
 have h3:t * B ^ i=r * (B ^ i * B)+p.getD i 0 * B ^ i:=by rw [ht,Nat.add_mul,Nat.mul_assoc,Nat.mul_comm B]
 omega
theorem getD_set_ne {o:List Nat}{i j x:Nat}(h:j ≠ i):(o.set i x).getD j 0=o.getD j 0:=by
 rw [List.getD_eq_getElem?_getD,List.getElem?_set_ne (by omega),List.getD_eq_getElem?_getD]
theorem zcG {qd b R b1 h Z Y:Nat}(hb:b1 * Z≤b)(hR:R<(h+1) * Z)(hq:qd * b≤R)(_hY:Y=Z)(h1:0<b1):qd≤h / b1:=by
 rw [Nat.le_div_iff_mul_le h1];have h2:qd * b1 * Z≤qd * b:=by rw [Nat.mul_assoc];exact Nat.mul_le_mul_left _ hb
 have h3:qd * b1 * Z<(h+1) * Z:=by omega
 have:=Nat.lt_of_mul_lt_mul_right h3;omega
theorem zcH {qd b R b1 b0 h r0 rest g Z:Nat}(hb:(b1 * B+b0) * Z≤b)(hR:R<(h * B+r0+1) * Z)(hq:qd * b≤R)(hg:qd≤g)(hr:rest+g * b1=h)(ht:(B≤g∧qd<B)∨rest * B+r0<g * b0):qd+1≤g:=by
 refine Nat.lt_of_le_of_ne hg fun e=>?_;rcases ht with ht | ht
 ·omega
 ·subst e;have h2:qd * (b1 * B+b0) * Z≤qd * b:=by rw [Nat.mul_assoc];exact Nat.mul_le_mul_left _ hb
  have h3:qd * (b1 * B+b0) * Z<(h * B+r0+1) * Z:=by omega
  have h4:=Nat.lt_of_mul_lt_mul_right h3;rw [Nat.mul_add,← Nat.mul_assoc,← hr,Nat.add_mul] at h4;omega
theorem zcI {qd b R b1 b0 h r0 rest g Z:Nat}(hb:b<(b1 * B+b0+1) * Z)(hR:(h * B+r0) * Z≤R)(hq:R<(qd+1) * b)(hr:rest+g * b1=h)(ht:g * b0≤rest * B+r0)(h1:0<b1)(hB:qd<B):g≤qd+1:=by
 refine Nat.le_of_not_lt fun hg=>?_;have e1:g * (b1 * B+b0)≤h * B+r0:=by
  rw [Nat.mul_add,← Nat.mul_assoc,← hr,Nat.add_mul];omega
 have e2:(qd+2) * (b1 * B+b0)≤g * (b1 * B+b0):=Nat.mul_le_mul_right _ hg;have e3:(h * B+r0) * Z<(qd+1) * ((b1 * B+b0+1) * Z):=Nat.lt_of_le_of_lt hR (Nat.lt_of_lt_of_le hq (Nat.mul_le_mul_left _ (Nat.le_of_lt hb)));rw [← Nat.mul_assoc] at e3;have e4:=Nat.lt_of_mul_lt_mul_right e3;have e5:1 * B≤b1 * B:=Nat.mul_le_mul_right _ h1;have e6:(qd+2) * (b1 * B+b0)=(qd+1) * (b1 * B+b0)+(b1 * B+b0):=by rw [show qd+2=(qd+1)+1 from rfl,Nat.add_mul (qd+1) 1,Nat.one_mul]
 have e7:(qd+1) * (b1 * B+b0+1)=(qd+1) * (b1 * B+b0)+(qd+1):=by rw [Nat.mul_add,Nat.mul_one]
 omega
theorem zcJ (l:List Nat)(i:Nat)(h:i≤l.length):pv l=pv (l.take i)+B ^ i * pv (l.drop i):=by
 have:=zaf (l.take i) (l.drop i);rw [List.take_append_drop,List.length_take,Nat.min_eq_left h] at this;exact this
theorem zcK {l:List Nat}(h:Small l)(i:Nat):Small (l.take i):=fun x hx=>h x (List.mem_of_mem_take hx)
theorem zcL {l:List Nat}(h:Small l)(i:Nat)(hi:i≤l.length):pv (l.take i)<B ^ i:=by
 have:=pv_lt _ (zcK h i);rwa [List.length_take,Nat.min_eq_left hi] at this
theorem zcM {l:List Nat}{i:Nat}(h:i<l.length):l.drop i=l.getD i 0::l.drop (i+1):=by
 rw [List.drop_eq_getElem_cons h,List.getD_eq_getElem?_getD,List.getElem?_eq_getElem h];rfl
theorem zcN {l:List Nat}(hs:Small l){n:Nat}(h:l.length=n+2):(l.getD (n+1) 0 * B+l.getD n 0) * B ^ n≤pv l∧pv l<(l.getD (n+1) 0 * B+l.getD n 0+1) * B ^ n:=by
 have e:=zcJ l n (by omega);have hlt:=zcL hs n (by omega);have e2:pv (l.drop n)=l.getD (n+1) 0 * B+l.getD n 0:=by
  rw [zcM (by omega),zcM (by omega),List.drop_of_length_le (by omega)];simp only [pv,Nat.mul_zero,Nat.add_zero];rw [Nat.mul_comm B,Nat.add_comm]
 rw [e,e2,Nat.mul_comm (B ^ n)];refine ⟨by omega,?_⟩;rw [Nat.add_mul _ 1,Nat.one_mul];omega
theorem zcO {l:List Nat}(h:∀ j,l.getD j 0=0):pv l=0:=by
 induction l with
 | nil=>rfl
 | cons x r ih =>
  have h0:x=0:=h 0
  have hr:pv r=0:=ih fun j=>by have:=h (j+1);rwa [zaj] at this
  simp only [pv,h0,hr,Nat.mul_zero]
theorem zcP {l:List Nat}{i:Nat}(h:pv l<B ^ i){j:Nat}(hj:i≤j):l.getD j 0=0:=by
 rcases Nat.lt_or_ge j l.length with hlt | hge
 ·have e:=zcJ l j (by omega);rw [zcM hlt] at e;simp only [pv] at e;refine Nat.eq_zero_of_not_pos fun h0=>?_;have h1:B ^ j * 1≤B ^ j * (l.getD j 0+B * pv (l.drop (j+1))):=Nat.mul_le_mul_left _ (by omega);have h2:B ^ i≤B ^ j:=Nat.pow_le_pow_right B_pos hj;omega
 ·rw [List.getD_eq_getElem?_getD,List.getElem?_eq_none hge];rfl
theorem zcQ {l:List Nat}(hs:Small l){i n:Nat}(hl:i+n+2<l.length)(h:pv l<B ^ (i+n+3)) :
  ((l.getD (i+n+2) 0 * B+l.getD (i+n+1) 0) * B+l.getD (i+n) 0) * B ^ (i+n)≤pv l∧pv l<((l.getD (i+n+2) 0 * B+l.getD (i+n+1) 0) * B+l.getD (i+n) 0+1) * B ^ (i+n):=by
 have e:=zcJ l (i+n) (by omega);have hlt:=zcL hs (i+n) (by omega);have e3:pv (l.drop (i+n+3))=0:=zcO fun j=>by
  have:=zcP h (j:=i+n+3+j) (by omega);rw [List.getD_eq_getElem?_getD] at this ⊢;rwa [List.getElem?_drop]
 have e2:pv (l.drop (i+n))=(l.getD (i+n+2) 0 * B+l.getD (i+n+1) 0) * B+l.getD (i+n) 0:=by
  rw [zcM (by omega),zcM (by omega),zcM (by omega)];simp only [pv];rw [show i+n+1+1+1=i+n+3 by omega,e3,show i+n+1+1=i+n+2 by omega,Nat.mul_zero,Nat.add_zero];generalize l.getD (i+n) 0=u0;generalize l.getD (i+n+1) 0=u1;generalize l.getD (i+n+2) 0=u2;simp only [Nat.add_zero];rw [Nat.mul_comm B u2,Nat.add_comm u1,Nat.mul_comm B,Nat.add_comm u0]
 rw [e,e2,Nat.mul_comm (B ^ (i+n))];refine ⟨by omega,?_⟩;rw [Nat.add_mul _ 1,Nat.one_mul];omega
theorem pv_lt_of {p q:List Nat}(hs:Small p)(hl:p.length=q.length){i:Nat}(hi:i<p.length)(heq:p.drop (i+1)=q.drop (i+1))(hlt:p.getD i 0<q.getD i 0):pv p<pv q:=by
 rw [zcJ p i (by omega),zcJ q i (by omega),zcM hi,zcM (by omega:i<q.length)];simp only [pv];rw [heq];have h1:=zcL hs i (by omega);have h2:B ^ i * (p.getD i 0+B * pv (q.drop (i+1))+1)≤B ^ i * (q.getD i 0+B * pv (q.drop (i+1))):=Nat.mul_le_mul_left _ (by omega);rw [Nat.mul_add _ _ 1,Nat.mul_one] at h2;omega
theorem P_len_cmp {a b:Nat}(h:(P a).length<(P b).length):a<b:=by
 have hb:b ≠ 0:=fun e=>by subst e;rw [P_zero] at h;simp at h
 have h1:=P_len_lt a;have h2:=zak hb;have h3:B ^ (P a).length≤B ^ ((P b).length - 1):=Nat.pow_le_pow_right B_pos (by omega);omega
theorem drop_cons_eq {p q:List Nat}{i:Nat}(hp:i<p.length)(hq:i<q.length)(h1:p.getD i 0=q.getD i 0)(h2:p.drop (i+1)=q.drop (i+1)):p.drop i=q.drop i:=by
 rw [zcM hp,zcM hq,h1,h2]
end Go.Proofs.YtipkdebkdnbieaaGreatDoor.Dec
namespace Go.Proofs.YtipkdebkdnbieaaGreatDoor
open Go.RowKit Go.Lib
def Far (w:World)(g:Nat)(a:Option Addr)(q:List Nat):Prop:=∀ i u,(zao q)[i]?=some u→∃ b off,a=some ⟨b,off,none⟩∧b ≠ g∧w.cell? ⟨b,off+i,none⟩=some u
theorem Far.grown {w w':World}{g:Nat}{a:Option Addr}{q:List Nat}(h:Far w g a q)(hg:w.grownBy w' (some g)):Far w' g a q:=fun i u hu=>by
 obtain ⟨b,off,h1,h2,h3⟩:=h i u hu;exact ⟨b,off,h1,h2,hg.cell h3 (by simpa using h2)⟩
def zcR (o0 q:List Nat)(at_ g cap B0:Nat)(w:World)(c k:Value)(wr:World):Prop :=
 ∃ (m cc:Nat)(o:List Nat),k=.int .i64 m∧m≤q.length+1∧c=.int .u64 cc∧cc≤1∧o.length=o0.length∧Dec.Small o∧Dec.pv o+cc * Dec.B ^ (at_+m)=Dec.pv o0+Dec.B ^ at_ * Dec.pv (q.take m) ∧
  (∀ j,at_+q.length<j→nth o j=nth o0 j)∧Own wr B0 (.slice (some ⟨g,0,none⟩) o.length cap) o∧w.grownBy wr (some g)
def zcS (o0 q:List Nat)(at_ g cap B0:Nat)(w:World)(e:Ending)(w':World):Prop :=
 ∃ (cc:Nat)(o:List Nat),e=.returned (.tuple #[])∧cc≤1∧o.length=o0.length∧Dec.Small o∧Dec.pv o+cc * Dec.B ^ (at_+(q.length+1))=Dec.pv o0+Dec.B ^ at_ * Dec.pv q ∧
  (∀ j,at_+q.length<j→nth o j=nth o0 j)∧Own w' B0 (.slice (some ⟨g,0,none⟩) o.length cap) o∧w.grownBy w' (some g)
theorem zcT {o:List Nat}{i j x:Nat}(h:j ≠ i):nth (o.set i x) j=nth o j:=Dec.getD_set_ne h
theorem zcU (g cap B0 at_:Nat)(aq:Option Addr)(cq:Nat)(o0 q:List Nat)(w:World)(ho:Own w B0 (.slice (some ⟨g,0,none⟩) o0.length cap) o0)(hs:Dec.Small o0)(hsq:Dec.Small q)(hq:Far w g aq q)(hat:at_+q.length<o0.length)(hl:o0.length≤1000000) :
  Calls Tryz.prog 197 #[.slice (some ⟨g,0,none⟩) o0.length cap,.slice aq q.length cq,.int .i64 at_] w (zcS o0 q at_ g cap B0 w):=by
 have Ho:=hid ho;have Hs:=hid hs;have Hsq:=hid hsq;have Hq:=hid hq;clear ho hs hsq hq;go_enter Tryz.func197,Tryz.ntmps197
 go_wp2_with fail
 go_loopw [6,7] (fun c k wr=>zcR o0 q at_ g cap B0 w c k wr) (fun _ k _=>q.length+1 - (zal k).toNat)
 case atStart=>exact ⟨0,0,o0,rfl,Nat.zero_le _,rfl,Nat.zero_le _,rfl,Hs.out,by simp [Dec.pv],fun _ _=>rfl,Ho.out,World.grownBy.refl _ _⟩
 case round =>
  obtain ⟨m,cc,o,rfl,hm,rfl,hcc,hlo,hso,hpv,hfr,hown,hgr⟩:=hrel;have Hlo:=hid hlo;have Hso:=hid hso;have Hpv:=hid hpv;have Hfr:=hid hfr;have Hgr:=hid hgr;have hf:wr.frozen? ⟨g,at_+m,none⟩=false:=World.ownsRow.frozenAt hown _;have hset:=zbb hown (at_+m);have hgs:=fun u=>(World.ownsRow.stored hown (at_+m) u).2;have Hset:=hid hset;have Hgs:=hid hgs;by_cases hml:m≤q.length
  ·have hcell:=zbc hown (at_+m) (by omega);have hxo:nth o (at_+m)<Dec.B:=Dec.small_getD hso _;have hat0:(0:Int)≤(at_:Int)+(m:Int):=(by omega);have hat1:(at_:Int)+(m:Int)<(o0.length:Int):=(by omega);rw [show o.length=o0.length from hlo] at hown;have Hown:=hid hown;have hlo2:=hlo;clear hlo hso hpv hfr hown hgr hset hgs;by_cases hmlt:m<q.length
   ·obtain ⟨bq,oq,rfl,_,hcellq⟩:=(Hq.out.grown Hgr.out) m _ (zat hmlt);have hxq:nth q m<Dec.B:=Dec.small_getD Hsq.out _;have hstep:=Dec.back_step o q at_ m cc (cc+nth o (at_+m)+nth q m) _ (by omega) hmlt rfl Hpv.out;have Hstep:=hid hstep;clear hstep hlo2;generalize hO:nth o (at_+m)=O at *;generalize hQ:nth q m=Q at *;have HO:=hid hO;have HQ:=hid hQ;clear hO hQ;unfold Dec.B at hxo hxq;go_wp2
    go_roundw
    case rel =>
     have e1:((cc:Int)+O+Q) / 1000000000=(((cc+O+Q) / Dec.B:Nat):Int):=(by unfold Dec.B;omega);have e2:((cc:Int)+O+Q) % 1000000000=(((cc+O+Q) % Dec.B:Nat):Int):=(by unfold Dec.B;omega);refine ⟨m+1,(cc+O+Q) / Dec.B,o.set (at_+m) ((cc+O+Q) % Dec.B),by go_num,by omega,by rw [e1],by unfold Dec.B;omega,by rw [List.length_set];exact Hlo.out,Dec.small_set Hso.out (Nat.mod_lt _ Dec.B_pos),Hstep.out,?_,?_,?_⟩
     ·intro j hj;rw [zcT (by omega)];exact Hfr.out j hj
     ·rw [e2,List.length_set];exact Hset.out _
     ·exact Hgr.out.trans (Hgs.out _)
    case measure=>simp [zal];omega
   ·obtain rfl:m=q.length:=by omega
    have hstep:=Dec.back_last o q at_ cc (cc+nth o (at_+q.length)) _ (by omega) rfl Hpv.out;have Hstep:=hid hstep;clear hstep hlo2;generalize hO:nth o (at_+q.length)=O at *;have HO:=hid hO;clear hO;unfold Dec.B at hxo;go_wp2
    go_roundw
    case rel =>
     have e1:((cc:Int)+O) / 1000000000=(((cc+O) / Dec.B:Nat):Int):=(by unfold Dec.B;omega);have e2:((cc:Int)+O) % 1000000000=(((cc+O) % Dec.B:Nat):Int):=(by unfold Dec.B;omega);refine ⟨q.length+1,(cc+O) / Dec.B,o.set (at_+q.length) ((cc+O) % Dec.B),by go_num,by omega,by rw [e1],by unfold Dec.B;omega,by rw [List.length_set];exact Hlo.out,Dec.small_set Hso.out (Nat.mod_lt _ Dec.B_pos),?_,?_,?_,?_⟩
     ·rw [List.take_of_length_le (by omega)];exact Hstep.out
     ·intro j hj;rw [zcT (by omega)];exact Hfr.out j hj
     ·rw [e2,List.length_set];exact Hset.out _
     ·exact Hgr.out.trans (Hgs.out _)
    case measure=>simp [zal]
  ·obtain rfl:m=q.length+1:=by omega
   have Hown:=hid hown;clear hlo hso hpv hfr hown hgr hset hgs hf;go_wp2
   go_end0
   exact ⟨cc,o,rfl,hcc,Hlo.out,Hso.out,by have:=Hpv.out;rwa [List.take_of_length_le (by omega)] at this,Hfr.out,Hown.out,Hgr.out⟩
def zcV (o0 q:List Nat)(n at_ g cap B0:Nat)(w:World)(b c k:Value)(wr:World):Prop :=
 ∃ (m bb cc:Nat)(o:List Nat),k=.int .i64 m∧m≤q.length+1∧b=.int .i64 bb∧bb≤1∧c=.int .u64 cc∧cc<Dec.B∧(m=q.length+1→cc=0)∧o.length=o0.length∧Dec.Small o∧Dec.pv o+Dec.B ^ at_ * (n * Dec.pv (q.take m))=Dec.pv o0+(bb+cc) * Dec.B ^ (at_+m) ∧
  (∀ j,at_+q.length<j→nth o j=nth o0 j)∧Own wr B0 (.slice (some ⟨g,0,none⟩) o.length cap) o∧w.grownBy wr (some g)
def zcW (o0 q:List Nat)(n at_ g cap B0:Nat)(w:World)(e:Ending)(w':World):Prop :=
 ∃ (bb:Nat)(o:List Nat),e=.returned (.bool (decide (bb=1)))∧bb≤1∧o.length=o0.length∧Dec.Small o∧Dec.pv o+Dec.B ^ at_ * (n * Dec.pv q)=Dec.pv o0+bb * Dec.B ^ (at_+(q.length+1)) ∧
  (∀ j,at_+q.length<j→nth o j=nth o0 j)∧Own w' B0 (.slice (some ⟨g,0,none⟩) o.length cap) o∧w.grownBy w' (some g)
theorem zcX {O R b:Nat}(hO:O<1000000000)(hR:R<1000000000)(hb:b≤1) :
  ((O:Int) - R - b<0→∃ x:Nat,(O:Int) - R - b+1000000000=x∧x<Dec.B∧x+R+b=O+1 * Dec.B)∧(¬ (O:Int) - R - b<0→∃ x:Nat,(O:Int) - R - b=x∧x<Dec.B∧x+R+b=O+0 * Dec.B):=by
 unfold Dec.B;constructor
 ·intro h;exact ⟨((O:Int) - R - b+1000000000).toNat,by omega,by omega,by omega⟩
 ·intro h;exact ⟨((O:Int) - R - b).toNat,by omega,by omega,by omega⟩
theorem zcY (g cap B0 n at_:Nat)(aq:Option Addr)(cq:Nat)(o0 q:List Nat)(w:World)(hn:n<Dec.B)(ho:Own w B0 (.slice (some ⟨g,0,none⟩) o0.length cap) o0)(hs:Dec.Small o0)(hsq:Dec.Small q)(hq:Far w g aq q)(hat:at_+q.length<o0.length)(hl:o0.length≤1000000) :
  Calls Tryz.prog 198 #[.slice (some ⟨g,0,none⟩) o0.length cap,.slice aq q.length cq,.int .u64 n,.int .i64 at_] w (zcW o0 q n at_ g cap B0 w):=by
 have Ho:=hid ho;have Hs:=hid hs;have Hsq:=hid hsq;have Hq:=hid hq;have Hn:=hid hn;clear ho hs hsq hq;unfold Dec.B at hn;go_enter Tryz.func198,Tryz.ntmps198
 go_wp2_with fail
 go_loopw [9,10,11] (fun b c k wr=>zcV o0 q n at_ g cap B0 w b c k wr) (fun _ _ k _=>q.length+1 - (zal k).toNat)
 case atStart=>exact ⟨0,0,0,o0,rfl,Nat.zero_le _,rfl,Nat.zero_le _,rfl,Dec.B_pos,fun h=>by omega,rfl,Hs.out,by simp [Dec.pv],fun _ _=>rfl,Ho.out,World.grownBy.refl _ _⟩
 case round =>
  obtain ⟨m,bb,cc,o,rfl,hm,rfl,hbb,rfl,hcc,hcz,hlo,hso,hpv,hfr,hown,hgr⟩:=hrel;have Hlo:=hid hlo;have Hso:=hid hso;have Hpv:=hid hpv;have Hfr:=hid hfr;have Hgr:=hid hgr;have Hcz:=hid hcz;have Hcc:=hid hcc;have hf:wr.frozen? ⟨g,at_+m,none⟩=false:=World.ownsRow.frozenAt hown _;have hset:=zbb hown (at_+m);have hgs:=fun u=>(World.ownsRow.stored hown (at_+m) u).2;have Hset:=hid hset;have Hgs:=hid hgs;unfold Dec.B at hcc;by_cases hml:m≤q.length
  ·have hcell:=zbc hown (at_+m) (by omega);have hxo:nth o (at_+m)<Dec.B:=Dec.small_getD hso _;have hat0:(0:Int)≤(at_:Int)+(m:Int):=(by omega);have hat1:(at_:Int)+(m:Int)<(o0.length:Int):=(by omega);rw [show o.length=o0.length from hlo] at hown;have Hown:=hid hown;have hlo2:=hlo;clear hlo hso hpv hfr hown hgr hset hgs hcz;by_cases hmlt:m<q.length
   ·obtain ⟨bq,oq,rfl,_,hcellq⟩:=(Hq.out.grown Hgr.out) m _ (zat hmlt);have hxq:nth q m<Dec.B:=Dec.small_getD Hsq.out _;have hprod:n * nth q m≤999999998000000001:=Dec.prod_lt Hn.out hxq;have hstep:=fun b' x hx=>Dec.take_step o q at_ m n bb cc b' x _ (by omega) hmlt hx Hpv.out;have Hstep:=hid hstep;clear hstep hlo2;generalize hO:nth o (at_+m)=O at *;generalize hQ:nth q m=Q at *;have HO:=hid hO;have HQ:=hid hQ;clear hO hQ;unfold Dec.B at hxo hxq;have hprod':(n:Int) * (Q:Int)≤999999998000000001:=(by rw [← Int.natCast_mul];omega);have hprod0:0≤(n:Int) * (Q:Int):=(by rw [← Int.natCast_mul];omega);have eR:((cc:Int)+(n:Int) * (Q:Int)) % 1000000000=(((cc+n * Q) % 1000000000:Nat):Int):=(by rw [← Int.natCast_mul];omega);have eC:((cc:Int)+(n:Int) * (Q:Int)) / 1000000000=(((cc+n * Q) / Dec.B:Nat):Int):=(by unfold Dec.B;rw [← Int.natCast_mul];omega);have hcN:(cc+n * Q) / Dec.B<Dec.B:=(by unfold Dec.B;omega);have hRlt:(cc+n * Q) % 1000000000<1000000000:=Nat.mod_lt _ (by omega);have hnum:=zcX hxo hRlt hbb;generalize hR:(cc+n * Q) % 1000000000=R at *;have HR:=hid hR;have HeC:=hid eC;have HcN:=hid hcN;have Hnum:=hid hnum;clear hR eC hcN hnum;by_cases hneg:(O:Int) - (R:Int) - (bb:Int)<0
    ·obtain ⟨x,hx1,hx2,hx3⟩:=Hnum.out.1 hneg;have Hx2:=hid hx2;have Hx3:=hid hx3;clear hx2 hx3;go_wp2
     go_roundw
     case rel =>
      rw [HeC.out];refine ⟨m+1,1,(cc+n * Q) / Dec.B,o.set (at_+m) x,by go_num,by omega,rfl,Nat.le_refl _,rfl,HcN.out,fun h=>by omega,by rw [List.length_set];exact Hlo.out,Dec.small_set Hso.out Hx2.out,?_,?_,?_,?_⟩
      ·have:=Hstep.out 1 x (by
        have h3:=Hx3.out;rw [← HR.out,← HO.out] at h3;rw [← HQ.out] at h3;exact h3)
       rw [← HQ.out];exact this
      ·intro j hj;rw [zcT (by omega)];exact Hfr.out j hj
      ·rw [List.length_set];exact Hset.out _
      ·exact Hgr.out.trans (Hgs.out _)
     case measure=>simp [zal];omega
    ·obtain ⟨x,hx1,hx2,hx3⟩:=Hnum.out.2 hneg;have Hx2:=hid hx2;have Hx3:=hid hx3;clear hx2 hx3;go_wp2
     go_roundw
     case rel =>
      rw [HeC.out];refine ⟨m+1,0,(cc+n * Q) / Dec.B,o.set (at_+m) x,by go_num,by omega,rfl,Nat.zero_le _,rfl,HcN.out,fun h=>by omega,by rw [List.length_set];exact Hlo.out,Dec.small_set Hso.out Hx2.out,?_,?_,?_,?_⟩
      ·have:=Hstep.out 0 x (by
        have h3:=Hx3.out;rw [← HR.out,← HO.out] at h3;rw [← HQ.out] at h3;exact h3)
       rw [← HQ.out];exact this
      ·intro j hj;rw [zcT (by omega)];exact Hfr.out j hj
      ·rw [List.length_set];exact Hset.out _
      ·exact Hgr.out.trans (Hgs.out _)
     case measure=>simp [zal];omega
   ·obtain rfl:m=q.length:=by omega
    have hstep:=fun b' x hx=>Dec.take_last o q at_ n bb cc b' x _ (by omega) hx Hpv.out;have Hstep:=hid hstep;clear hstep hlo2;generalize hO:nth o (at_+q.length)=O at *;have HO:=hid hO;clear hO;unfold Dec.B at hxo;have eR:(cc:Int) % 1000000000=(cc:Int):=(by omega);have eC:(cc:Int) / 1000000000=0:=(by omega);have hnum:=zcX hxo hcc hbb;have HeC:=hid eC;have Hnum:=hid hnum;have hzB:cc / Dec.B=0:=Nat.div_eq_of_lt Hcc.out;have hmB:cc % Dec.B=cc:=Nat.mod_eq_of_lt Hcc.out;have HzB:=hid hzB;have HmB:=hid hmB;clear eC hnum hzB hmB;by_cases hneg:(O:Int) - (cc:Int) - (bb:Int)<0
    ·obtain ⟨x,hx1,hx2,hx3⟩:=Hnum.out.1 hneg;have Hx2:=hid hx2;have Hx3:=hid hx3;clear hx2 hx3;go_wp2
     go_roundw
     case rel =>
      rw [HeC.out];refine ⟨q.length+1,1,0,o.set (at_+q.length) x,by go_num,by omega,rfl,Nat.le_refl _,rfl,Dec.B_pos,fun _=>rfl,by rw [List.length_set];exact Hlo.out,Dec.small_set Hso.out Hx2.out,?_,?_,?_,?_⟩
      ·have:=Hstep.out 1 x (by
        have h3:=Hx3.out;rw [← HO.out] at h3;rw [HmB.out];exact h3)
       rw [HzB.out] at this;rw [List.take_of_length_le (by omega)];exact this
      ·intro j hj;rw [zcT (by omega)];exact Hfr.out j hj
      ·rw [List.length_set];exact Hset.out _
      ·exact Hgr.out.trans (Hgs.out _)
     case measure=>simp [zal]
    ·obtain ⟨x,hx1,hx2,hx3⟩:=Hnum.out.2 hneg;have Hx2:=hid hx2;have Hx3:=hid hx3;clear hx2 hx3;go_wp2
     go_roundw
     case rel =>
      rw [HeC.out];refine ⟨q.length+1,0,0,o.set (at_+q.length) x,by go_num,by omega,rfl,Nat.zero_le _,rfl,Dec.B_pos,fun _=>rfl,by rw [List.length_set];exact Hlo.out,Dec.small_set Hso.out Hx2.out,?_,?_,?_,?_⟩
      ·have:=Hstep.out 0 x (by
        have h3:=Hx3.out;rw [← HO.out] at h3;rw [HmB.out];exact h3)
       rw [HzB.out] at this;rw [List.take_of_length_le (by omega)];exact this
      ·intro j hj;rw [zcT (by omega)];exact Hfr.out j hj
      ·rw [List.length_set];exact Hset.out _
      ·exact Hgr.out.trans (Hgs.out _)
     case measure=>simp [zal]
  ·obtain rfl:m=q.length+1:=by omega
   obtain rfl:=Hcz.out rfl;have Hown:=hid hown;clear hlo hso hpv hfr hown hgr hset hgs hf hcz hml;have hpv2:Dec.pv o+Dec.B ^ at_ * (n * Dec.pv q)=Dec.pv o0+bb * Dec.B ^ (at_+(q.length+1)):=by
    have:=Hpv.out;rwa [List.take_of_length_le (by omega),Nat.add_zero] at this
   have Hpv2:=hid hpv2;clear hpv2;rcases (show bb=0∨bb=1 by omega) with rfl | rfl
   ·go_wp2
    go_ret
    exact ⟨0,o,rfl,hbb,Hlo.out,Hso.out,Hpv2.out,Hfr.out,Hown.out,Hgr.out⟩
   ·go_wp2
    go_ret
    exact ⟨1,o,rfl,hbb,Hlo.out,Hso.out,Hpv2.out,Hfr.out,Hown.out,Hgr.out⟩
end Go.Proofs.YtipkdebkdnbieaaGreatDoor
namespace Go.Proofs.YtipkdebkdnbieaaGreatDoor
open Go.RowKit Go.Lib
def zcZ (p:List Nat)(n:Nat)(w:World)(r i:Value)(wr:World):Prop :=
 ∃ (m rr:Nat)(o:List Nat),i=.int .i64 ((m:Int) - 1)∧m≤p.length∧r=.int .u64 rr∧rr<n∧o.length=p.length∧Dec.Small o∧n * Dec.pv o+rr * Dec.B ^ m+Dec.pv (p.take m)=Dec.pv p ∧
  (∀ j,j<m→nth o j=0)∧Own wr w.heap.size (.slice (some ⟨w.heap.size,0,none⟩) o.length o.length) o∧Ext w wr
def zda (a n:Nat)(w:World)(e:Ending)(w':World):Prop :=
 ∃ v,e=.returned (.tuple #[v,.int .u64 (a % n:Nat)])∧Own w' w.heap.size v (Dec.P (a / n))∧Ext w w'
theorem zdb {r x n:Nat}(hr:r<n)(hx:x<1000000000)(hn:n<1000000000):(r * 1000000000+x) / n<Dec.B∧r * 1000000000+x<1000000000000000000:=by
 unfold Dec.B;have h1:r * 1000000000+x<n * 1000000000:=by omega
 exact ⟨Nat.div_lt_of_lt_mul (by omega),by omega⟩
theorem zdc (vp:Value)(a n:Nat)(w:World)(hp:Sl w vp (zao (Dec.P a)))(hla:(Dec.P a).length≤100000)(h0:0<n)(hn:n<Dec.B) :
  Calls Tryz.prog 195 #[vp,.int .u64 n] w (zda a n w):=by
 obtain ⟨i0,hi,hz0,hz1,hz2⟩:=info_parts zba;obtain ⟨ap,cp,rfl,_,_,hp⟩:=hp.parts;have hsp:=Dec.small_P a;have hpa:=Dec.pv_P a;rw [zaq];generalize Dec.P a=p at *;have Hp:=hid hp;have Hsp:=hid hsp;have Hpa:=hid hpa;clear hp hsp hpa;unfold Dec.B at hn;go_enter Tryz.func195,Tryz.ntmps195
 go_wp2_with (at_make;refine wpList_make_full _ rfl _ _ 201 rfl w.heap.size 181 i0 (.int .u64 0) 1 Tryz.underlying201 hi hz0 hz1 _ _ _ _ p.length rfl rfl ?hL ?hC ?b2 ?b3 (Nat.le_refl _) ?_)
 case hL=>simp
 case hC=>simp
 case b2=>rw [hz2];omega
 case b3=>unfold maxLen;omega
 intro w1 hown hgrow;go_wp2_with fail
 go_loopw [7,8] (fun r i wr=>zcZ p n w r i wr) (fun _ i _=>(zal i+1).toNat)
 case atStart =>
  refine ⟨p.length,0,List.replicate p.length 0,by go_num,Nat.le_refl _,rfl,h0,List.length_replicate ..,Dec.small_zeros _,?_,?_,?_,(Ext.refl w).grown hgrow (by simp)⟩
  ·rw [Dec.pv_zeros,List.take_length];simp
  ·intro j _;unfold nth;rw [List.getD_eq_getElem?_getD,List.getElem?_replicate];split <;> rfl
  ·unfold Own;rw [List.length_replicate];have e:zao (List.replicate p.length 0)=(madeCells #[Value.int .u64 0] p.length).toList:=by
    rw [toList_madeCells_one];simp [zao]
   rw [e];exact hown
 case round =>
  obtain ⟨m,rr,o,rfl,hm,rfl,hrr,hlo,hso,hpv,hz,hown1,hext⟩:=hrel;clear hown hgrow;have Hlo:=hid hlo;have Hso:=hid hso;have Hpv:=hid hpv;have Hz:=hid hz;have Hext:=hid hext;rcases m with _ | k
  ·have hval:n * Dec.pv o+rr=a:=by
    have:=Hpv.out;rw [Nat.pow_zero,Nat.mul_one,List.take_zero,Hpa.out] at this;simpa [Dec.pv] using this
   have hq:Dec.pv o=a / n:=by
    rw [← hval,Nat.mul_add_div h0,Nat.div_eq_of_lt hrr];rfl
   have hr:rr=a % n:=by
    rw [← hval,Nat.mul_add_mod,Nat.mod_eq_of_lt hrr]
   rw [show o.length=p.length from hlo] at hown1;have hown3:Own wr w.heap.size (.slice (some ⟨w.heap.size,0,none⟩) p.length p.length) o:=hown1;have Hq:=hid hq;have Hr:=hid hr;have Hown3:=hid hown3;clear hlo hso hpv hz hext hown1 hq hr hval hown3;rw [show ((0:Nat):Int) - 1=-1 from rfl];go_wp2_with fail
   refine (za8 w.heap.size _ o wr Hown3.out Hso.out).mono ?_;rintro e w' ⟨⟨v,rfl,hv⟩,rfl⟩;have Hv:=hid hv;clear hv;go_wp2
   go_ret2
   exact ⟨v,by rw [← Hr.out];rfl,by rw [← Hq.out];exact Hv.out,Hext.out⟩
  ·have hk:k<p.length:=(by omega);have e1:((k+1:Nat):Int) - 1=(k:Int):=(by omega);rw [e1];obtain ⟨bp,op,rfl,hcp⟩:=Hp.out k _ (zat hk);have hcell:=Hext.out.cell hcp;have hxp:nth p k<Dec.B:=Dec.small_getD Hsp.out k;have hf:wr.frozen? ⟨w.heap.size,k,none⟩=false:=World.ownsRow.frozenAt hown1 _;have hset:=zbb hown1 k;have hcello:=zbc hown1 k (by omega);rw [hz k (by omega)] at hcello;have hstep:=Dec.small_step o p k n rr (rr * Dec.B+nth p k) (by omega) hk (hz k (by omega)) rfl _ hpv;unfold Dec.B at hxp;have hnum:=zdb hrr hxp hn;rw [show o.length=p.length from hlo] at hown1;have Hset:=hid hset;have Hstep:=hid hstep;have Hown1:=hid hown1;have Hnum:=hid hnum;have hb:=hnum.2;clear hlo hso hpv hz hext hown1 hset hstep hcp e1 hnum;generalize hX:nth p k=X at *;have HX:=hid hX;clear hX;have hnz:((n:Int) == 0)=false:=beq_eq_false_iff_ne.2 (by omega);have hn0:(0:Int)<(n:Int):=(by omega);go_wp2
   go_roundw
   case rel =>
    have e1:((rr:Int) * 1000000000+X) / n=(((rr * Dec.B+X) / n:Nat):Int):=(by unfold Dec.B;simp);have e2:((rr:Int) * 1000000000+X) % n=(((rr * Dec.B+X) % n:Nat):Int):=(by unfold Dec.B;simp);refine ⟨k,(rr * Dec.B+X) % n,o.set k ((rr * Dec.B+X) / n),by go_num,by omega,by rw [e2],Nat.mod_lt _ h0,by rw [List.length_set];exact Hlo.out,Dec.small_set Hso.out Hnum.out.1,?_,?_,?_,?_⟩
    ·exact Hstep.out
    ·intro j hj;rw [zcT (by omega)];exact Hz.out j (by omega)
    ·rw [e1,List.length_set];exact Hset.out _
    ·exact Hext.out.setCell (Nat.le_refl _) _
   case measure=>simp [zal]
def zdd (p q:List Nat)(w:World)(i:Value)(wr:World):Prop:=∃ m:Nat,i=.int .i64 ((m:Int) - 1)∧m≤p.length∧p.drop m=q.drop m∧Ext w wr
theorem zde (vp vq:Value)(a b:Nat)(w:World)(hp:Sl w vp (zao (Dec.P a)))(hq:Sl w vq (zao (Dec.P b)))(hla:(Dec.P a).length≤100000)(hlb:(Dec.P b).length≤100000) :
  Calls Tryz.prog 194 #[vp,vq] w fun e w'=>e=.returned (.int .i64 (zbj a b))∧Ext w w':=by
 obtain ⟨ap,cp,rfl,_,_,hp⟩:=hp.parts;obtain ⟨aq,cq,rfl,_,_,hq⟩:=hq.parts;rw [zaq,zaq];have hsp:=Dec.small_P a;have hsq:=Dec.small_P b;have hpa:=Dec.pv_P a;have hpb:=Dec.pv_P b;have hlt:(Dec.P a).length<(Dec.P b).length→a<b:=Dec.P_len_cmp;have hgt:(Dec.P b).length<(Dec.P a).length→b<a:=Dec.P_len_cmp;generalize Dec.P a=p at *;generalize Dec.P b=q at *;have Hp:=hid hp;have Hq:=hid hq;have Hsp:=hid hsp;have Hsq:=hid hsq;have Hpa:=hid hpa;have Hpb:=hid hpb;clear hp hq hsp hsq hpa hpb;rcases Nat.lt_trichotomy p.length q.length with h | h | h
 ·have hr:zbj a b=-1:=zbk (by have:=hlt h;omega);rw [hr];have ht:((p.length:Int) != (q.length:Int))=true:=by rw [bne_iff_ne];omega
  have hm:min 1 (max (-1) ((p.length:Int) - (q.length:Int)))=-1:=by omega
  clear hlt hgt hr;go_enter Tryz.func194,Tryz.ntmps194
  go_wp2
  go_ret
  exact ⟨zbi (by omega),Ext.refl _⟩
 ·have ht:((p.length:Int) != (q.length:Int))=false:=by rw [bne_eq_false_iff_eq];omega
  have Hl:=hid h;clear h hlt hgt;obtain ⟨r,hr⟩:∃ r,r=zbj a b:=⟨_,rfl⟩;rw [← hr];have Hr:=hid hr;clear hr;go_enter Tryz.func194,Tryz.ntmps194
  go_wp2_with fail
  go_loopw [5] (fun i wr=>zdd p q w i wr) (fun i _=>(zal i+1).toNat)
  case atStart=>exact ⟨p.length,rfl,Nat.le_refl _,by rw [List.drop_length,Hl.out,List.drop_length],Ext.refl _⟩
  case round =>
   obtain ⟨m,rfl,hm,hd,hext⟩:=hrel;have Hd:=hid hd;have Hext:=hid hext;clear hd hext;rcases m with _ | k
   ·have hf:r=0:=by
     rw [Hr.out];refine zbl ?_;have:=Hd.out;rw [List.drop_zero,List.drop_zero] at this;have h2:=Hpa.out;rw [this,Hpb.out] at h2;omega
    have Hf:=hid hf;clear hf;rw [show ((0:Nat):Int) - 1=-1 from rfl];go_wp2
    go_ret
    exact ⟨zbi Hf.out.symm,Hext.out⟩
   ·have e1:((k+1:Nat):Int) - 1=(k:Int):=(by omega);rw [e1];have hk:k<p.length:=(by omega);have hkq:k<q.length:=(by rw [← Hl.out];exact hk);obtain ⟨bp,op,rfl,hcp⟩:=Hp.out k _ (zat hk);obtain ⟨bq,oq,rfl,hcq⟩:=Hq.out k _ (zat hkq);have hc1:=Hext.out.cell hcp;have hc2:=Hext.out.cell hcq;have hxp:nth p k<Dec.B:=Dec.small_getD Hsp.out k;have hxq:nth q k<Dec.B:=Dec.small_getD Hsq.out k;unfold Dec.B at hxp hxq;have hk0:(0:Int)≤(k:Int):=(by omega);have hk1:(k:Int)<(p.length:Int):=(by omega);have hk2:(k:Int)<(q.length:Int):=(by omega);have hlt:nth p k<nth q k→r=-1:=fun h=>by
     rw [Hr.out];have:=Dec.pv_lt_of Hsp.out Hl.out hk Hd.out h;rw [Hpa.out,Hpb.out] at this;exact zbk (by omega)
    have hgt:nth q k<nth p k→r=1:=fun h=>by
     rw [Hr.out];have:=Dec.pv_lt_of Hsq.out Hl.out.symm hkq Hd.out.symm h;rw [Hpa.out,Hpb.out] at this;exact zbm (by omega)
    have heq:nth p k=nth q k→p.drop k=q.drop k:=fun h=>Dec.drop_cons_eq hk hkq h Hd.out;have Hlt:=hid hlt;have Hgt:=hid hgt;have Heq:=hid heq;clear hlt hgt heq e1 hcp hcq;generalize nth p k=X at *;generalize nth q k=Y at *;rcases Nat.lt_trichotomy X Y with h | h | h
    ·have hd1:decide ((X:Int)<(Y:Int))=true:=decide_eq_true (by omega);have hf:=Hlt.out h;have Hf:=hid hf;clear hf;go_wp2_with fail
     go_quiet (fail)
     go_wp2_with fail
     go_ret
     exact ⟨zbi Hf.out.symm,Hext.out.drewN _⟩
    ·have hf:=Heq.out h;have Hf:=hid hf;clear hf;subst h;have hd1:decide ((X:Int)<(X:Int))=false:=decide_eq_false (by omega);go_wp2_with fail
     go_quiet (fail)
     go_wp2_with fail
     go_quiet (fail)
     go_wp2_with fail
     go_roundw
     case rel=>exact ⟨k,by go_num,by omega,Hf.out,by first | exact (Hext.out.drewN _).drewN _ | exact Hext.out.drewN _⟩
     case measure=>simp [zal]
    ·have hd1:decide ((X:Int)<(Y:Int))=false:=decide_eq_false (by omega);have hd2:decide ((Y:Int)<(X:Int))=true:=decide_eq_true (by omega);have hf:=Hgt.out h;have Hf:=hid hf;clear hf;go_wp2_with fail
     go_quiet (fail)
     go_wp2_with fail
     go_quiet (fail)
     go_wp2_with fail
     go_ret
     exact ⟨zbi Hf.out.symm,by first | exact (Hext.out.drewN _).drewN _ | exact Hext.out.drewN _⟩
 ·have hr:zbj a b=1:=zbm (by have:=hgt h;omega);rw [hr];have ht:((p.length:Int) != (q.length:Int))=true:=by rw [bne_iff_ne];omega
  have hm:min 1 (max (-1) ((p.length:Int) - (q.length:Int)))=1:=by omega
  clear hlt hgt hr;go_enter Tryz.func194,Tryz.ntmps194
  go_wp2
  go_ret
  exact ⟨zbi (by omega),Ext.refl _⟩
end Go.Proofs.YtipkdebkdnbieaaGreatDoor
