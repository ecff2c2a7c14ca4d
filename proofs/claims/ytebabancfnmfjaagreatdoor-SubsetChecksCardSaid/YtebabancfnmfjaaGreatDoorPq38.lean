/- Walks: subset: what the functions with a query answer where its search ends with an error, or Check finds one. Walks: schismaref02's digits, Small, quick and Of at numerals that are not negative. Walk: law 38's choose, over any products and quotients of the reference. Walks: law 31's primes of a world. Walks: law 31's Make. What the laws of worlds begin with: a world in its box. -/
import Derived.Test.YtebabancfnmfjaaGreatDoorPq37
import Derived.Test.YtebabancfnmfjaaGreatDoorPq01
import Derived.BigQuiet
import Derived.Test.YtebabancfnmfjaaGreatDoorPq30
import Derived.Test.YtebabancfnmfjaaGreatDoorPq28
set_option maxRecDepth 100000
set_option maxHeartbeats 2000000
namespace Go.Proofs.YtebabancfnmfjaaGreatDoor
section
open Go.RowKit Go.Lib Go.Shelf
attribute [local go_sem] Oper.semAt_some
def zpJ (w:World)(v:Value)(ce:Int):Prop:=∀ W,Ext w W→Calls Tryz.prog 54 #[v] W fun e w'=>e=.returned (.tuple #[.slice none 0 0,.slice none 0 0,.int .i64 ce])∧Ext W w'
theorem zpH.s {w:World}{v:Value}{ce:Int}(h:zpH w v ce)(hv:QyS v):zpJ w v ce:=fun W hE=>zpI v ce W hv (h.ext hE)
theorem zpK (v:Value)(ce:Int)(w:World)(hv:QyS v)(hs:zpJ w v ce) :
  Calls Tryz.prog 17 #[v] w fun e w'=>e=.returned (.tuple #[.slice none 0 0,.int .i64 ce])∧Ext w w':=by
 obtain ⟨a1,n1,c1,a2,n2,c2,m,P,a3,n3,c3,b,rfl⟩:=hv;have hE0:Ext w (w.alloc (.cells #[.slice a1 n1 c1,.slice a2 n2 c2,.int .i64 m,.int .i64 P,.slice a3 n3 c3,.bool b] 59)):=(Ext.refl w).alloc _;have hb:=zno.new w (.slice a1 n1 c1) (.slice a2 n2 c2) m P (.slice a3 n3 c3) b;have hs0:=hs _ hE0;obtain ⟨q0,q1,q2,q3,q4,q5⟩:=hb.cs;have Hs0:=hid hs0;have HE0:=hid hE0;clear hs hs0 hE0 hb;go_enter Tryz.func17,Tryz.ntmps17
 go_wp2_with fail
 refine Hs0.out.mono ?_;rintro e w1 ⟨rfl,hx⟩;have HE1:=hid (HE0.out.trans hx);clear hx q0 q1 q2 q3 q4 q5;go_wp2_with fail
 go_ret2
 exact ⟨rfl,HE1.out⟩
theorem zpL (v:Value)(ce:Int)(w:World)(hv:QyS v)(hs:zpJ w v ce) :
  Calls Tryz.prog 26 #[v] w fun e w'=>e=.returned (.tuple #[.slice none 0 0,.int .i64 ce])∧Ext w w':=by
 obtain ⟨a1,n1,c1,a2,n2,c2,m,P,a3,n3,c3,b,rfl⟩:=hv;have hE0:Ext w (w.alloc (.cells #[.slice a1 n1 c1,.slice a2 n2 c2,.int .i64 m,.int .i64 P,.slice a3 n3 c3,.bool b] 59)):=(Ext.refl w).alloc _;have hb:=zno.new w (.slice a1 n1 c1) (.slice a2 n2 c2) m P (.slice a3 n3 c3) b;have hs0:=hs _ hE0;obtain ⟨q0,q1,q2,q3,q4,q5⟩:=hb.cs;have Hs0:=hid hs0;have HE0:=hid hE0;clear hs hs0 hE0 hb;go_enter Tryz.func26,Tryz.ntmps26
 go_wp2_with fail
 refine Hs0.out.mono ?_;rintro e w1 ⟨rfl,hx⟩;have HE1:=hid (HE0.out.trans hx);clear hx q0 q1 q2 q3 q4 q5;go_wp2_with fail
 go_ret2
 exact ⟨rfl,HE1.out⟩
theorem zpM (v:Value)(ce:Int)(w:World)(hv:QyS v)(hs:zpJ w v ce) :
  Calls Tryz.prog 24 #[v] w fun e w'=>e=.returned (.tuple #[.int .i64 0,.int .i64 ce])∧Ext w w':=by
 obtain ⟨a1,n1,c1,a2,n2,c2,m,P,a3,n3,c3,b,rfl⟩:=hv;have hE0:Ext w (w.alloc (.cells #[.slice a1 n1 c1,.slice a2 n2 c2,.int .i64 m,.int .i64 P,.slice a3 n3 c3,.bool b] 59)):=(Ext.refl w).alloc _;have hb:=zno.new w (.slice a1 n1 c1) (.slice a2 n2 c2) m P (.slice a3 n3 c3) b;have hs0:=hs _ hE0;obtain ⟨q0,q1,q2,q3,q4,q5⟩:=hb.cs;have Hs0:=hid hs0;have HE0:=hid hE0;clear hs hs0 hE0 hb;go_enter Tryz.func24,Tryz.ntmps24
 go_wp2_with fail
 refine Hs0.out.mono ?_;rintro e w1 ⟨rfl,hx⟩;have HE1:=hid (HE0.out.trans hx);clear hx q0 q1 q2 q3 q4 q5;go_wp2_with fail
 go_ret2
 exact ⟨rfl,HE1.out⟩
theorem zpN (v vl:Value)(ce:Int)(w:World)(hv:QyS v)(hs:zpJ w v ce)(hl:∃ al L cl,vl=.slice al L cl)(hce:ce ≠ 0) :
  Calls Tryz.prog 25 #[v,vl] w fun e w'=>e=.returned (.tuple #[.slice none 0 0,.bool false,.int .i64 ce])∧Ext w w':=by
 obtain ⟨al,L,cl,rfl⟩:=hl;obtain ⟨a1,n1,c1,a2,n2,c2,m,P,a3,n3,c3,b,rfl⟩:=hv;have hE0:Ext w (w.alloc (.cells #[.slice a1 n1 c1,.slice a2 n2 c2,.int .i64 m,.int .i64 P,.slice a3 n3 c3,.bool b] 59)):=(Ext.refl w).alloc _;have hb:=zno.new w (.slice a1 n1 c1) (.slice a2 n2 c2) m P (.slice a3 n3 c3) b;have hs0:=hs _ hE0;obtain ⟨q0,q1,q2,q3,q4,q5⟩:=hb.cs;have hc1:(ce == 0)=false:=by simpa using hce
 have hc2:(ce != 0)=true:=by simpa using hce
 have Hs0:=hid hs0;have HE0:=hid hE0;clear hs hs0 hE0 hb hce;go_enter Tryz.func25,Tryz.ntmps25
 go_wp2_with fail
 refine Hs0.out.mono ?_;rintro e w1 ⟨rfl,hx⟩;have HE1:=hid (HE0.out.trans hx);clear hx q0 q1 q2 q3 q4 q5;go_wp2_with fail
 go_ret3
 exact ⟨rfl,HE1.out⟩
theorem zpO (v:Value)(ce:Int)(w:World)(hv:QyS v)(hq:zpH w v ce) :
  Calls Tryz.prog 21 #[v] w fun e w'=>e=.returned (.tuple #[.string ⟨#[]⟩,.int .i64 ce])∧Ext w w':=by
 obtain ⟨a1,n1,c1,a2,n2,c2,m,P,a3,n3,c3,b,rfl⟩:=hv;have hE0:Ext w (w.alloc (.cells #[.slice a1 n1 c1,.slice a2 n2 c2,.int .i64 m,.int .i64 P,.slice a3 n3 c3,.bool b] 59)):=(Ext.refl w).alloc _;have hb:=zno.new w (.slice a1 n1 c1) (.slice a2 n2 c2) m P (.slice a3 n3 c3) b;have hs0:=hq.2 _ hE0;obtain ⟨q0,q1,q2,q3,q4,q5⟩:=hb.cs;have hc1:(ce == 0)=false:=by simpa using hq.1
 have hc2:(ce != 0)=true:=by simpa using hq.1
 have Hs0:=hid hs0;have HE0:=hid hE0;clear hq hs0 hE0 hb;go_enter Tryz.func21,Tryz.ntmps21
 go_wp2_with fail
 refine Hs0.out.mono ?_;rintro e w1 ⟨rfl,hx⟩;have HE1:=hid (HE0.out.trans hx);clear hx q0 q1 q2 q3 q4 q5;go_wp2_with fail
 go_ret2
 exact ⟨rfl,HE1.out⟩
theorem zpP (v vl:Value)(ce:Int)(w:World)(hv:QyS v)(hq:zpH w v ce)(hl:∃ al L cl,vl=.slice al L cl) :
  Calls Tryz.prog 31 #[v,vl] w fun e w'=>e=.returned (.tuple #[.bool false,.int .i64 ce])∧Ext w w':=by
 obtain ⟨al,L,cl,rfl⟩:=hl;obtain ⟨a1,n1,c1,a2,n2,c2,m,P,a3,n3,c3,b,rfl⟩:=hv;have hE0:Ext w ((w.alloc (.cells #[.slice a1 n1 c1,.slice a2 n2 c2,.int .i64 m,.int .i64 P,.slice a3 n3 c3,.bool b] 59)).alloc (.cells #[.slice al L cl] 24)):=((Ext.refl w).alloc _).alloc _;have hb:=(zno.new w (.slice a1 n1 c1) (.slice a2 n2 c2) m P (.slice a3 n3 c3) b).ext ((Ext.refl _).alloc (.cells #[.slice al L cl] 24));have hs0:=hq.2 _ hE0;obtain ⟨q0,q1,q2,q3,q4,q5⟩:=hb.cs;have hc1:(ce == 0)=false:=by simpa using hq.1
 have hc2:(ce != 0)=true:=by simpa using hq.1
 have Hs0:=hid hs0;have HE0:=hid hE0;clear hq hs0 hE0 hb;go_enter Tryz.func31,Tryz.ntmps31
 go_wp2_with fail
 refine Hs0.out.mono ?_;rintro e w1 ⟨rfl,hx⟩;have HE1:=hid (HE0.out.trans hx);clear hx q0 q1 q2 q3 q4 q5;go_wp2_with fail
 go_ret2
 exact ⟨rfl,HE1.out⟩
theorem zpQ {n i:Nat}(h:i<(D n).size):(D n)[i]=(decDigits n)[i]'(by rw [decDigits_length,← zaz];exact h):=rfl
theorem zpR {n i:Nat}(h:i<(D n).size):48≤((D n)[i]).toNat∧((D n)[i]).toNat≤57:=by
 rw [zpQ h];exact Dec.dig_dec n _ (List.getElem_mem _)
theorem zpS (n:Nat)(w:World)(hn:nDigits n≤1000) :
  Calls Tryz.prog 65 #[.string (D n)] w fun e w'=>e=.returned (.string (D n))∧w=w':=by
 have hs:=zaz n;have hp:=zbo n;have h0:=zpR hp;go_enter Tryz.func65,Tryz.ntmps65
 go_wp2_with fail
 go_ret
 exact ⟨rfl,rfl⟩
theorem zpT (n:Nat)(w:World)(hn:n<1000000000000000000) :
  Calls Tryz.prog 189 #[.string (D n)] w fun e w'=>e=.returned (.tuple #[.int .i64 (n:Int),.bool true])∧Ext w w':=by
 have hs:=zaz n;have hp:=zbo n;have h0:=zpR hp;have h18:=Dec.nDigits_le (n:=n) (k:=18) (by decide) hn;have hat:∀ i (h:i<(D n).size),(48≤((D n)[i]).toNat∧((D n)[i]).toNat≤57)∧Dec.val 0 ((decDigits n).take (i+1))=10 * Dec.val 0 ((decDigits n).take i)+(((D n)[i]).toNat - 48):=fun i h=>by
  refine ⟨zpR h,?_⟩;have hl:i<(decDigits n).length:=by rw [decDigits_length,← hs];exact h
  rw [List.take_succ_eq_append_getElem hl,Dec.val_append,Dec.val_cons,Dec.val_nil,zpQ h];rfl
 have hle:∀ i,i≤(D n).size→Dec.val 0 ((decDigits n).take i)≤n:=fun i h=>by
  have e:=Dec.val_append ((decDigits n).take i) ((decDigits n).drop i) 0;rw [List.take_append_drop,Dec.val_dec,Dec.val_acc] at e;have h10:0<10 ^ ((decDigits n).drop i).length:=Nat.pos_of_ne_zero (by simp);have:=Nat.le_mul_of_pos_right (Dec.val 0 ((decDigits n).take i)) h10;omega
 have hfull:Dec.val 0 ((decDigits n).take (D n).size)=n:=by
  rw [hs,← decDigits_length,List.take_length,Dec.val_dec]
 generalize hS:D n=S at *;have Hat:=hid hat;have Hle:=hid hle;have Hfull:=hid hfull;clear hat hle hfull hS;have hsz:S.size≤18:=by omega
 clear hs h18;go_enter Tryz.func189,Tryz.ntmps189
 go_wp2_with fail
 go_loopw [5,7,8] (fun v5 v7 _ wr=>∃ i:Nat,v5=.int .i64 i∧i≤S.size∧v7=.int .i64 (-(Dec.val 0 ((decDigits n).take i):Nat))∧Ext w wr) (fun v5 _ _ _=>S.size - (zal v5).toNat)
 case atStart=>exact ⟨0,rfl,Nat.zero_le _,rfl,Ext.refl _⟩
 case round =>
  obtain ⟨i,rfl,hi,rfl,hE⟩:=hrel;have hv:=Hle.out i hi;have HE:=hid hE;clear hE;by_cases hlt:i<S.size
  ·obtain ⟨hd,hnx⟩:=Hat.out i hlt;have hv2:=Hle.out (i+1) hlt;generalize Dec.val 0 ((decDigits n).take i)=V at *;have ht:¬ (-(V:Int)<(-9223372036854775808+((S[i].toNat:Int) - 48)).tdiv 10):=by
    rw [show (-9223372036854775808+((S[i].toNat:Int) - 48))=-(9223372036854775808 - ((S[i].toNat:Int) - 48)) by omega,Int.neg_tdiv,Int.tdiv_eq_ediv_of_nonneg (by omega)];omega
   have hi0:(0:Int)≤(i:Int):=(by omega);have hi1:(i:Int)<(S.size:Int):=(by omega);go_wp2_with fail
   go_roundw
   case rel =>
    refine ⟨_,_,_,_,⟨i+1,rfl,hlt,rfl,HE.out⟩,rfl,rfl,?_,?_⟩
    ·go_num
    ·rw [hnx];congr 1;omega
   case measure=>simp [zal];omega
  ·obtain rfl:i=S.size:=by omega
   have hf:=Hfull.out;rw [hf] at hv ⊢;go_wp2_with fail
   go_ret2
   refine ⟨?_,HE.out⟩;congr 4
theorem zpU (n:Nat)(w:World)(hn:n<1000000000000000000) :
  Calls Tryz.prog 123 #[.string (D n)] w fun e w'=>e=.returned (.tuple #[.int .i64 (n:Int),.bool true])∧Ext w w':=by
 have h18:=Dec.nDigits_le (n:=n) (k:=18) (by decide) hn;have hdg:=fun W=>zpS n W (by omega);have hsm:=fun W=>zpT n W hn;have hs:(D n).size≤18:=by rw [zaz];exact h18
 generalize D n=S at *;have Hdg:=hid hdg;have Hsm:=hid hsm;clear hdg hsm;go_enter Tryz.func123,Tryz.ntmps123
 go_wp2_with fail
 refine (Hdg.out _).mono ?_;rintro e w1 ⟨rfl,rfl⟩;go_wp2_with fail
 refine (Hsm.out _).mono ?_;rintro e w2 ⟨rfl,hx2⟩;go_wp2_with fail
 go_ret2
 exact ⟨rfl,hx2⟩
theorem zpV (z:Int)(w:World)(he:Env w)(h0:-9223372036854775808≤z)(h1:z≤9223372036854775807) :
  Calls Tryz.prog 27 #[.int .i64 z] w fun e w'=>e=.returned (.string (I z))∧Ext w w':=by
 have hi:=zaE z h0 h1 w he;have Hi:=hid hi;clear hi;go_enter Tryz.func27,Tryz.ntmps27
 go_wp2_with fail
 refine Hi.out.mono ?_;rintro e w1 ⟨rfl,hx1⟩;go_wp2_with fail
 go_ret
 exact ⟨rfl,hx1⟩
theorem zpW (a b:Nat)(w:World)(he:Env w)(h:nDigits a+nDigits b≤18) :
  Calls Tryz.prog 63 #[.string (D a),.string (D b)] w fun e w'=>e=.returned (.string (D (a * b)))∧Ext w w':=by
 have ha:=lt_pow_nDigits a;have hb:=lt_pow_nDigits b;have pa:=nDigits_pos a;have pb:=nDigits_pos b;have hab:a * b<1000000000000000000:=by
  have h1:a * b<10 ^ nDigits a * 10 ^ nDigits b:=Nat.mul_lt_mul'' ha hb;rw [← Nat.pow_add] at h1;have h2:=Nat.pow_le_pow_right (n:=10) (by decide) h;rw [show (10:Nat) ^ 18=1000000000000000000 from rfl] at h2;omega
 have ha2:a<1000000000000000000:=by
  have h2:=Nat.pow_le_pow_right (n:=10) (by decide) (show nDigits a≤18 by omega);rw [show (10:Nat) ^ 18=1000000000000000000 from rfl] at h2;omega
 have hb2:b<1000000000000000000:=by
  have h2:=Nat.pow_le_pow_right (n:=10) (by decide) (show nDigits b≤18 by omega);rw [show (10:Nat) ^ 18=1000000000000000000 from rfl] at h2;omega
 have hda:=fun W=>zpS a W (by omega);have hdb:=fun W=>zpS b W (by omega);have hqa:=fun W=>zpU a W ha2;have hqb:=fun W=>zpU b W hb2;have hof:=fun W (hE:Ext w W)=>zpV ((a * b:Nat):Int) W (he.ext hE) (by omega) (by omega);rw [za2,Int.natCast_mul] at hof;have hsz:(D a).size+(D b).size≤18:=by rw [zaz,zaz];exact h
 have hm0:(0:Int)≤(a:Int) * (b:Int)∧(a:Int) * (b:Int)<1000000000000000000:=by rw [← Int.natCast_mul];omega
 have hwr:IntKind.i64.wrap ((a:Int) * (b:Int))=(a:Int) * (b:Int):=IntWalk.i64_in _ (by omega);generalize D a=SA at *;generalize D b=SB at *;generalize D (a * b)=SC at *;have Hda:=hid hda;have Hdb:=hid hdb;have Hqa:=hid hqa;have Hqb:=hid hqb;have Hof:=hid hof;clear hda hdb hqa hqb hof ha hb ha2 hb2 hab pa pb h;go_enter Tryz.func63,Tryz.ntmps63
 go_wp2_with fail
 refine (Hda.out _).mono ?_;rintro e w1 ⟨rfl,rfl⟩;go_wp2_with fail
 refine (Hdb.out _).mono ?_;rintro e w1 ⟨rfl,rfl⟩;go_wp2_with fail
 refine (Hqa.out _).mono ?_;rintro e w2 ⟨rfl,hx2⟩;have Hx2:=hid hx2;clear hx2;go_wp2_with fail
 refine (Hqb.out _).mono ?_;rintro e w3 ⟨rfl,hx3⟩;have Hx3:=hid (Hx2.out.trans hx3);clear hx3;go_wp2_with fail
 refine (Hof.out _ Hx3.out).mono ?_;rintro e w4 ⟨rfl,hx4⟩;go_wp2_with fail
 go_ret
 exact ⟨rfl,Hx3.out.trans hx4⟩
theorem zpX (a b:Nat)(w:World)(he:Env w)(ha:a<1000000000000000000)(hb:b<1000000000000000000)(hb0:0<b) :
  Calls Tryz.prog 62 #[.string (D a),.string (D b)] w fun e w'=>e=.returned (.tuple #[.string (D (a / b)),.string (D (a % b))])∧Ext w w':=by
 have hqa:=fun W=>zpU a W ha;have hqb:=fun W=>zpU b W hb;obtain ⟨q,hq⟩:∃ q,q=a / b:=⟨_,rfl⟩;obtain ⟨r,hr⟩:∃ r,r=a % b:=⟨_,rfl⟩;rw [← hq,← hr];have hd:q≤a:=by rw [hq];exact Nat.div_le_self _ _
 have hm:r<b:=by rw [hr];exact Nat.mod_lt _ hb0
 have hof1:=fun W (hE:Ext w W)=>zpV (q:Int) W (he.ext hE) (by omega) (by omega);have hof2:=fun W (hE:Ext w W)=>zpV (r:Int) W (he.ext hE) (by omega) (by omega);rw [za2] at hof1 hof2;have e1:(a:Int).tdiv (b:Int)=(q:Int):=by rw [Int.tdiv_eq_ediv_of_nonneg (by omega),hq];exact (Int.natCast_ediv a b).symm
 have e2:(a:Int).tmod (b:Int)=(r:Int):=by rw [Int.tmod_eq_emod_of_nonneg (by omega),hr];exact (Int.natCast_emod a b).symm
 clear hq hr;have hbi:¬ (b:Int)=0:=by omega
 have hbn:¬ b=0:=by omega
 generalize D a=SA at *;generalize D b=SB at *;generalize D q=SC at *;generalize D r=SR at *;have Hqa:=hid hqa;have Hqb:=hid hqb;have Hof1:=hid hof1;have Hof2:=hid hof2;clear hqa hqb hof1 hof2;have hwq:IntKind.i64.wrap (q:Int)=(q:Int):=IntWalk.i64_in _ (by omega);have hwr:IntKind.i64.wrap (r:Int)=(r:Int):=IntWalk.i64_in _ (by omega);have hr0:¬ (r:Int)<0:=by omega
 have hb1:¬ (b:Int)<0:=by omega
 go_enter Tryz.func62,Tryz.ntmps62
 go_wp2_with fail
 refine (Hqa.out _).mono ?_;rintro e w2 ⟨rfl,hx2⟩;have Hx2:=hid hx2;clear hx2;go_wp2_with fail
 refine (Hqb.out _).mono ?_;rintro e w3 ⟨rfl,hx3⟩;have Hx3:=hid (Hx2.out.trans hx3);clear hx3;go_wp2_with fail
 go_quiet (fail)
 rcases Nat.eq_zero_or_pos r with h0 | h0
 case' inl =>
  have h2:((r:Int) == 0)=true:=by rw [h0];rfl
  have h3:((r:Int) != 0)=false:=by rw [h0];rfl
  clear h0;go_wp2_with fail
 case' inr =>
  have h2:((r:Int) == 0)=false:=by simpa using (show ¬ (r:Int)=0 by omega)
  have h3:((r:Int) != 0)=true:=by simpa using (show ¬ (r:Int)=0 by omega)
  clear h0;go_wp2_with fail
 all_goals
  clear h2 h3;refine (Hof1.out _ (Hx3.out.drewN _)).mono ?_;rintro e w4 ⟨rfl,hx4⟩;have Hx4:=hid ((Hx3.out.drewN _).trans hx4);clear hx4;go_wp2_with fail
  refine (Hof2.out _ Hx4.out).mono ?_;rintro e w5 ⟨rfl,hx5⟩;have Hx5:=hid (Hx4.out.trans hx5);clear hx5;go_wp2_with fail
  go_ret2
  exact ⟨rfl,Hx5.out⟩
theorem zpY (n:Nat)(k:Int)(w:World)(he:Env w)(hn:n≤60)(hk:k≤(n:Int))
  (hmu:∀ (i:Nat) W,Ext w W→(i:Int)<k→Calls Tryz.prog 63 #[.string (I (zn2 (n:Int) i)),.string (I ((n:Int) - (i:Int)))] W fun e w'=>e=.returned (.string (I (zn2 (n:Int) i * ((n:Int) - (i:Int)))))∧Ext W w')
  (hdm:∀ (i:Nat) W,Ext w W→(i:Int)<k→Calls Tryz.prog 62 #[.string (I (zn2 (n:Int) i * ((n:Int) - (i:Int)))),.string (I ((i:Int)+1))] W fun e w'=>∃ r,e=.returned (.tuple #[.string (I (zn2 (n:Int) (i+1))),.string r])∧Ext W w') :
  Calls Tryz.prog 22 #[.int .i64 (n:Int),.int .i64 k] w fun e w'=>e=.returned (.string (I (if k<0 then 0 else zn2 (n:Int) k.toNat)))∧Ext w w':=by
 have hof:=fun (z:Int)(h0:-1000≤z)(h1:z≤1000) W (hE:Ext w W)=>zpV z W (he.ext hE) (by omega) (by omega);obtain ⟨Z,hZ⟩:∃ Z,Z=if k<0 then 0 else zn2 (n:Int) k.toNat:=⟨_,rfl⟩;rw [← hZ];have Hof:=hid hof;have Hmu:=hid hmu;have Hdm:=hid hdm;have HZ:=hid hZ;clear hof hmu hdm hZ he;go_enter Tryz.func22,Tryz.ntmps22
 by_cases hneg:k<0
 ·have HZ0:=hid (show Z=0 by rw [HZ.out,if_pos hneg]);go_wp2_with fail
  go_ret
  exact ⟨by rw [HZ0.out,zn6] <;> rfl,Ext.refl _⟩
 ·obtain ⟨K,rfl⟩:∃ K:Nat,k=(K:Int):=⟨k.toNat,by omega⟩;have HZ2:=hid (show Z=zn2 (n:Int) K by rw [HZ.out,if_neg hneg,Int.toNat_natCast]);have hk0:¬ (K:Int)<0:=by omega
  have hkn:¬ (n:Int)<(K:Int):=by omega
  have H01:=hid (show zn2 (n:Int) 0=1 from rfl);clear HZ hneg;go_wp2_with fail
  go_loopw [5,6] (fun v5 v6 wr=>∃ i:Nat,v6=.int .i64 (i:Int)∧i≤K∧v5=.string (I (zn2 (n:Int) i))∧Hid (Ext w wr)) (fun _ v6 _=>K - (zal v6).toNat)
  case atStart=>exact ⟨0,rfl,Nat.zero_le _,by rw [H01.out,zn7],hid (Ext.refl _)⟩
  case round =>
   obtain ⟨i,rfl,hi,rfl,HE⟩:=hrel;by_cases hik:i<K
   ·have hw3:IntKind.i64.wrap ((n:Int) - (i:Int))=(n:Int) - (i:Int):=IntWalk.i64_in _ (by omega);have ho1:=Hof.out ((n:Int) - (i:Int)) (by omega) (by omega) wr HE.out;have ho2:=Hof.out ((i:Int)+1) (by omega) (by omega);have hm1:=fun W hE=>Hmu.out i W hE (by omega);have hd1:=fun W hE=>Hdm.out i W hE (by omega);generalize hz2:zn2 (n:Int) (i+1)=z2 at *;have Hz2:=hid hz2;clear hz2;generalize zn2 (n:Int) i * ((n:Int) - (i:Int))=z1 at *;generalize zn2 (n:Int) i=z0 at *;have Ho1:=hid ho1;have Ho2:=hid ho2;have Hm1:=hid hm1;have Hd1:=hid hd1;have hi0:(0:Int)≤(i:Int):=(by omega);have hi1:(i:Int)<(K:Int):=(by omega);clear ho1 ho2 hm1 hd1;go_wp2_with fail
    refine Ho1.out.mono ?_;rintro e w1 ⟨rfl,hx1⟩;have HE1:=hid (HE.out.trans hx1);clear hx1;go_wp2_with fail
    refine (Hm1.out _ HE1.out).mono ?_;rintro e w2 ⟨rfl,hx2⟩;have HE2:=hid (HE1.out.trans hx2);clear hx2;go_wp2_with fail
    refine (Ho2.out _ HE2.out).mono ?_;rintro e w3 ⟨rfl,hx3⟩;have HE3:=hid (HE2.out.trans hx3);clear hx3;go_wp2_with fail
    refine (Hd1.out _ HE3.out).mono ?_;rintro e w4 ⟨r,rfl,hx4⟩;have HE4:=hid (HE3.out.trans hx4);clear hx4;go_wp2_with fail
    go_roundw
    case rel=>exact ⟨i+1,by go_num,by omega,by rw [Hz2.out],HE4⟩
    case measure=>simp [zal];omega
   ·obtain rfl:i=K:=by omega
    have hi1:¬ (i:Int)<(i:Int):=(by omega);go_wp2_with fail
    go_ret
    exact ⟨by rw [HZ2.out] <;> rfl,HE.out⟩
theorem zpZ (n:Nat)(k:Int)(w:World)(he:Env w)(hn:n≤12)(hk:k≤(n:Int)) :
  Calls Tryz.prog 22 #[.int .i64 (n:Int),.int .i64 k] w fun e w'=>e=.returned (.string (I (if k<0 then 0 else zn2 (n:Int) k.toNat)))∧Ext w w':=by
 have hb:∀ i:Nat,(i:Int)<k→∃ x y:Nat,zn2 (n:Int) i=(x:Int)∧x≤5000∧(n:Int) - (i:Int)=(y:Int)∧y≤12:=fun i hi=>by
  have h1:=zn4 n (by omega) i (by omega);have h2:=zn5 n (by omega) i (by omega);exact ⟨(zn2 (n:Int) i).toNat,n - i,by omega,by omega,by omega,by omega⟩
 refine zpY n k w he (by omega) hk (fun i W hE hi=>?_) (fun i W hE hi=>?_)
 ·obtain ⟨x,y,h1,h2,h3,h4⟩:=hb i hi;rw [h1,h3,za2,za2,← Int.natCast_mul,za2];exact zpW x y W (he.ext hE) (by
   have:=Dec.nDigits_le (n:=x) (k:=4) (by decide) (by omega);have:=Dec.nDigits_le (n:=y) (k:=2) (by decide) (by omega);omega)
 ·obtain ⟨x,y,h1,h2,h3,h4⟩:=hb i hi;have e:zn2 (n:Int) (i+1)=((x * y / (i+1):Nat):Int):=by
   rw [zn2,h1,h3,← Int.natCast_mul,show (i:Int)+1=((i+1:Nat):Int) by omega];exact (Int.natCast_ediv _ _).symm
  rw [e,h1,h3,← Int.natCast_mul,za2,za2,show (i:Int)+1=((i+1:Nat):Int) by omega,za2];have hxy:x * y≤5000 * 12:=Nat.mul_le_mul h2 h4;exact (zpX (x * y) (i+1) W (he.ext hE) (by omega) (by omega) (by omega)).mono fun e w' h=>⟨_,h.1,h.2⟩
def Wl.cs (a:Wl):Array Value:=#[.bool a.three,.int .u8 a.kind,.int .u8 a.num,.int .i8 (a.xs 0).a,.int .i8 (a.xs 0).b,.int .i8 (a.xs 0).c,.int .i8 (a.xs 1).a,.int .i8 (a.xs 1).b,.int .i8 (a.xs 1).c,.int .i8 (a.xs 2).a,.int .i8 (a.xs 2).b,.int .i8 (a.xs 2).c,.int .i8 (a.xs 3).a,.int .i8 (a.xs 3).b,.int .i8 (a.xs 3).c,.int .i8 (a.xs 4).a,.int .i8 (a.xs 4).b,.int .i8 (a.xs 4).c,.int .i8 (a.xs 5).a,.int .i8 (a.xs 5).b,.int .i8 (a.xs 5).c,.int .i8 (a.xs 6).a,.int .i8 (a.xs 6).b,.int .i8 (a.xs 6).c,.int .i8 (a.xs 7).a,.int .i8 (a.xs 7).b,.int .i8 (a.xs 7).c]
def Wl.v (a:Wl):Value:=.agg a.cs
theorem zqa {w:World}{B:Nat}(T:TypeId)(xs:Array Value)(hB:B≤w.heap.size)(hm:xs.size≤maxLen):(w.alloc (.cells xs T)).ownsRow B T 1 (.slice (some ⟨w.heap.size,0,none⟩) xs.size xs.size) xs.size xs.toList :=
 ⟨by simp,.inr ⟨w.heap.size,xs.size,xs,rfl,hB,World.alloc_heap_new w _,Nat.le_refl _,hm,by simp,by rw [Nat.mul_one,← Array.length_toList,List.take_length]⟩⟩
theorem zqb (a:Wl)(w:World) :
  Calls Tryz.prog 69 #[a.v] w fun e w'=>∃ u,e=.returned u∧w'.ownsRow w.heap.size 3 1 u a.p.length (zap a.p)∧Ext w w':=by
 obtain ⟨W1,hW1⟩:∃ W1,W1=w.alloc (.cells a.cs 83):=⟨_,rfl⟩;have hE:Ext w W1:=by rw [hW1];exact (Ext.refl w).alloc _
 have hc:W1.cell? ⟨w.heap.size,0,none⟩=some (.bool a.three):=by
  unfold World.cell?;rw [hW1];dsimp only;rw [World.alloc_heap_new w _];rfl
 have HE:=hid hE;unfold Wl.v;unfold Wl.p;clear hE
 cases h3:a.three
 ·rw [h3] at hc;unfold Wl.cs at hW1 ⊢;rw [h3] at hW1 ⊢;clear h3;go_enter Tryz.func69,Tryz.ntmps69
  go_wp2_with fail
  go_ret
  rw [← hW1];have hon:=zqa (w:=W1) (B:=w.heap.size) 3 #[.int .i64 2,.int .i64 3] HE.out.size (by unfold maxLen;simp);have hsz:W1.heap.size=w.heap.size+1:=by rw [hW1,World.size_alloc]
  rw [hsz] at hon;exact ⟨_,rfl,hon,HE.out.alloc _⟩
 ·rw [h3] at hc;unfold Wl.cs at hW1 ⊢;rw [h3] at hW1 ⊢;clear h3;go_enter Tryz.func69,Tryz.ntmps69
  go_wp2_with fail
  go_ret
  rw [← hW1];have hon:=zqa (w:=W1) (B:=w.heap.size) 3 #[.int .i64 2,.int .i64 3,.int .i64 5] HE.out.size (by unfold maxLen;simp);have hsz:W1.heap.size=w.heap.size+1:=by rw [hW1,World.size_alloc]
  rw [hsz] at hon;exact ⟨_,rfl,hon,HE.out.alloc _⟩
theorem zqc {z:Int}(h0:-1000000≤z)(h1:z≤1000000):IntKind.i64.wrap z=z :=
 IntWalk.i64_in _ (by omega)
theorem zqd {n:Nat}(h0:0<n)(h9:n≤9):Sn (mkRat 1 n):=by
 unfold Sn;obtain rfl | rfl | rfl | rfl | rfl | rfl | rfl | rfl | rfl:n=1∨n=2∨n=3∨n=4∨n=5∨n=6∨n=7∨n=8∨n=9:=by omega
 all_goals decide +kernel
theorem zqe (k:Nat):∀ q∈ov k,Sn q:=by
 intro q hq;unfold ov at hq;rcases List.mem_cons.1 hq with e | e
 ·rw [e];unfold Sn;decide +kernel
 ·rw [List.eq_of_mem_replicate e];unfold Sn;decide +kernel
theorem zqf (x:I3)(i:Nat):Sn (zll x i):=by
 have h:=zlo (x.at i);unfold zll;generalize (x.at i).tmod 9=z at *;have key:∀ j:Fin 17,Sn (mkRat ((j.val:Int) - 8) 1)∧Sn (mkRat ((j.val:Int) - 8) 2):=by unfold Sn;decide +kernel
 have h2:=key ⟨(z+8).toNat,by omega⟩;dsimp only at h2;rw [show (((z+8).toNat:Nat):Int) - 8=z by omega] at h2;unfold dnm;split
 ·exact h2.2
 ·exact h2.1
theorem zqg (n:Nat)(x:I3):∀ q∈szW n x,Sn q:=by
 intro q hq;unfold szW at hq;obtain ⟨i,_,rfl⟩:=List.mem_map.1 hq;exact zqf x i
theorem zqh (k n:Nat)(h0:0<n)(h9:n≤9):∀ q∈zex (ov k) (mkRat 1 n),Sn q:=by
 intro q hq;unfold zex ov at hq;rw [List.map_cons,List.map_replicate] at hq;rcases List.mem_cons.1 hq with e | e
 ·rw [e,Rat.one_mul];exact zqd h0 h9
 ·rw [List.eq_of_mem_replicate e,Rat.zero_mul];unfold Sn;decide +kernel
theorem zqi {W:World}{b B:Nat}{u v x y vp vn:Value}{p:List Int}{out:List Qw}(hb:zjl 28 W b u v)(hp:W.ownsRow B 3 1 vp p.length (zap p))(hn:W.ownsRow B 41 1 vn out.length (qwc out))(hr:∀ r∈out,zfw W B r.u r.x):ScV ((W.setCell ⟨b,0,none⟩ x).setCell ⟨b,1,none⟩ y) (.agg #[vp,vn]) p out:=by
 refine ⟨vp,vn,rfl,?_,?_,fun r h=>?_⟩
 ·have:=zga (zjl.put0 hb x) (zga hb hp (by decide) 0 x) (by decide) 1 y;rw [← zar] at this;exact zan this
 ·have:=zga (zjl.put0 hb x) (zga hb hn (by decide) 0 x) (by decide) 1 y;rw [← zfz] at this;exact zan this
 ·exact zfw.rd (zga (zjl.put0 hb x) (zga hb (hr r h) (by decide) 0 x) (by decide) 1 y)
theorem zqj {W:World}{b B B':Nat}{u v x y vp vn vb:Value}{p:List Int}{o:List Rat}{out:List Qw}(hb:zjl 28 W b u v)(hp:W.ownsRow B 3 1 vp p.length (zap p))(hn:W.ownsRow B 41 1 vn out.length (qwc out))(hB:B≤B')(ho:zfw W B vb o)(hr:∀ r∈out,(r.u=vb∧r.x=o)∨zfw W B' r.u r.x):ScV ((W.setCell ⟨b,0,none⟩ x).setCell ⟨b,1,none⟩ y) (.agg #[vp,vn]) p out :=
 zqi hb hp hn fun r h=>by
  rcases hr r h with ⟨e1,e2⟩ | e
  ·rw [e1,e2];exact ho
  ·exact e.mono hB
theorem zqk {p:List Int}{l l' N:List (List Rat)}(h:l=l')(hc:ziQ p l N):ziQ p l' N:=by rw [← h];exact hc
theorem zql (a:Wl)(w:World)(he:Env w)(ha:a.Ok) :
  Calls Tryz.prog 28 #[a.v] w fun e w'=>∃ v out,e=.returned v∧ScV w' v a.p out∧ziQ a.p a.sizes (out.map Qw.x)∧Ext w w':=by
 have hpr:=fun W (_:Ext w W)=>zqb a W;obtain ⟨W2,hW2⟩:∃ W2,W2=(w.alloc (.cells a.cs 83)).alloc (.cells #[.slice none 0 0,.slice none 0 0] 28):=⟨_,rfl⟩;have hE:Ext w W2:=by rw [hW2];exact ((Ext.refl w).alloc _).alloc _
 have hb:W2.heap[w.heap.size]?=some (.cells a.cs 83 (0,0)):=by
  rw [hW2];exact ((Ext.refl _).alloc _).heap (World.alloc_heap_new w _)
 have b0:zjl 28 W2 (w.heap.size+1) (.slice none 0 0) (.slice none 0 0):=by
  have:=zjl.new 28 (w.alloc (.cells a.cs 83)) (.slice none 0 0) (.slice none 0 0);rw [World.size_alloc] at this;rw [hW2];exact this
 have hcell:∀ W,Ext W2 W→∀ k,W.cell? ⟨w.heap.size,k,none⟩=a.cs[k]?:=fun W hx k=>by
  unfold World.cell?;dsimp only;rw [hx.heap hb];rfl
 have hrl:W2.rangeAt w.heap.size 0 a.cs.toList:=fun j v hj=>by
  rw [hcell W2 (Ext.refl _),Nat.zero_add,← Array.getElem?_toList];exact hj
 have hun:=Tryz.underlying83;have hin:(Tryz.prog.info? 83).map (·.size)=some a.cs.toList.length:=by
  rw [Array.length_toList];kernel_rfl
 rw [hW2] at hrl;have hn9:=a.n9;have hpw:=a.pw;have HE:=hid hE;have B0:=hid b0;have Hcell:=hid hcell;have Hpr:=hid hpr;have He:=hid he;have Ha:=hid ha;have Hpw:=hid hpw;clear hE b0 hcell hpr he ha hb hpw;have hv:a.v=.agg a.cs:=rfl;have Hv:=hid hv;rw [hv];clear hv;have hcs2:Wl.cs a=#[.bool a.three,.int .u8 a.kind,.int .u8 a.num,.int .i8 (a.xs 0).a,.int .i8 (a.xs 0).b,.int .i8 (a.xs 0).c,.int .i8 (a.xs 1).a,.int .i8 (a.xs 1).b,.int .i8 (a.xs 1).c,.int .i8 (a.xs 2).a,.int .i8 (a.xs 2).b,.int .i8 (a.xs 2).c,.int .i8 (a.xs 3).a,.int .i8 (a.xs 3).b,.int .i8 (a.xs 3).c,.int .i8 (a.xs 4).a,.int .i8 (a.xs 4).b,.int .i8 (a.xs 4).c,.int .i8 (a.xs 5).a,.int .i8 (a.xs 5).b,.int .i8 (a.xs 5).c,.int .i8 (a.xs 6).a,.int .i8 (a.xs 6).b,.int .i8 (a.xs 6).c,.int .i8 (a.xs 7).a,.int .i8 (a.xs 7).b,.int .i8 (a.xs 7).c]:=rfl;have Hrl:=hid hrl;have Hun:=hid hun;have Hin:=hid hin;clear hrl hun hin;rw [hcs2];go_enter Tryz.func28,Tryz.ntmps28
 rw [← hcs2];go_wp2_with (refine wpList_load_mid rfl 83 (.tmp 1) rfl w.heap.size 0 rfl a.cs.toList _ Hrl.out Hun.out rfl Hin.out ?_)
 rw [← hcs2,← hW2,← Hv.out];have hpw2:=Hpr.out W2 HE.out;refine hpw2.mono ?_;rintro e w1 ⟨u1,rfl,hon1,hx1⟩;clear hcs2 hW2;obtain ⟨a1,c1,rfl⟩:=zfi hon1;have Hon1:=hid hon1;have Hsl1:=hid (zan hon1);have Hx1:=hid hx1;have q1:w1.cell? ⟨w.heap.size,1,none⟩=some (.int .u8 a.kind):=Hcell.out w1 hx1 1;have q2:w1.cell? ⟨w.heap.size,2,none⟩=some (.int .u8 a.num):=Hcell.out w1 hx1 2;clear hx1 hon1 hpw2;have HEw:=hid (HE.out.trans Hx1.out);have hpl:=Hpw.out;have hpl3:0<a.p.length∧a.p.length≤3:=by rcases hpl with e | e <;> rw [e] <;> decide
 have hoc:=fun W (hx:Ext w1 W)=>zkV (.slice a1 a.p.length c1) a.p W (He.out.ext (HEw.out.trans hx)) (hx.sl Hsl1.out) hpl3.1 (by omega);have hco:=fun W vb vl (rs:List Qw)(hx:Ext w1 W)(hb:Rd W vb (ov (a.p.length - 1)))(hl:RdM W vl rs)(hz:rs.map Qw.x=a.sizes)=>zlk (.slice a1 a.p.length c1) vb vl a.p 400 rs W (He.out.ext (HEw.out.trans hx)) (hx.sl Hsl1.out) hb hl (by rw [hz];exact a.lw) (by omega) (by have:=a.few;rw [← hz,List.length_map] at this;exact this);have hnn:(1:Int)+(a.num:Int) % 9=((a.n:Nat):Int):=by unfold Wl.n;omega
 have hof:=fun W (hx:Ext w1 W)=>zkA 1 a.n W (He.out.ext (HEw.out.trans hx)) (by decide) hn9.1 (by omega);have hti:=fun W va (hx:Ext w1 W)(hr:Rd W va (ov (a.p.length - 1)))=>zkI va (ov (a.p.length - 1)) (mkRat 1 a.n) W (He.out.ext (HEw.out.trans hx)) hr (by rw [zhG];omega) (zqe _) (zqd hn9.1 hn9.2);have hm0:=fun W vg (hx:Ext w1 W)(hr:Rd W vg (zex (ov (a.p.length - 1)) (mkRat 1 a.n)))=>zmz vg _ 1 a.n W (He.out.ext (HEw.out.trans hx)) hr (by unfold zex;rw [List.length_map,zhG];omega) (zqh _ _ hn9.1 hn9.2) (by omega) (by omega);rw [show (1:Int)+((a.n:Nat):Int) - 1=((a.n:Nat):Int) by omega] at hm0;have hm1:=fun W vg (hx:Ext w1 W)(hr:Rd W vg (szW a.p.length (a.xs 0)))=>zmz vg _ 0 a.n W (He.out.ext (HEw.out.trans hx)) hr (by rw [zlm];omega) (zqg _ _) (by omega) (by omega);rw [show (0:Int)+((a.n:Nat):Int) - 1=((a.n:Nat):Int) - 1 by omega] at hm1;have hsz:=fun (i:Nat) W (hx:Ext w1 W)=>zlr (.slice a1 a.p.length c1) a.p (a.xs i) W (He.out.ext (HEw.out.trans hx)) (hx.sl Hsl1.out) (by omega) (Ha.out.xs i);unfold Rv at hof hti;have Hoc:=hid hoc;have Hco:=hid hco;have Hof:=hid hof;have Hti:=hid hti;have Hm0:=hid hm0;have Hm1:=hid hm1;have Hsz:=hid hsz;clear hoc hco hof hti hm0 hm1 hsz hpl;by_cases k0:a.kind % 3=0
 ·have t0:((a.kind:Int) % 3 == 0)=true:=by rw [beq_iff_eq];omega
  have hszs:a.sizes=zkO (zex (ov (a.p.length - 1)) (mkRat 1 a.n)) 1 a.n:=by unfold Wl.sizes;rw [if_pos k0]
  have Hszs:=hid hszs;clear hszs k0;go_wp2_with fail
  refine (Hoc.out w1 (Ext.refl _)).mono ?_;rintro e wa ⟨ua,rfl,hoa,hxa⟩;have Hoa:=hid hoa;have Hxa:=hid hxa;clear hoa hxa;go_wp2_with fail
  refine (Hoc.out wa Hxa.out).mono ?_;rintro e wb ⟨ub,rfl,hob,hxb⟩;have Hob:=hid hob;have Hxb:=hid (Hxa.out.trans hxb);have Hxab:=hid hxb;clear hob hxb;go_wp2_with fail
  refine (Hof.out wb Hxb.out).mono ?_;rintro e wc ⟨rfl,hxc⟩;have Hxc:=hid (Hxb.out.trans hxc);have Hobc:=hid (hxc.ownQ Hob.out);have Hxac:=hid (Hxab.out.trans hxc);clear hxc;go_wp2_with fail
  refine (Hti.out wc ub Hxc.out Hobc.out.rd).mono ?_;rintro e wd ⟨ud,rfl,hod,hxd⟩;have Hod:=hid hod;have Hxd:=hid (Hxc.out.trans hxd);have Hxad:=hid (Hxac.out.trans hxd);clear hod hxd;go_wp2_with fail
  refine (Hm0.out wd ud Hxd.out Hod.out.rd).mono ?_;rintro e wm ⟨um,rm,rfl,hom,hmm,hxm⟩;have Hom:=hid hom;have Hxm:=hid (Hxd.out.trans hxm);have Hxam:=hid (Hxad.out.trans hxm);have Hmm:=hid (hmm.trans Hszs.out.symm);clear hom hxm hmm;go_wp2_with fail
  refine (Hco.out wm ua um rm Hxm.out (Hxam.out.ownQ Hoa.out).rd Hom.out.rd Hmm.out).mono ?_;rintro e wC ⟨vn,out5,rfl,hn5,hr5,hcl5,hx5⟩;obtain ⟨avn,cvn,rfl⟩:=zfi hn5;have hxC:=Hxm.out.trans hx5;have hbm:w.heap.size≤wm.heap.size:=(HEw.out.trans Hxm.out).size;have hb5:=B0.out.ext (Hx1.out.trans hxC);have r0:=hb5.c0;have r1:=hb5.c1;have z0:=hb5.fz 0;have z1:=hb5.fz 1;have hK:K0 28 w wC (w.heap.size+1):=⟨HEw.out.trans hxC,_,_,hb5⟩;have hfin:=hK.fin (by omega) (.slice a1 a.p.length c1) (.slice avn out5.length cvn);have hsv:=zqi (B:=w.heap.size) (x:=.slice a1 a.p.length c1) (y:=.slice avn out5.length cvn) hb5 (zam (hxC.own Hon1.out) HE.out.size) (zam hn5 hbm) fun r hr=>by
   rcases hr5 r hr with ⟨e1,e2⟩ | e
   ·rw [e1,e2];exact zfw.mono ((hx5.ownQ (Hxam.out.ownQ Hoa.out))) HEw.out.size
   ·exact e.mono hbm
  have hcl5':ziQ a.p a.sizes (out5.map Qw.x):=by rw [← Hmm.out];exact hcl5
  have Hfin:=hid hfin;have Hsv:=hid hsv;have Hcl5:=hid hcl5';clear hfin hsv hcl5 hcl5' hK hb5 hxC hn5 hr5 hx5 hbm;go_wp2_with fail
  obtain ⟨hb6,hx6⟩:=Hfin.out;have hd0:=hb6.c0;have hd1:=hb6.c1;exact bodyPost_ret (v:=.agg #[.slice a1 a.p.length c1,.slice avn out5.length cvn]) (by simp [results,Tryz.results28,go_sem,hd0,hd1]) rfl ⟨_,out5,rfl,Hsv.out,Hcl5.out,hx6⟩
 ·have t0:((a.kind:Int) % 3 == 0)=false:=by rw [beq_eq_false_iff_ne];omega
  by_cases k1:a.kind % 3=1
  ·have t1:((a.kind:Int) % 3 == 1)=true:=(by rw [beq_iff_eq];omega);have hszs:a.sizes=zkO (szW a.p.length (a.xs 0)) 0 a.n:=(by unfold Wl.sizes;rw [if_neg k0,if_pos k1]);have Hszs:=hid hszs;have hsz0:=fun W (hx:Ext w1 W)=>Hsz.out 0 W hx;unfold I3.v at hsz0;have Hsz0:=hid hsz0;have hwr:IntKind.i64.wrap (((a.n:Nat):Int) - 1)=((a.n:Nat):Int) - 1:=zqc (by omega) (by omega);have hm1:=Hm1.out;rw [← hwr] at hm1;have Hm1:=hid hm1;clear hszs k0 k1 hsz0 hm1 hwr;have q3:w1.cell? ⟨w.heap.size,3,none⟩=some (.int .i8 (a.xs 0).a):=Hcell.out w1 Hx1.out 3;have q4:w1.cell? ⟨w.heap.size,4,none⟩=some (.int .i8 (a.xs 0).b):=Hcell.out w1 Hx1.out 4;have q5:w1.cell? ⟨w.heap.size,5,none⟩=some (.int .i8 (a.xs 0).c):=Hcell.out w1 Hx1.out 5;go_wp2_with fail
   have q3:=((Ext.refl w1).drew).cell q3;have q4:=((Ext.refl w1).drew).cell q4;have q5:=((Ext.refl w1).drew).cell q5;have HX:=hid (Ext.refl w1).drew;go_region_law (first
    | (go_simp;go_at_call 71;refine (Hoc.out _ HX.out).mono ?_;rintro e V ⟨ua,rfl,ho,hx⟩;(try (have HO:=hid (hx.ownQ HO.out)));(try (have HS:=hid (hx.ownQ HS.out)));(try (have HM:=hid (hx.qwM HM.out)));have q3:=hx.cell q3;have q4:=hx.cell q4;have q5:=hx.cell q5;have HX:=hid (HX.out.trans hx);have HO:=hid (zfw.mono ho HEw.out.size);clear ho hx)
    | (go_simp;go_at_call 75;refine (Hsz0.out _ HX.out).mono ?_;rintro e V ⟨us,rfl,ho,hx⟩;(try (have HO:=hid (hx.ownQ HO.out)));(try (have HS:=hid (hx.ownQ HS.out)));(try (have HM:=hid (hx.qwM HM.out)));have q3:=hx.cell q3;have q4:=hx.cell q4;have q5:=hx.cell q5;have HX:=hid (HX.out.trans hx);have HS:=hid ho;clear ho hx)
    | (go_simp;go_at_call 72;refine (Hm1.out _ _ HX.out HS.out.rd).mono ?_;rintro e V ⟨um,rm,rfl,ho,hmm,hx⟩;(try (have HO:=hid (hx.ownQ HO.out)));(try (have HS:=hid (hx.ownQ HS.out)));(try (have HM:=hid (hx.qwM HM.out)));have q3:=hx.cell q3;have q4:=hx.cell q4;have q5:=hx.cell q5;have HX:=hid (HX.out.trans hx);have HM:=hid ho;have Hmm:=hid (hmm.trans Hszs.out.symm);clear ho hx hmm)
    | (go_simp;go_at_call 70;refine (Hco.out _ _ _ rm HX.out HO.out.rd HM.out.rd Hmm.out).mono ?_;rintro e wC ⟨vn,out5,rfl,hn5,hr5,hcl5,hx5⟩;obtain ⟨avn,cvn,rfl⟩:=zfi hn5;have hxC:=HX.out.trans hx5;have hbm:=Nat.le_trans HEw.out.size HX.out.size;have hb5:=B0.out.ext (Hx1.out.trans hxC);have r0:=hb5.c0;have r1:=hb5.c1;have z0:=hb5.fz 0;have z1:=hb5.fz 1;have hK:K0 28 w wC (w.heap.size+1):=⟨HEw.out.trans hxC,_,_,hb5⟩;have Hfin:=hid (hK.fin (Nat.le_succ _) (.slice a1 a.p.length c1) (.slice avn out5.length cvn));have Hsv:=hid (zqj (x:=.slice a1 a.p.length c1) (y:=.slice avn out5.length cvn) hb5 (zam (hxC.own Hon1.out) HE.out.size) (zam hn5 hbm) hbm (hx5.ownQ HO.out) hr5);have Hcl5:=hid (zqk Hmm.out hcl5);clear hcl5 hK hb5 hxC hn5 hr5 hx5 hbm))
   all_goals
    go_wp2_with fail
    obtain ⟨hb6,hx6⟩:=Hfin.out;have hd0:=hb6.c0;have hd1:=hb6.c1;exact bodyPost_ret (v:=.agg #[.slice a1 a.p.length c1,.slice avn out5.length cvn]) (by simp [results,Tryz.results28,go_sem,hd0,hd1]) rfl ⟨_,out5,rfl,Hsv.out,Hcl5.out,hx6⟩
  ·have t1:((a.kind:Int) % 3 == 1)=false:=(by rw [beq_eq_false_iff_ne];omega);have hszs:a.sizes=(List.range (min a.n 8)).map fun i=>szW a.p.length (a.xs i):=(by unfold Wl.sizes;rw [if_neg k0,if_neg k1]);obtain ⟨m,hm⟩:∃ m,m=min a.n 8:=⟨_,rfl⟩;have hm8:m≤8:=(by omega);rw [← hm] at hszs;have hcx:∀ W,Ext w1 W→∀ k,k<8→W.cell? ⟨w.heap.size,3+k * 3,none⟩=some (.int .i8 (a.xs k).a)∧W.cell? ⟨w.heap.size,3+k * 3+1,none⟩=some (.int .i8 (a.xs k).b)∧W.cell? ⟨w.heap.size,3+k * 3+2,none⟩=some (.int .i8 (a.xs k).c):=fun W hx k hk=>by
    have hxx:=Hx1.out.trans hx;obtain rfl | rfl | rfl | rfl | rfl | rfl | rfl | rfl:k=0∨k=1∨k=2∨k=3∨k=4∨k=5∨k=6∨k=7:=by omega
    all_goals exact ⟨Hcell.out W hxx _,Hcell.out W hxx _,Hcell.out W hxx _⟩
   have hszk:=fun (k:Nat) W (hx:Ext w1 W)=>Hsz.out k W hx;unfold I3.v at hszk;have hmin:min ((a.n:Nat):Int) 8=(m:Int):=(by omega);obtain ⟨j0,hj,hy0,hy1,hy2⟩:=info_parts zfy;have Hszs:=hid hszs;have Hcx:=hid hcx;have Hszk:=hid hszk;have Hm:=hid hm;clear hszs k0 k1 hszk hcx hm;go_wp2_with fail
   go_loopw [5,6,46] (fun v5 v6 v46 wr=>∃ k:Nat,v46=.int .i64 k∧k≤m∧QsR w1 ((List.range k).map fun i=>szW a.p.length (a.xs i)) v5 wr) (fun _ _ v46 _=>m - (zal v46).toNat)
   case atStart=>exact ⟨0,rfl,Nat.zero_le _,[],QwM.nil _ _ _,rfl,Ext.refl _⟩
   case round =>
    obtain ⟨k,rfl,hk,⟨out,hq,hmq,hE⟩⟩:=hrel;have hol:out.length=k:=by
     have:=congrArg List.length hmq;rwa [List.length_map,List.length_map,List.length_range] at this
    obtain ⟨a6,c6,rfl⟩:=zfi hq.1;by_cases hkm:k<m
    ·obtain ⟨q0,q1,q2⟩:=Hcx.out wr hE k (by omega);have hso:=Hszk.out k wr hE;have hstep:((List.range (k+1)).map fun i=>szW a.p.length (a.xs i))=((List.range k).map fun i=>szW a.p.length (a.xs i))++[szW a.p.length (a.xs k)]:=(by rw [List.range_succ,List.map_append];rfl);have hwl:=zlm a.p.length (a.xs k);have hqo:=hq.1;rw [hol] at hqo ⊢;have hk0:(0:Int)≤(k:Int):=(by omega);have hk1:(k:Int)<(m:Int):=(by omega);have hk8:(k:Int)<8:=(by omega);have hm3:k+1≤maxLen:=(by unfold maxLen;omega);have hm4:(k+1) * 24≤140737488355328:=(by omega);have Hso:=hid hso;have Hstep:=hid hstep;have Hwl:=hid hwl;have Hqo:=hid hqo;have Hq:=hid hq;have Hmq:=hid hmq;have HEr:=hid hE;have Hol:=hid hol;clear hso hstep hwl hqo hq hmq hE hol;go_wp2_with fail
     refine Hso.out.mono ?_;rintro e VA ⟨uA,rfl,hoA,hxA⟩;have hoA':=hoA;unfold zfw at hoA';obtain ⟨au,cu,rfl⟩:=zfi hoA';have hE3:=HEr.out.trans hxA;have Ho2:=hid (hoA.mono HEr.out.size);have Hq3:=hid (hxA.qwM Hq.out);have hqo:=hxA.own Hqo.out;have hbase:=hE3.size;have HE3:=hid hE3;generalize (szW a.p.length (a.xs k)).length=ml at *;clear hoA hoA' hxA hE3 q0 q1 q2;go_wp2_with (at_builtin;refine wpList_append_own _ rfl _ _ 26 rfl w1.heap.size 41 j0 (.slice none 0 0) 1 24 Tryz.underlying26 hj hy0 hy1 hy2 rfl (by decide) _ _ _ rfl (hqo.alloc _) ⟨VA.heap.size,0,none⟩ 1 1 [.slice au ml cu] rfl rfl (cell_one_new _ _ _) (by simp [Value.oneCell']) hm3 hm4 (by rw [World.size_alloc];omega) ?_;intro v7 V7 hown7 hgrow7 _)
     go_roundw
     case rel=>exact ⟨k+1,by go_num,by omega,by rw [Hstep.out];exact QsR.more HE3.out Hq3.out Hmq.out Ho2.out (by rw [Hol.out];exact hown7) (by rw [Hol.out];exact hgrow7)⟩
     case measure=>simp [zal];omega
    ·obtain rfl:k=m:=by omega
     have Hmm:=hid (hmq.trans Hszs.out.symm);have Hq:=hid hq;have HEr:=hid hE;have hoc:=Hoc.out wr hE;have Hocr:=hid hoc;clear hq hmq hE hol hoc;go_wp2_with fail
     refine Hocr.out.mono ?_;rintro e wm ⟨ua,rfl,hoa,hxa⟩;have Hoa:=hid (hoa.mono (Nat.le_trans HEw.out.size HEr.out.size));have Hxm:=hid (HEr.out.trans hxa);have Hom:=hid (hxa.qwM Hq.out);clear hoa hxa;go_wp2_with fail
     refine (Hco.out wm ua _ out Hxm.out Hoa.out.rd Hom.out.rd Hmm.out).mono ?_;rintro e wC ⟨vn,out5,rfl,hn5,hr5,hcl5,hx5⟩;obtain ⟨avn,cvn,rfl⟩:=zfi hn5;have hxC:=Hxm.out.trans hx5;have hbm:=Nat.le_trans HEw.out.size Hxm.out.size;have hb5:=B0.out.ext (Hx1.out.trans hxC);have r0:=hb5.c0;have r1:=hb5.c1;have z0:=hb5.fz 0;have z1:=hb5.fz 1;have hK:K0 28 w wC (w.heap.size+1):=⟨HEw.out.trans hxC,_,_,hb5⟩;have Hfin:=hid (hK.fin (Nat.le_succ _) (.slice a1 a.p.length c1) (.slice avn out5.length cvn));have Hsv:=hid (zqj (x:=.slice a1 a.p.length c1) (y:=.slice avn out5.length cvn) hb5 (zam (hxC.own Hon1.out) HE.out.size) (zam hn5 hbm) hbm (hx5.ownQ Hoa.out) hr5);have Hcl5:=hid (zqk Hmm.out hcl5);clear hcl5 hK hb5 hxC hn5 hr5 hx5 hbm;go_wp2_with fail
     obtain ⟨hb6,hx6⟩:=Hfin.out;have hd0:=hb6.c0;have hd1:=hb6.c1;exact bodyPost_ret (v:=.agg #[.slice a1 a.p.length c1,.slice avn out5.length cvn]) (by simp [results,Tryz.results28,go_sem,hd0,hd1]) rfl ⟨_,out5,rfl,Hsv.out,Hcl5.out,hx6⟩
end
section
open Go.RowKit Go.Lib Go.Shelf
theorem zqm (a:Wl)(w W:World)(h:Ext (w.alloc (.cells a.cs 83)) W):W.rangeAt w.heap.size 0 a.cs.toList:=fun j v hj=>by
 unfold World.cell?;dsimp only;rw [h.heap (World.alloc_heap_new w _),Nat.zero_add];show a.cs[j]?=some v;rw [← Array.getElem?_toList];exact hj
theorem zqn (a:Wl):(Tryz.prog.info? 83).map (·.size)=some a.cs.toList.length:=by
 rw [Array.length_toList];kernel_rfl
theorem zqo (a:Wl):Wl.cs a=#[.bool a.three,.int .u8 a.kind,.int .u8 a.num,.int .i8 (a.xs 0).a,.int .i8 (a.xs 0).b,.int .i8 (a.xs 0).c,.int .i8 (a.xs 1).a,.int .i8 (a.xs 1).b,.int .i8 (a.xs 1).c,.int .i8 (a.xs 2).a,.int .i8 (a.xs 2).b,.int .i8 (a.xs 2).c,.int .i8 (a.xs 3).a,.int .i8 (a.xs 3).b,.int .i8 (a.xs 3).c,.int .i8 (a.xs 4).a,.int .i8 (a.xs 4).b,.int .i8 (a.xs 4).c,.int .i8 (a.xs 5).a,.int .i8 (a.xs 5).b,.int .i8 (a.xs 5).c,.int .i8 (a.xs 6).a,.int .i8 (a.xs 6).b,.int .i8 (a.xs 6).c,.int .i8 (a.xs 7).a,.int .i8 (a.xs 7).b,.int .i8 (a.xs 7).c]:=rfl
theorem zqp (a:Wl){N:List (List Rat)}(h:ziQ a.p a.sizes N):Wd a.p N:=ziU a.lw h (by have:=a.few;omega)
end
end Go.Proofs.YtebabancfnmfjaaGreatDoor
