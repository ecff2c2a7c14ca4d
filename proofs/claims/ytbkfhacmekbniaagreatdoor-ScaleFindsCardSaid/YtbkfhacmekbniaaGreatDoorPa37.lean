/- (Printed by wip/cku.py.) Walk: size.check and size.Check at any size of strings of at most 40 bytes (Rb: a slice of pairs of strings that reads). Walks: slices.IndexFunc and slices.ContainsFunc at []api.Rational of any strings, with any closure; law 31's short; whether a size has a long number. Walks: scale.open at a size of any strings of at most 40 bytes; scale.Reduce and scale.Find at a wrong one. What the laws of worlds begin with: a world in its box. Plain: modes again, the subset of all notes, the collection of a scale's own notes, the sum of the steps. Plain: a world's scale has at most nine notes; the steps as differences of its notes. Walk: law 31's Major. -/
import Derived.Test.YtbkfhacmekbniaaGreatDoorPa36
import Derived.Test.YtbkfhacmekbniaaGreatDoorPa08
import Derived.Shelf.Abstract
import Derived.Test.YtbkfhacmekbniaaGreatDoorPa18
import Derived.Test.YtbkfhacmekbniaaGreatDoorPa24
import Derived.Test.YtbkfhacmekbniaaGreatDoorPa19
import Derived.Test.YtbkfhacmekbniaaGreatDoorPa20
import Derived.Test.YtbkfhacmekbniaaGreatDoorShelfF
import Derived.Test.YtbkfhacmekbniaaGreatDoorPa30
import Derived.Test.YtbkfhacmekbniaaGreatDoorPa22
import Derived.Test.YtbkfhacmekbniaaGreatDoorPa21
set_option maxRecDepth 100000
set_option maxHeartbeats 2000000
namespace Go.Proofs.YtbkfhacmekbniaaGreatDoor
section
open Go.RowKit Go.Lib
def Rb (w:World)(v:Value)(l:List (ByteArray × ByteArray)):Prop :=
 ∃ a cap,v=.slice a l.length cap∧cap≤maxLen∧l.length≤cap∧∀ i e,l[i]?=some e→∃ b off,a=some ⟨b,off,none⟩∧w.cell? ⟨b,off+i * 2,none⟩=some (.string e.1)∧w.cell? ⟨b,off+i * 2+1,none⟩=some (.string e.2)
theorem Ext.rb {w w':World}(h:Ext w w'){v:Value}{l:List (ByteArray × ByteArray)}(k:Rb w v l):Rb w' v l:=by
 obtain ⟨a,cap,hv,h1,h2,hc⟩:=k;refine ⟨a,cap,hv,h1,h2,fun i e he=>?_⟩;obtain ⟨b,off,ha,g1,g2⟩:=hc i e he;exact ⟨b,off,ha,h.cell g1,h.cell g2⟩
def FrK (k:Nat)(e:ByteArray × ByteArray):Prop:=∃ r:Rat,Rv r=.agg #[.string e.1,.string e.2]∧Ft k r
def rp (r:Rat):ByteArray × ByteArray:=(I r.num,I (r.den:Int))
theorem FrK.rp {k:Nat}{e:ByteArray × ByteArray}(h:FrK k e):∃ r,e=rp r∧Ft k r:=by
 obtain ⟨r,hr,hf⟩:=h;unfold Rv at hr;injection hr with hr;have h0:=congrArg (fun a:Array Value=>a[0]?) hr;have h1:=congrArg (fun a:Array Value=>a[1]?) hr;simp at h0 h1;exact ⟨r,Prod.ext h0.symm h1.symm,hf⟩
theorem rps {k:Nat}{l:List (ByteArray × ByteArray)}(h:∀ e∈l,FrK k e):∃ x:List Rat,l=x.map rp∧∀ r∈x,Ft k r:=by
 induction l with
 | nil=>exact ⟨[],rfl,fun _ k=>by simp at k⟩
 | cons a t ih =>
  obtain ⟨x,rfl,hx⟩:=ih fun e he=>h e (List.mem_cons_of_mem _ he)
  obtain ⟨r,rfl,hr⟩:=(h a List.mem_cons_self).rp
  refine ⟨r::x,rfl,fun q hq=>?_⟩
  rcases List.mem_cons.1 hq with rfl | hq
  ·exact hr
  ·exact hx q hq
theorem zp4 {r:Rat}(h:¬ Ft 30 r):zfD r=false:=by
 cases hb:zfD r with
 | false=>rfl
 | true =>
  unfold zfD at hb
  rw [Bool.and_eq_true,decide_eq_true_eq,decide_eq_true_eq] at hb
  exact absurd ⟨hb.1,hb.2⟩ h
theorem zp5 {w:World}{v:Value}{x:List Rat}(h:Rb w v (x.map rp)):Rd w v x:=by
 obtain ⟨a,cap,hv,h1,h2,hc⟩:=h;rw [List.length_map] at hv h2
 cases x with
 | nil=>exact .inl ⟨a,cap,hv,h1,rfl⟩
 | cons r t =>
  obtain ⟨b,off,rfl,_⟩:=hc 0 (rp r) rfl
  refine .inr ⟨b,off,cap,hv,h2,h1,fun i q hq=>?_⟩
  obtain ⟨b2,off2,e,g1,g2⟩:=hc i (rp q) (by rw [List.getElem?_map,hq];rfl)
  injection e with e
  injection e with e1 e2
  subst e1;subst e2
  exact ⟨g1,g2⟩
open Classical in
noncomputable def ckE : List (ByteArray × ByteArray) → Int
 | []=>0
 | e::l=>if FrK 40 e then if FrK 30 e then ckE l else 4 else 2
noncomputable def ckU (n : Nat) (l : List (ByteArray × ByteArray)) : Int:=if l.length=n then ckE l else 5
theorem FrK.mono {k m:Nat}{e:ByteArray × ByteArray}(h:FrK k e)(hk:k≤m):FrK m e:=by
 obtain ⟨r,h1,h2⟩:=h;exact ⟨r,h1,h2.mono hk⟩
theorem zp6 {l:List (ByteArray × ByteArray)}(h:∀ e∈l,FrK 30 e):ckE l=0:=by
 induction l with
 | nil=>rfl
 | cons a t ih =>
  have ha:=h a List.mem_cons_self
  unfold ckE
  rw [if_pos (ha.mono (by omega)),if_pos ha]
  exact ih fun e he=>h e (List.mem_cons_of_mem _ he)
theorem zp7 {l:List (ByteArray × ByteArray)}{k:Nat}{e:ByteArray × ByteArray}(hk:l[k]?=some e)(h:∀ i d,i<k→l[i]?=some d→FrK 30 d):(¬ FrK 40 e→ckE l=2)∧(FrK 40 e→¬ FrK 30 e→ckE l=4):=by
 induction l generalizing k with
 | nil=>cases hk
 | cons a t ih =>
  cases k with
  | zero =>
   obtain rfl:=Option.some.inj hk
   exact ⟨fun hn=>by unfold ckE;rw [if_neg hn],fun hy hn=>by unfold ckE;rw [if_pos hy,if_neg hn]⟩
  | succ k =>
   have ha:=h 0 a (Nat.zero_lt_succ _) rfl
   have hi:=ih (k:=k) hk fun i d hi hd=>h (i+1) d (by omega) hd
   unfold ckE
   rw [if_pos (ha.mono (by omega)),if_pos ha]
   exact hi
theorem zp8 {l:List (ByteArray × ByteArray)}(h:ckE l=0):∀ e∈l,FrK 30 e:=by
 induction l with
 | nil=>intro e he;cases he
 | cons a t ih =>
  unfold ckE at h
  split at h
  ·split at h
   ·intro e he
    rcases List.mem_cons.1 he with rfl | he
    ·assumption
    ·exact ih h e he
   ·cases h
  ·cases h
theorem zp9 : ∀ l:List (ByteArray × ByteArray),ckE l=0∨ckE l=2∨ckE l=4
 | []=>.inl rfl
 | e::l=>by
  unfold ckE;split
  ·split
   ·exact zp9 l
   ·exact .inr (.inr rfl)
  ·exact .inr (.inl rfl)
theorem zpA {n:Nat}{l:List (ByteArray × ByteArray)}(h:ckU n l=0):l.length=n∧∀ e∈l,FrK 30 e:=by
 unfold ckU at h;split at h
 ·exact ⟨by assumption,zp8 h⟩
 ·cases h
theorem zpB (n:Nat)(l:List (ByteArray × ByteArray)):ckU n l=0∨ckU n l=2∨ckU n l=4∨ckU n l=5:=by
 unfold ckU;split
 ·rcases zp9 l with h | h | h <;> omega
 ·omega
theorem zpC {k:IntKind}{a b:Int}(h:a=b):Ending.returned (.int k a)=.returned (.int k b):=by rw [h]
theorem zpD (a:Option Addr)(c n:Nat)(l:List (ByteArray × ByteArray))(w:World)(he:Env w)(ap:Option Addr)(cp:Nat)
  (hl:l.length≤1000) (hln:l.length=n) (h9:∀ e∈l,e.1.size≤40∧e.2.size≤40)
  (hc:∀ i e,l[i]?=some e→∃ b off,a=some ⟨b,off,none⟩∧w.cell? ⟨b,off+i * 2,none⟩=some (.string e.1)∧w.cell? ⟨b,off+i * 2+1,none⟩=some (.string e.2)) :
  Calls Tryz.prog 58 #[.slice ap n cp,.slice a l.length c] w fun e w'=>e=.returned (.int .i64 (ckU n l))∧Ext w w':=by
 have hck:∀ e,e∈l→FrK 40 e∨∀ W,Ext w W→Calls Tryz.prog 88 #[.agg #[.string e.1,.string e.2]] W fun u w'=>u=.returned (.int .i64 2)∧Ext W w':=fun e h=>by
  rcases zp3 e.1 e.2 (h9 e h).1 (h9 e h).2 with k | k
  ·exact .inl k
  ·exact .inr fun W hE=>k W (he.ext hE)
 have hfine:=fun (r:Rat)(hr:Ft 40 r) W (hE:Ext w W)=>zeG r W (he.ext hE) (hr.mono (by omega));have hsh:=fun (r:Rat)(hr:Ft 40 r) W=>zfF r W (hr.mono (by omega));have hcu:ckU n l=ckE l:=by unfold ckU;rw [if_pos hln]
 have hok:(∀ i e,l[i]?=some e→FrK 30 e)→(0:Int)=ckU n l:=fun h=>by
  rw [hcu];refine (zp6 fun e he=>?_).symm;obtain ⟨i,hi⟩:=List.getElem?_of_mem he;exact h i e hi
 have hbad:∀ k e,l[k]?=some e→(∀ i d,i<k→l[i]?=some d→FrK 30 d)→¬ FrK 40 e→(2:Int)=ckU n l:=fun k e h1 h2 h3=>by rw [hcu];exact ((zp7 h1 h2).1 h3).symm
 have hbad4:∀ k e,l[k]?=some e→(∀ i d,i<k→l[i]?=some d→FrK 30 d)→FrK 40 e→¬ FrK 30 e→(4:Int)=ckU n l:=fun k e h1 h2 h3 h4=>by rw [hcu];exact ((zp7 h1 h2).2 h3 h4).symm
 clear hcu;subst hln;clear he h9;generalize hR:ckU l.length l=R at *;clear hR;have Hc:=Lib.hid hc;have Hck:=Lib.hid hck;have Hsh:=Lib.hid hsh;have Hfine:=Lib.hid hfine;have Hok:=Lib.hid hok;have Hbad:=Lib.hid hbad;have Hbad4:=Lib.hid hbad4;clear hc hck hsh hfine hok hbad hbad4;go_enter Tryz.func58,Tryz.ntmps58
 go_wp2_with fail
 go_loopw [6,14] (fun v6 v14 wr=>∃ k:Nat,v14=.int .i64 k∧k≤l.length∧Ext w wr∧∀ i e,i<k→l[i]?=some e→FrK 30 e) (fun _ v14 _=>l.length - (zag v14).toNat)
 case atStart=>exact ⟨0,rfl,Nat.zero_le _,Ext.refl _,fun i e h=>absurd h (Nat.not_lt_zero i)⟩
 case round =>
  obtain ⟨k,rfl,hk,hE,hF⟩:=hrel;have HE:=Lib.hid hE;have HF:=Lib.hid hF;clear hE hF;by_cases hkl:k<l.length
  ·obtain ⟨e,hr⟩:∃ e,l[k]?=some e:=⟨_,List.getElem?_eq_getElem hkl⟩;have hmem:=List.mem_of_getElem? hr;obtain ⟨b,off,rfl,hc0,hc1⟩:=Hc.out k e hr;have h0:=HE.out.cell hc0;have h1:=HE.out.cell hc1;have hk0:(0:Int)≤(k:Int):=(by omega);have hk1:(k:Int)<(l.length:Int):=(by omega);by_cases hg:FrK 30 e
   ·have hnew:∀ i e,i<k+1→l[i]?=some e→FrK 30 e:=fun i e' hi hie=>by
     rcases Nat.lt_or_ge i k with h | h
     ·exact HF.out i e' h hie
     ·obtain rfl:i=k:=by omega
      rw [hr] at hie;obtain rfl:=Option.some.inj hie;exact hg
    obtain ⟨r,re,hft⟩:=hg.rp;have hr0:=Hfine.out r (hft.mono (by omega));have hr1:=Hsh.out r (hft.mono (by omega));rw [zfE hft] at hr1;unfold Rv at hr0 hr1;rw [show I r.num=e.1 by rw [re];rfl,show I (r.den:Int)=e.2 by rw [re];rfl] at hr0 hr1;have hEb:Ext w (wr.alloc (.cells #[.string e.1,.string e.2] 60)):=HE.out.alloc _;have b1:=zdK.new wr (.string e.1) (.string e.2);clear re hft hg hmem;generalize e.1=sa at *;generalize e.2=sb at *;clear hc0 hc1;have Hr0:=Lib.hid hr0;have Hr1:=Lib.hid hr1;have Hr:=Lib.hid hr;have HEb:=Lib.hid hEb;have B1:=Lib.hid b1;have Hnew:=Lib.hid hnew;clear hr0 hr1 hr hEb b1 hnew;go_wp2_with fail
    refine (Hr0.out _ HEb.out).mono ?_;rintro e W2 ⟨rfl,hx2⟩;have hb2:=B1.out.ext hx2;have g0:=hb2.c0;have g1:=hb2.c1;have Hx2:=Lib.hid (HEb.out.trans hx2);clear hx2 hb2;go_wp2_with fail
    refine (Hr1.out _).mono ?_;rintro e W3 ⟨rfl,hx3⟩;have Hx3:=Lib.hid (Hx2.out.trans hx3);clear hx3;go_wp2_with fail
    go_roundw
    case rel=>exact ⟨k+1,by go_num,by omega,Hx3.out,Hnew.out⟩
    case measure=>simp [zag];omega
   ·by_cases h40:FrK 40 e
    ·have hans:=Hbad4.out k e hr HF.out h40 hg;have hnf:∀ r:Rat,e=rp r→¬ Ft 30 r:=fun r e1 h2=>hg ⟨r,by rw [e1];rfl,h2⟩;obtain ⟨r,re,hft⟩:=h40.rp;have hr0:=Hfine.out r hft;have hr1:=Hsh.out r hft;rw [zp4 (hnf r re)] at hr1;unfold Rv at hr0 hr1;rw [show I r.num=e.1 by rw [re];rfl,show I (r.den:Int)=e.2 by rw [re];rfl] at hr0 hr1;have hEb:Ext w (wr.alloc (.cells #[.string e.1,.string e.2] 60)):=HE.out.alloc _;have b1:=zdK.new wr (.string e.1) (.string e.2);clear re hft hg hmem hnf h40;generalize e.1=sa at *;generalize e.2=sb at *;clear hc0 hc1;have Hr0:=Lib.hid hr0;have Hr1:=Lib.hid hr1;have Hr:=Lib.hid hr;have HEb:=Lib.hid hEb;have B1:=Lib.hid b1;have Hans:=Lib.hid hans;clear hr0 hr1 hr hEb b1 hans;go_wp2_with fail
     refine (Hr0.out _ HEb.out).mono ?_;rintro e W2 ⟨rfl,hx2⟩;have hb2:=B1.out.ext hx2;have g0:=hb2.c0;have g1:=hb2.c1;have Hx2:=Lib.hid (HEb.out.trans hx2);clear hx2 hb2;go_wp2_with fail
     refine (Hr1.out _).mono ?_;rintro e W3 ⟨rfl,hx3⟩;have Hx3:=Lib.hid (Hx2.out.trans hx3);clear hx3;go_wp2
     go_ret
     exact ⟨zpC Hans.out,Hx3.out⟩
    ·have hans:=Hbad.out k e hr HF.out h40;have hr0:=(Hck.out e hmem).resolve_left h40;have hEb:Ext w (wr.alloc (.cells #[.string e.1,.string e.2] 60)):=HE.out.alloc _;have b1:=zdK.new wr (.string e.1) (.string e.2);clear hg hmem h40;generalize e.1=sa at *;generalize e.2=sb at *;clear hc0 hc1;have Hr0:=Lib.hid hr0;have Hr:=Lib.hid hr;have HEb:=Lib.hid hEb;have B1:=Lib.hid b1;have Hans:=Lib.hid hans;clear hr0 hr hEb b1 hans;go_wp2_with fail
     refine (Hr0.out _ HEb.out).mono ?_;rintro e W2 ⟨rfl,hx2⟩;have Hx2:=Lib.hid (HEb.out.trans hx2);clear hx2;go_wp2
     go_ret
     exact ⟨zpC Hans.out,Hx2.out⟩
  ·obtain rfl:k=l.length:=by omega
   go_wp2
   go_ret
   exact ⟨zpC (Hok.out fun i e hi=>HF.out i e (List.getElem?_eq_some_iff.1 hi).1 hi),HE.out⟩
theorem zpE (a ap:Option Addr)(c n cp m:Nat)(w:World)(_hn:n≤1000)(_hm:m≤1000)(hne:¬ (m:Int)=(n:Int)) :
  Calls Tryz.prog 58 #[.slice ap n cp,.slice a m c] w fun e w'=>e=.returned (.int .i64 5)∧Ext w w':=by
 go_enter Tryz.func58,Tryz.ntmps58
 go_wp2
 go_ret
 exact ⟨rfl,Ext.refl _⟩
theorem zpF (vp v:Value)(p:List Int)(l:List (ByteArray × ByteArray))(w:World)(he:Env w)(hp:Sl w vp (zak p))(hv:Rb w v l)(hpl:p.length≤1000)(hl:l.length≤1000)(h9:∀ e∈l,e.1.size≤40∧e.2.size≤40) :
  Calls Tryz.prog 58 #[vp,v] w fun e w'=>e=.returned (.int .i64 (ckU p.length l))∧Ext w w':=by
 obtain ⟨ap,cp,rfl,_,_,_⟩:=hp.parts;obtain ⟨a,c,rfl,_,_,hc⟩:=hv;rw [zam];by_cases hln:l.length=p.length
 ·exact zpD a c p.length l w he ap cp hl hln h9 hc
 ·have:ckU p.length l=5:=by unfold ckU;rw [if_neg hln]
  rw [this];exact zpE a ap c p.length cp l.length w hpl hl (by omega)
theorem zpG (vp v:Value)(p:List Int)(l:List (ByteArray × ByteArray))(w:World)(he:Env w)(hp:Sl w vp (zak p))(hv:Rb w v l)(hpe:zee p=0)(hl:l.length≤1000)(h9:∀ e∈l,e.1.size≤40∧e.2.size≤40) :
  Calls Tryz.prog 19 #[vp,v] w fun e w'=>e=.returned (.int .i64 (ckU p.length l))∧Ext w w':=by
 have hpl:=(zei hpe).2.1;have h1:=zef vp p w hp (by omega);have h2:=zpF vp v p l w he hp hv (by omega) hl h9;rw [hpe] at h1;obtain ⟨ap,cp,rfl,_,_,_⟩:=hp.parts;obtain ⟨a,c,rfl,_,_,_⟩:=hv;generalize ckU p.length l=R at *;clear hp he hpe h9;have H1:=Lib.hid h1;have H2:=Lib.hid h2;clear h1 h2;go_enter Tryz.func19,Tryz.ntmps19
 go_wp2_with fail
 refine H1.out.mono ?_;rintro e W ⟨rfl,rfl⟩;go_wp2_with fail
 refine (H2.out).mono ?_;rintro e w2 ⟨rfl,hx2⟩;have Hx2:=Lib.hid hx2;clear hx2;go_wp2
 go_ret
 exact ⟨rfl,Hx2.out⟩
end
section
open Go.RowKit Go.Lib Go.Shelf
attribute [local go_sem] Oper.semAt_some
theorem zpH {w:World}{v:Value}{x:List Rat}(h:Rd w v x):Rb w v (x.map rp):=by
 rcases h with ⟨a,c,rfl,hc,rfl⟩ | ⟨b,off,cap,rfl,h1,h2,hq⟩
 ·exact ⟨a,c,rfl,hc,Nat.zero_le _,fun i e h=>by simp at h⟩
 ·refine ⟨_,cap,by rw [List.length_map],h2,by rw [List.length_map];exact h1,fun i e he=>?_⟩;rw [List.getElem?_map] at he
  cases hx:x[i]? with
  | none=>rw [hx] at he;cases he
  | some r =>
   rw [hx] at he
   obtain rfl:=Option.some.inj he
   exact ⟨b,off,rfl,(hq i r hx).1,(hq i r hx).2⟩
theorem zpI (g:Nat)(v:Value)(l:List (ByteArray × ByteArray))(P:ByteArray × ByteArray→Bool)(w:World)(hv:Rb w v l)(hl:l.length≤1000)
  (eg:∀ args w,(callFunc g args).run Tryz.prog w=.ok (.enter g args) w)
  (hp:∀ W,Ext w W→∀ e∈l,Calls Tryz.prog g (#[.agg #[.string e.1,.string e.2]]++#[]) W fun u w'=>u=.returned (.bool (P e))∧Ext W w') :
  Calls Tryz.prog 60 #[v,.func (.func g) #[] #[]] w fun u w'=>(∃ z:Int,u=.returned (.int .i64 z)∧decide (0≤z)=l.any P∧-1≤z∧z≤1000)∧Ext w w':=by
 obtain ⟨a,c,rfl,_,_,hc⟩:=hv;generalize hn:l.length=n at *;have Hn:=Lib.hid hn;have Hp:=Lib.hid hp;have Hc:=Lib.hid hc;clear hc hn hp;go_enter Tryz.func60,Tryz.ntmps60
 go_wp2_with fail
 go_loopw [5,8] (fun v5 v8 wr=>∃ k:Nat,v8=.int .i64 k∧k≤n∧(l.take k).any P=false∧Ext w wr) (fun _ v8 _=>n - (zag v8).toNat)
 case atStart=>exact ⟨0,rfl,Nat.zero_le _,rfl,Ext.refl _⟩
 case round =>
  obtain ⟨k,rfl,hk,hall,hE⟩:=hrel;have Hall:=Lib.hid hall;clear hall;by_cases hlt:k<n
  ·obtain ⟨e,hr⟩:∃ e,l[k]?=some e:=⟨_,List.getElem?_eq_getElem (by rw [Hn.out];exact hlt)⟩;obtain ⟨b,off,rfl,h0,h1⟩:=Hc.out k e hr;have hc0:=hE.cell h0;have hc1:=hE.cell h1;have hd:=Hp.out wr hE e (List.mem_of_getElem? hr);have HE:=Lib.hid hE;have Hr:=Lib.hid hr;clear hr h0 h1 hE;generalize e.1=sa at *;generalize e.2=sb at *;generalize hdx:P e=dx at *;have Hd:=Lib.hid hd;have Hdx:=Lib.hid hdx;clear hd hdx;have hk0:(0:Int)≤(k:Int):=(by omega);have hk1:(k:Int)<(n:Int):=(by omega);go_wp2_with fail
   refine Hd.out.mono ?_;rintro u W2 ⟨rfl,hx2⟩;have HE2:=Lib.hid (HE.out.trans hx2);clear hx2
   cases dx with
   | true =>
    go_wp2
    go_ret
    exact ⟨⟨_,rfl,by rw [zfJ P Hr.out Hdx.out];exact decide_eq_true (by omega),by omega,by omega⟩,HE2.out⟩
   | false =>
    go_wp2_with fail
    go_roundw
    case rel=>exact ⟨k+1,by go_num,hlt,zfI P Hr.out Hall.out Hdx.out,HE2.out⟩
    case measure=>simp [zag];omega
  ·have hkk:¬ (k:Int)<(n:Int):=(by omega);have hkl:k=n:=(by omega);have Hkl:=Lib.hid hkl;clear hkl;have HE:=Lib.hid hE;clear hE;go_wp2
   go_ret
   exact ⟨⟨-1,rfl,by have h:=Hall.out;rw [Hkl.out,← Hn.out,List.take_length] at h;rw [h];rfl,by omega,by omega⟩,HE.out⟩
theorem zpJ (g:Nat)(v:Value)(l:List (ByteArray × ByteArray))(P:ByteArray × ByteArray→Bool)(w:World)(hv:Rb w v l)(hl:l.length≤1000)
  (eg:∀ args w,(callFunc g args).run Tryz.prog w=.ok (.enter g args) w)
  (hp:∀ W,Ext w W→∀ e∈l,Calls Tryz.prog g (#[.agg #[.string e.1,.string e.2]]++#[]) W fun u w'=>u=.returned (.bool (P e))∧Ext W w') :
  Calls Tryz.prog 21 #[v,.func (.func g) #[] #[]] w fun u w'=>u=.returned (.bool (l.any P))∧Ext w w':=by
 have hi:=zpI g v l P w hv hl eg hp;obtain ⟨a,c,rfl,_,_,_⟩:=hv;have Hi:=Lib.hid hi;clear hi hp;generalize l.any P=b at *;go_enter Tryz.func21,Tryz.ntmps21
 go_wp2_with fail
 refine Hi.out.mono ?_;rintro u w1 ⟨⟨z,rfl,hz,h1,h2⟩,hx⟩;have Hz:=Lib.hid hz;have Hx:=Lib.hid hx;clear hz hx;go_wp2
 go_ret
 exact ⟨ze8 Hz.out,Hx.out⟩
def lng (m:Nat)(e:ByteArray × ByteArray):Bool:=decide (m<e.1.size) || decide (m<e.2.size)
theorem zpK (e:ByteArray × ByteArray)(w:World) :
  Calls Tryz.prog 50 #[.agg #[.string e.1,.string e.2]] w fun u w'=>u=.returned (.bool (lng 40 e))∧Ext w w':=by
 have hE:Ext w (w.alloc (.cells #[.string e.1,.string e.2] 60)):=(Ext.refl w).alloc _;have b1:=zdK.new w (.string e.1) (.string e.2);have q0:=b1.c0;have q1:=b1.c1;unfold lng;generalize e.1=sa at *;generalize e.2=sb at *;have HE:=Lib.hid hE;clear hE b1;by_cases g1:40<sa.size
 ·have g1i:(40:Int)<(sa.size:Int):=by omega
  rw [decide_eq_true g1,Bool.true_or];go_enter Tryz.func50,Tryz.ntmps50
  go_wp2
  go_ret
  exact ⟨rfl,HE.out⟩
 ·have g1i:¬ (40:Int)<(sa.size:Int):=by omega
  rw [decide_eq_false g1,Bool.false_or];by_cases g2:40<sb.size
  ·have g2i:(40:Int)<(sb.size:Int):=(by omega);rw [decide_eq_true g2];go_enter Tryz.func50,Tryz.ntmps50
   go_wp2
   go_ret
   exact ⟨rfl,HE.out⟩
  ·have g2i:¬ (40:Int)<(sb.size:Int):=(by omega);rw [decide_eq_false g2];go_enter Tryz.func50,Tryz.ntmps50
   go_wp2
   go_ret
   exact ⟨rfl,HE.out⟩
theorem zpL (e:ByteArray × ByteArray)(w:World) :
  Calls Tryz.prog 22 #[.agg #[.string e.1,.string e.2]] w fun u w'=>u=.returned (.bool (lng 30 e))∧Ext w w':=by
 have hE:Ext w (w.alloc (.cells #[.string e.1,.string e.2] 60)):=(Ext.refl w).alloc _;have b1:=zdK.new w (.string e.1) (.string e.2);have q0:=b1.c0;have q1:=b1.c1;unfold lng;generalize e.1=sa at *;generalize e.2=sb at *;have HE:=Lib.hid hE;clear hE b1;by_cases g1:30<sa.size
 ·have g1i:(30:Int)<(sa.size:Int):=by omega
  rw [decide_eq_true g1,Bool.true_or];go_enter Tryz.func22,Tryz.ntmps22
  go_wp2
  go_ret
  exact ⟨rfl,HE.out⟩
 ·have g1i:¬ (30:Int)<(sa.size:Int):=by omega
  rw [decide_eq_false g1,Bool.false_or];by_cases g2:30<sb.size
  ·have g2i:(30:Int)<(sb.size:Int):=(by omega);rw [decide_eq_true g2];go_enter Tryz.func22,Tryz.ntmps22
   go_wp2
   go_ret
   exact ⟨rfl,HE.out⟩
  ·have g2i:¬ (30:Int)<(sb.size:Int):=(by omega);rw [decide_eq_false g2];go_enter Tryz.func22,Tryz.ntmps22
   go_wp2
   go_ret
   exact ⟨rfl,HE.out⟩
def zpM (l:List (ByteArray × ByteArray)):Bool:=decide (l.length≤4) && !(l.any (lng 40))
theorem zpN {l:List (ByteArray × ByteArray)}(h:zpM l=true):l.length≤4∧∀ e∈l,e.1.size≤40∧e.2.size≤40:=by
 unfold zpM at h;rw [Bool.and_eq_true,decide_eq_true_eq] at h;refine ⟨h.1,fun e he=>?_⟩;have h2:l.any (lng 40)=false:=by have:=h.2;simpa using this
 rw [List.any_eq_false] at h2;have h3:=h2 e he;unfold lng at h3;rw [Bool.or_eq_true,decide_eq_true_eq,decide_eq_true_eq] at h3;omega
theorem zpO (v:Value)(l:List (ByteArray × ByteArray))(w:World)(hv:Rb w v l)(hl:l.length≤9223372036854775807) :
  Calls Tryz.prog 15 #[v] w fun e w'=>e=.returned (.bool (zpM l))∧Ext w w':=by
 by_cases h4:l.length≤4
 ·have h:=zpJ 50 v l (lng 40) w hv (by omega) (fun _ _=>rfl) (fun W _ e _=>zpK e W);obtain ⟨a,c,rfl,_,_,_⟩:=hv;unfold zpM;rw [decide_eq_true h4,Bool.true_and];have h4i:(l.length:Int)≤4:=by omega
  generalize l.length=n at *;generalize l.any (lng 40)=b at *;have H:=Lib.hid h;clear h;go_enter Tryz.func15,Tryz.ntmps15
  go_wp2_with fail
  refine H.out.mono ?_;rintro e w1 ⟨rfl,hx⟩;have Hx:=Lib.hid hx;clear hx;go_wp2
  go_ret
  exact ⟨rfl,Hx.out⟩
 ·obtain ⟨a,c,rfl,_,_,_⟩:=hv;unfold zpM;rw [decide_eq_false h4,Bool.false_and];have h4i:¬ (l.length:Int)≤4:=by omega
  generalize l.length=n at *;go_enter Tryz.func15,Tryz.ntmps15
  go_wp2
  go_ret
  exact ⟨rfl,Ext.refl _⟩
end
section
open Go.RowKit Go.Lib
attribute [local go_sem] Oper.semAt_some
theorem zpP (v vx:Value)(p:List Int)(rs:List Qw)(l:List (ByteArray × ByteArray))(w:World)(he:Env w)(hv:ScV w v p rs)(h:zjm p rs)(hx:Rb w vx l)(hl:l.length≤1000)(h9:∀ e∈l,e.1.size≤40∧e.2.size≤40) :
  Calls Tryz.prog 51 #[v,vx] w fun e w'=>e=.returned (.int .i64 (ckU p.length l))∧Ext w w':=by
 have h1:=fun W (hE:Ext w W)=>zjn v p rs W (he.ext hE) (hv.ext hE) h;obtain ⟨vp,vn,rfl,hp,hs,hm⟩:=hv;have h2:=fun W (hE:Ext w W)=>zpG vp vx p l W (he.ext hE) (hE.sl hp) (hE.rb hx) h.pe hl h9;obtain ⟨ap,cp,rfl,_,_,_⟩:=hp.parts;obtain ⟨an,cn,rfl,_,_,_⟩:=hs.parts;obtain ⟨ax,cx,rfl,_,_,_⟩:=hx;generalize ckU p.length l=R at *;generalize (zak p).length=n1 at *;generalize (qwc rs).length=n2 at *;generalize l.length=n3 at *;have bx:(w.alloc (.cells #[.slice ap n1 cp,.slice an n2 cn] 36)).heap[w.heap.size]?=some (.cells #[.slice ap n1 cp,.slice an n2 cn] 36 (0,0)):=World.alloc_heap_new w _;have hE0:Ext w (w.alloc (.cells #[.slice ap n1 cp,.slice an n2 cn] 36)):=(Ext.refl w).alloc _;have hbox:∀ W,Ext (w.alloc (.cells #[.slice ap n1 cp,.slice an n2 cn] 36)) W→W.cell? ⟨w.heap.size,0,none⟩=some (.slice ap n1 cp)∧W.cell? ⟨w.heap.size,1,none⟩=some (.slice an n2 cn):=fun W hE=>by
  have hb:=hE.heap bx;unfold World.cell?;dsimp only;rw [hb];exact ⟨rfl,rfl⟩
 clear hp hs hm he h h9 bx;have H1:=Lib.hid h1;have H2:=Lib.hid h2;have HE0:=Lib.hid hE0;have Hbox:=Lib.hid hbox;clear h1 h2 hE0 hbox;go_enter Tryz.func51,Tryz.ntmps51
 go_wp2_with fail
 refine (H1.out _ HE0.out).mono ?_;rintro e w1 ⟨rfl,hx1⟩;obtain ⟨q0,q1⟩:=Hbox.out w1 hx1;have Hx1:=Lib.hid (HE0.out.trans hx1);clear hx1;go_wp2_with fail
 refine (H2.out w1 Hx1.out).mono ?_;rintro e w2 ⟨rfl,hx2⟩;have Hx2:=Lib.hid (Hx1.out.trans hx2);clear hx2;go_wp2
 go_ret
 exact ⟨rfl,Hx2.out⟩
theorem zpQ (v vx:Value)(p:List Int)(rs:List Qw)(l:List (ByteArray × ByteArray))(w:World)(he:Env w)(hv:ScV w v p rs)(h:zjm p rs)(hx:Rb w vx l)(hl:l.length≤1000)(h9:∀ e∈l,e.1.size≤40∧e.2.size≤40)(k:Int)(hk:k=2∨k=4∨k=5)(hk2:ckU p.length l=k) :
  Calls Tryz.prog 17 #[v,vx] w fun e w'=>e=.returned (.tuple #[.slice none 0 0,.string ⟨#[]⟩,.int .i64 k])∧Ext w w':=by
 have h1:=fun W (hE:Ext w W)=>zpP v vx p rs l W (he.ext hE) (hv.ext hE) h (hE.rb hx) hl h9;rw [hk2] at h1;obtain ⟨vp,vn,rfl,hp,hs,hm⟩:=hv;obtain ⟨ap,cp,rfl,_,_,_⟩:=hp.parts;obtain ⟨an,cn,rfl,_,_,_⟩:=hs.parts;obtain ⟨ax,cx,rfl,_,_,_⟩:=hx;generalize (zak p).length=n1 at *;generalize (qwc rs).length=n2 at *;generalize l.length=n3 at *;have hE0:Ext w (w.alloc (.cells #[.slice ap n1 cp,.slice an n2 cn] 36)):=(Ext.refl w).alloc _;clear hp hs hm he h h9 hk2;rcases hk with rfl | rfl | rfl
 all_goals
  have H1:=Lib.hid h1;have HE0:=Lib.hid hE0;clear h1 hE0;go_enter Tryz.func17,Tryz.ntmps17
  go_wp2_with fail
  refine (H1.out _ HE0.out).mono ?_;rintro e w1 ⟨rfl,hx1⟩;have Hx1:=Lib.hid (HE0.out.trans hx1);clear hx1;go_wp2
  go_ret3
  exact ⟨rfl,Hx1.out⟩
theorem zpR (v vx:Value)(p:List Int)(rs:List Qw)(l:List (ByteArray × ByteArray))(w:World)(he:Env w)(hv:ScV w v p rs)(h:zjm p rs)(hx:Rb w vx l)(hl:l.length≤1000)(h9:∀ e∈l,e.1.size≤40∧e.2.size≤40)(k:Int)(hk:k=2∨k=4∨k=5)(hk2:ckU p.length l=k) :
  Calls Tryz.prog 18 #[v,vx] w fun e w'=>e=.returned (.tuple #[.int .i64 0,.bool false,.int .i64 k])∧Ext w w':=by
 have h1:=fun W (hE:Ext w W)=>zpP v vx p rs l W (he.ext hE) (hv.ext hE) h (hE.rb hx) hl h9;rw [hk2] at h1;obtain ⟨vp,vn,rfl,hp,hs,hm⟩:=hv;obtain ⟨ap,cp,rfl,_,_,_⟩:=hp.parts;obtain ⟨an,cn,rfl,_,_,_⟩:=hs.parts;obtain ⟨ax,cx,rfl,_,_,_⟩:=hx;generalize (zak p).length=n1 at *;generalize (qwc rs).length=n2 at *;generalize l.length=n3 at *;have hE0:Ext w (w.alloc (.cells #[.slice ap n1 cp,.slice an n2 cn] 36)):=(Ext.refl w).alloc _;clear hp hs hm he h h9 hk2;rcases hk with rfl | rfl | rfl
 all_goals
  have H1:=Lib.hid h1;have HE0:=Lib.hid hE0;clear h1 hE0;go_enter Tryz.func18,Tryz.ntmps18
  go_wp2_with fail
  refine (H1.out _ HE0.out).mono ?_;rintro e w1 ⟨rfl,hx1⟩;have Hx1:=Lib.hid (HE0.out.trans hx1);clear hx1;go_wp2
  go_ret3
  exact ⟨rfl,Hx1.out⟩
end
section
open Go.RowKit Go.Lib Go.Shelf
theorem zpS (a:Wl)(w W:World)(h:Ext (w.alloc (.cells a.cs 26)) W):W.rangeAt w.heap.size 0 a.cs.toList:=fun j v hj=>by
 unfold World.cell?;dsimp only;rw [h.heap (World.alloc_heap_new w _),Nat.zero_add];show a.cs[j]?=some v;rw [← Array.getElem?_toList];exact hj
theorem zpT (a:Wl):(Tryz.prog.info? 26).map (·.size)=some a.cs.toList.length:=by
 rw [Array.length_toList];kernel_rfl
theorem zpU (a:Wl):Wl.cs a=#[.bool a.three,.int .u8 a.kind,.int .u8 a.num,.int .i8 (a.xs 0).a,.int .i8 (a.xs 0).b,.int .i8 (a.xs 0).c,.int .i8 (a.xs 1).a,.int .i8 (a.xs 1).b,.int .i8 (a.xs 1).c,.int .i8 (a.xs 2).a,.int .i8 (a.xs 2).b,.int .i8 (a.xs 2).c,.int .i8 (a.xs 3).a,.int .i8 (a.xs 3).b,.int .i8 (a.xs 3).c,.int .i8 (a.xs 4).a,.int .i8 (a.xs 4).b,.int .i8 (a.xs 4).c,.int .i8 (a.xs 5).a,.int .i8 (a.xs 5).b,.int .i8 (a.xs 5).c,.int .i8 (a.xs 6).a,.int .i8 (a.xs 6).b,.int .i8 (a.xs 6).c,.int .i8 (a.xs 7).a,.int .i8 (a.xs 7).b,.int .i8 (a.xs 7).c]:=rfl
theorem zpV (a:Wl){N:List (List Rat)}(h:zjT a.p a.sizes N):Wd a.p N:=zjY a.lw h (by have:=a.few;omega)
end
section
section
variable {p : List Int} {N : List (List Rat)} (h : Wd p N)
include h
omit h in
theorem zpW {i:Nat}(hi:i<N.length):N[i]?=some (zat p N (i+1)):=by
 unfold zat;rw [List.getElem?_cons_succ,List.getElem?_eq_getElem hi,Option.getD_some]
theorem Wd.zlow {i:Nat}(hi:i<N.length):rst p (zat p N i)=zat p N i:=by
 obtain ⟨n,hn⟩:=h.dif;have hl:=h.zlen (Nat.le_of_lt hi);have hni:=hn _ (h.zmem (Nat.le_of_lt hi)) _ (List.mem_cons_self ..);rw [← hl,zj2] at hni;obtain ⟨a,tl,e,hl2,hb⟩:=zjQ (by rw [hl];exact h.pr) hni;have hbd:=h.zbd hi;unfold rst;rw [e] at hl hbd ⊢;have hf:flP p (a::tl)=0:=by
  rw [ziN (by rw [hl];exact h.pr) hb,Int.eq_iff_le_and_ge];constructor
  ·have g1:=Rat.floor_le (sF p (a::tl) / 67108864);have:((sF p (a::tl) / 67108864).floor:Rat)<((1:Int):Rat):=(by rw [show ((1:Int):Rat)=1 from rfl];grind);have:=Rat.intCast_lt_intCast.1 this;omega
  ·show (0:Int)≤_;rw [Rat.le_floor_iff,show ((0:Int):Rat)=0 from rfl];grind
 rw [hf];exact zj7 _
theorem Wd.zov : rst p (ov (p.length - 1))=zer p.length:=by
 obtain ⟨n,hn⟩:=h.dif;have hl:=h.zlen (Nat.le_refl _);have hni:=hn _ (h.zmem (Nat.le_refl _)) _ (List.mem_cons_self ..);rw [← hl,zj2] at hni;rw [h.zlast] at hni hl;obtain ⟨a,tl,e,hl2,hb⟩:=zjQ (by rw [hl];exact h.pr) hni;have hf:flP p (ov (p.length - 1))=1:=by
  have hs:=h.sov;rw [e] at hs hl ⊢;rw [ziN (by rw [hl];exact h.pr) hb,hs];decide +kernel
 unfold rst;rw [hf,zjV h.pr,zj6];exact zj7 _
theorem Wd.lw : Lw p 1 N:=by
 obtain ⟨n,hn⟩:=h.dif;refine ⟨h.pr,h.len,by omega,by omega,fun x hx=>?_,n,hn⟩;obtain ⟨i,hi,e⟩:=List.getElem_of_mem hx;have hz:=zpW (p:=p) hi;rw [List.getElem?_eq_getElem hi,e] at hz;rw [Option.some.inj hz,show ((1 * 67108864:Int):Rat)=67108864 from rfl];rcases Nat.lt_or_ge (i+1) N.length with g | g
 ·have:=h.zbd g;constructor <;> grind
 ·rw [show i+1=N.length by omega,h.zlast,h.sov];constructor <;> grind
end
theorem zpX {p:List Int}{l M:List (List Rat)}(hM:zjT p l M){z0:List Rat}(hz:z0∈l)(h0:rst p z0=zer p.length):M.length≤l.length:=by
 have hnd:M.Nodup:=hM.1.imp fun {a b} g e=>by rw [e] at g;grind
 have hs:M ⊆ ov (p.length - 1)::(l.erase z0).map (rst p):=fun x hx=>by
  rcases (hM.2 x).1 hx with e | ⟨g0,y,hy,e⟩
  ·rw [e];exact List.mem_cons_self ..
  ·refine List.mem_cons_of_mem _ ?_;rw [e];refine List.mem_map_of_mem ((List.mem_erase_of_ne fun k=>g0 ?_).2 hy);rw [e,k,h0]
 have h1:=zjW hnd hs;have h2:=List.length_erase_of_mem hz;have h3:=List.length_pos_of_mem hz;rw [List.length_cons,List.length_map] at h1;omega
theorem zpY {p:List Int}{l M:List (List Rat)}(hM:zjT p l M):M.length≤l.length+1:=by
 have hnd:M.Nodup:=hM.1.imp fun {a b} g e=>by rw [e] at g;grind
 have hs:M ⊆ ov (p.length - 1)::l.map (rst p):=fun x hx=>by
  rcases (hM.2 x).1 hx with e | ⟨g0,y,hy,e⟩
  ·rw [e];exact List.mem_cons_self ..
  ·exact List.mem_cons_of_mem _ (by rw [e];exact List.mem_map_of_mem hy)
 have h1:=zjW hnd hs;rw [List.length_cons,List.length_map] at h1;exact h1
theorem zpZ {p:List Int}{x:List Rat}(hx:x.length=p.length):zeW x ((0:Int):Rat)=zer p.length:=by
 unfold zeW zer;rw [← hx];refine List.ext_getElem (by simp) fun i h1 h2=>?_;rw [List.getElem_map,List.getElem_replicate];exact Rat.mul_zero _
theorem zqa (a:Wl){M:List (List Rat)}(hM:zjT a.p a.sizes M):M.length≤9:=by
 have hw:=zpV a hM;have hn:=a.n9;have hpw:=a.pw;have hp:=(zjH hpw.pr).2;by_cases h0:a.kind % 3=0
 ·have hs:a.sizes=zk4 (zeW (ov (a.p.length - 1)) (mkRat 1 a.n)) 1 a.n:=by unfold Wl.sizes;rw [if_pos h0]
  have hl:a.sizes.length=a.n:=by rw [hs,zk6]
  have hm:ov (a.p.length - 1)∈a.sizes:=by
   rw [hs];unfold zk4;refine List.mem_map.2 ⟨a.n - 1,List.mem_range.2 (by omega),?_⟩;rw [zlu hpw a.n,show (1:Int)+((a.n - 1:Nat):Int)=(a.n:Int) by omega];have e:((a.n:Int):Rat) / (a.n:Rat)=1:=by
    show ((a.n:Nat):Rat) / (a.n:Rat)=1;rw [Rat.div_def,Rat.mul_inv_cancel _ (zln hn.1)]
   rcases hpw with e2 | e2 <;> rw [e2]
   ·rw [zlk,e];rfl
   ·rw [zll,e];rfl
  have:=zpX hM hm hw.zov;omega
 ·by_cases h1:a.kind % 3=1
  ·have hs:a.sizes=zk4 (szW a.p.length (a.xs 0)) 0 a.n:=(by unfold Wl.sizes;rw [if_neg h0,if_pos h1]);have hl:a.sizes.length=a.n:=(by rw [hs,zk6]);have hm:zer a.p.length∈a.sizes:=by
    rw [hs];unfold zk4;refine List.mem_map.2 ⟨0,List.mem_range.2 hn.1,?_⟩;exact zpZ (zkT _ _)
   have:=zpX hM hm (hw.zlow hw.pos);omega
  ·have hs:a.sizes=(List.range (min a.n 8)).map fun i=>szW a.p.length (a.xs i):=(by unfold Wl.sizes;rw [if_neg h0,if_neg h1]);have hl:a.sizes.length=min a.n 8:=(by rw [hs,List.length_map,List.length_range]);have:=zpY hM;omega
end
section
open Go.RowKit Go.Lib Go.Shelf
attribute [local go_sem] Oper.semAt_some
theorem zqb {W:World}{g off n cp:Nat}{us:List Value}{c:Nat}(h:Sl W (.slice (some ⟨g,off,none⟩) n cp) us)(hne:g ≠ c)(k:Nat)(x:Value):Sl (W.setCell ⟨c,k,none⟩ x) (.slice (some ⟨g,off,none⟩) n cp) us:=by
 rcases h with ⟨a,cap,e,hm,h0⟩ | ⟨b,off',cap,e,h1,h2,hc⟩
 ·exact .inl ⟨a,cap,e,hm,h0⟩
 ·refine .inr ⟨b,off',cap,e,h1,h2,fun i q hq=>?_⟩;injection e with e1 _ _;injection e1 with e1;injection e1 with e1 e2;subst e1;subst e2;rw [World.cell?_setCell_other _ _ _ _ (by intro e';simp only [Addr.mk.injEq] at e';exact hne e'.1.symm)];exact hc i q hq
theorem zqc {T:TypeId}{W:World}{c:Nat}{u v s:Value}{xs:List Rat}(hs:Rd W s xs)(hb:zdV T W c u v)(hu:∀ z,u ≠ .string z)(hv:∀ z,v ≠ .string z)(x y:Value):Rd ((W.setCell ⟨c,0,none⟩ x).setCell ⟨c,1,none⟩ y) s xs:=by
 rcases hs with hn | ⟨b,off,cap,e,h1,h2,hc⟩
 ·exact .inl hn
 ·have hno:∀ k z,W.cell? ⟨b,k,none⟩=some (.string z)→b ≠ c:=by
   rintro k z h rfl;unfold World.cell? at h;dsimp only at h;rw [hb] at h;rcases (by omega:k=0∨k=1∨2≤k) with g | g | g
   ·rw [g] at h;exact hu z (Option.some.inj h)
   ·rw [g] at h;exact hv z (Option.some.inj h)
   ·have:(#[u,v]:Array Value)[k]?=none:=Array.getElem?_eq_none (by simpa using g);simp [this] at h
  have hk:∀ k z,W.cell? ⟨b,k,none⟩=some (.string z)→((W.setCell ⟨c,0,none⟩ x).setCell ⟨c,1,none⟩ y).cell? ⟨b,k,none⟩=some (.string z):=fun k z h=>by
   have hbc:=hno k z h;rw [World.cell?_setCell_other _ _ _ _ (by intro e';simp only [Addr.mk.injEq] at e';exact hbc e'.1.symm),World.cell?_setCell_other _ _ _ _ (by intro e';simp only [Addr.mk.injEq] at e';exact hbc e'.1.symm)];exact h
  exact .inr ⟨b,off,cap,e,h1,h2,fun i r hr=>⟨hk _ _ (hc i r hr).1,hk _ _ (hc i r hr).2⟩⟩
def zqd : List (List Int):=[[-3,2],[-6,4],[2,-1],[-1,1],[-4,3],[-7,5],[1,0]]
def zqe : List (List Rat):=zqd.map zk8
theorem zqf (w:World)(he:Env w) :
  Calls Tryz.prog 35 #[] w fun e w'=>∃ v rs,e=.returned v∧ScV w' v [2,3] rs∧rs.map Qw.x=zqe∧Ext w w':=by
 have hwh:=fun W v (l:List Int)(hE:Ext w W)(hv:Sl W v (zak l))(h9:l.length≤1000)(hl:∀ z∈l,z.natAbs<1000000000)=>zkB v l W (he.ext hE) hv h9 hl;have hw2:=fun W (a b:Int)(hE:Ext w W)(ha:a.natAbs<1000000000)(hb:b.natAbs<1000000000)=>hwh (W.alloc (.cells #[.int .i64 a,.int .i64 b] 3)) (.slice (some ⟨W.heap.size,0,none⟩) 2 2) [a,b] (hE.alloc _) (zin (us:=[.int .i64 a,.int .i64 b]) (World.alloc_heap_new W _) (by unfold maxLen;simp)) (by simp) (fun z hz=>by
  simp only [List.mem_cons,List.not_mem_nil,or_false] at hz;rcases hz with rfl | rfl <;> assumption)
 have hb0:=zdV.new 36 w (.slice none 0 0) (.slice none 0 0);have hE0:Ext w (w.alloc (.cells #[.slice none 0 0,.slice none 0 0] 36)):=(Ext.refl w).alloc _;have Hw2:=Lib.hid hw2;have HB0:=Lib.hid hb0;have HE0:=Lib.hid hE0;clear hwh hw2 hb0 hE0 he;go_enter Tryz.func35,Tryz.ntmps35
 obtain ⟨W0,hW0⟩:∃ W0,W0=(w.alloc (.cells #[.slice none 0 0,.slice none 0 0] 36)).alloc (.cells #[.int .i64 2,.int .i64 3] 3):=⟨_,rfl⟩;have hpr:Sl W0 (.slice (some ⟨w.heap.size+1,0,none⟩) 2 2) (zak [2,3]):=by
  have:=zin (us:=[.int .i64 2,.int .i64 3]) (World.alloc_heap_new (w.alloc (.cells #[.slice none 0 0,.slice none 0 0] 36)) (.cells #[.int .i64 2,.int .i64 3] 3)) (by unfold maxLen;simp);rw [World.size_alloc] at this;rw [hW0];exact this
 have hxw:Ext (w.alloc (.cells #[.slice none 0 0,.slice none 0 0] 36)) W0:=by rw [hW0];exact (Ext.refl _).alloc _
 have hsz0:W0.heap.size=w.heap.size+1+1:=by rw [hW0,World.size_alloc,World.size_alloc]
 have hc1:=Hw2.out W0 (-3) (2) (HE0.out.trans hxw) (by decide) (by decide);rw [hsz0] at hc1;have Hc1:=Lib.hid hc1;clear hc1 hsz0;have Hpr:=Lib.hid hpr;have Hx0:=Lib.hid hxw;clear hpr hxw;go_wp2_with fail
 rw [← hW0];clear hW0;refine Hc1.out.mono ?_;rintro e w1 ⟨u1,rfl,ho1,hx1⟩;obtain ⟨a1,c1,rfl,_,_,_⟩:=ho1.rd.parts;rw [show (zk8 [-3,2]).length=2 from rfl] at *;have hy1:=((Ext.refl W0).alloc (.cells #[.int .i64 (-3),.int .i64 (2)] 3)).trans hx1;have Hx1:=Lib.hid (Hx0.out.trans hy1);have Hr1:=Lib.hid ho1.rd;have Hpr:=Lib.hid (hy1.sl Hpr.out);clear ho1 hx1 hy1;go_wp2_with fail
 refine (Hw2.out w1 (-6) (4) (HE0.out.trans Hx1.out) (by decide) (by decide)).mono ?_;rintro e w2 ⟨u2,rfl,ho2,hx2⟩;obtain ⟨a2,c2,rfl,_,_,_⟩:=ho2.rd.parts;rw [show (zk8 [-6,4]).length=2 from rfl] at *;have hy2:=((Ext.refl w1).alloc (.cells #[.int .i64 (-6),.int .i64 (4)] 3)).trans hx2;have Hx2:=Lib.hid (Hx1.out.trans hy2);have Hr2:=Lib.hid ho2.rd;have Hr1:=Lib.hid (hy2.rd Hr1.out);have Hpr:=Lib.hid (hy2.sl Hpr.out);clear ho2 hx2 hy2;go_wp2_with fail
 refine (Hw2.out w2 (2) (-1) (HE0.out.trans Hx2.out) (by decide) (by decide)).mono ?_;rintro e w3 ⟨u3,rfl,ho3,hx3⟩;obtain ⟨a3,c3,rfl,_,_,_⟩:=ho3.rd.parts;rw [show (zk8 [2,-1]).length=2 from rfl] at *;have hy3:=((Ext.refl w2).alloc (.cells #[.int .i64 (2),.int .i64 (-1)] 3)).trans hx3;have Hx3:=Lib.hid (Hx2.out.trans hy3);have Hr3:=Lib.hid ho3.rd;have Hr1:=Lib.hid (hy3.rd Hr1.out);have Hr2:=Lib.hid (hy3.rd Hr2.out);have Hpr:=Lib.hid (hy3.sl Hpr.out);clear ho3 hx3 hy3;go_wp2_with fail
 refine (Hw2.out w3 (-1) (1) (HE0.out.trans Hx3.out) (by decide) (by decide)).mono ?_;rintro e w4 ⟨u4,rfl,ho4,hx4⟩;obtain ⟨a4,c4,rfl,_,_,_⟩:=ho4.rd.parts;rw [show (zk8 [-1,1]).length=2 from rfl] at *;have hy4:=((Ext.refl w3).alloc (.cells #[.int .i64 (-1),.int .i64 (1)] 3)).trans hx4;have Hx4:=Lib.hid (Hx3.out.trans hy4);have Hr4:=Lib.hid ho4.rd;have Hr1:=Lib.hid (hy4.rd Hr1.out);have Hr2:=Lib.hid (hy4.rd Hr2.out);have Hr3:=Lib.hid (hy4.rd Hr3.out);have Hpr:=Lib.hid (hy4.sl Hpr.out);clear ho4 hx4 hy4;go_wp2_with fail
 refine (Hw2.out w4 (-4) (3) (HE0.out.trans Hx4.out) (by decide) (by decide)).mono ?_;rintro e w5 ⟨u5,rfl,ho5,hx5⟩;obtain ⟨a5,c5,rfl,_,_,_⟩:=ho5.rd.parts;rw [show (zk8 [-4,3]).length=2 from rfl] at *;have hy5:=((Ext.refl w4).alloc (.cells #[.int .i64 (-4),.int .i64 (3)] 3)).trans hx5;have Hx5:=Lib.hid (Hx4.out.trans hy5);have Hr5:=Lib.hid ho5.rd;have Hr1:=Lib.hid (hy5.rd Hr1.out);have Hr2:=Lib.hid (hy5.rd Hr2.out);have Hr3:=Lib.hid (hy5.rd Hr3.out);have Hr4:=Lib.hid (hy5.rd Hr4.out);have Hpr:=Lib.hid (hy5.sl Hpr.out);clear ho5 hx5 hy5;go_wp2_with fail
 refine (Hw2.out w5 (-7) (5) (HE0.out.trans Hx5.out) (by decide) (by decide)).mono ?_;rintro e w6 ⟨u6,rfl,ho6,hx6⟩;obtain ⟨a6,c6,rfl,_,_,_⟩:=ho6.rd.parts;rw [show (zk8 [-7,5]).length=2 from rfl] at *;have hy6:=((Ext.refl w5).alloc (.cells #[.int .i64 (-7),.int .i64 (5)] 3)).trans hx6;have Hx6:=Lib.hid (Hx5.out.trans hy6);have Hr6:=Lib.hid ho6.rd;have Hr1:=Lib.hid (hy6.rd Hr1.out);have Hr2:=Lib.hid (hy6.rd Hr2.out);have Hr3:=Lib.hid (hy6.rd Hr3.out);have Hr4:=Lib.hid (hy6.rd Hr4.out);have Hr5:=Lib.hid (hy6.rd Hr5.out);have Hpr:=Lib.hid (hy6.sl Hpr.out);clear ho6 hx6 hy6;go_wp2_with fail
 refine (Hw2.out w6 (1) (0) (HE0.out.trans Hx6.out) (by decide) (by decide)).mono ?_;rintro e w7 ⟨u7,rfl,ho7,hx7⟩;obtain ⟨a7,c7,rfl,_,_,_⟩:=ho7.rd.parts;rw [show (zk8 [1,0]).length=2 from rfl] at *;have hy7:=((Ext.refl w6).alloc (.cells #[.int .i64 (1),.int .i64 (0)] 3)).trans hx7;have Hx7:=Lib.hid (Hx6.out.trans hy7);have Hr7:=Lib.hid ho7.rd;have Hr1:=Lib.hid (hy7.rd Hr1.out);have Hr2:=Lib.hid (hy7.rd Hr2.out);have Hr3:=Lib.hid (hy7.rd Hr3.out);have Hr4:=Lib.hid (hy7.rd Hr4.out);have Hr5:=Lib.hid (hy7.rd Hr5.out);have Hr6:=Lib.hid (hy7.rd Hr6.out);have Hpr:=Lib.hid (hy7.sl Hpr.out);clear ho7 hx7 hy7;have hE9:Ext w7 (w7.alloc (.cells #[.slice a1 2 c1,.slice a2 2 c2,.slice a3 2 c3,.slice a4 2 c4,.slice a5 2 c5,.slice a6 2 c6,.slice a7 2 c7] 32)):=(Ext.refl w7).alloc _;have hn9:Sl (w7.alloc (.cells #[.slice a1 2 c1,.slice a2 2 c2,.slice a3 2 c3,.slice a4 2 c4,.slice a5 2 c5,.slice a6 2 c6,.slice a7 2 c7] 32)) (.slice (some ⟨w7.heap.size,0,none⟩) 7 7) [.slice a1 2 c1,.slice a2 2 c2,.slice a3 2 c3,.slice a4 2 c4,.slice a5 2 c5,.slice a6 2 c6,.slice a7 2 c7]:=zin (us:=[.slice a1 2 c1,.slice a2 2 c2,.slice a3 2 c3,.slice a4 2 c4,.slice a5 2 c5,.slice a6 2 c6,.slice a7 2 c7]) (World.alloc_heap_new w7 _) (by unfold maxLen;simp);have hk9:K0 36 w (w7.alloc (.cells #[.slice a1 2 c1,.slice a2 2 c2,.slice a3 2 c3,.slice a4 2 c4,.slice a5 2 c5,.slice a6 2 c6,.slice a7 2 c7] 32)) w.heap.size:=⟨(HE0.out.trans Hx7.out).trans hE9,_,_,HB0.out.ext (Hx7.out.trans hE9)⟩;have hb9:=HB0.out.ext (Hx7.out.trans hE9);have k0:=hk9.res.c0;have k1:=hk9.res.c1;have z0:=hk9.res.fz 0;have z1:=hk9.res.fz 1;obtain ⟨hb5,hx5⟩:=hk9.fin (Nat.le_refl _) (.slice (some ⟨w.heap.size+1,0,none⟩) 2 2) (.slice (some ⟨w7.heap.size,0,none⟩) 7 7);have Hb5:=Lib.hid hb5;have Hx5:=Lib.hid hx5;have HE9:=Lib.hid hE9;have Hn9:=Lib.hid hn9;have Hb9:=Lib.hid hb9;clear hb5 hx5 hk9 hE9 hn9 hb9;go_wp2_with fail
 have hd0:=Hb5.out.c0;have hd1:=Hb5.out.c1;have hne:w7.heap.size ≠ w.heap.size:=by
  have:=(HE0.out.trans Hx7.out).size;have:=HB0.out.lt;have:=Hx7.out.size;omega
 have hp5:=zgw (HE9.out.sl Hpr.out) Hb9.out (by simp) (by simp) (.slice (some ⟨w.heap.size+1,0,none⟩) 2 2) (.slice (some ⟨w7.heap.size,0,none⟩) 7 7);have hn5:=zqb (zqb Hn9.out hne 0 (.slice (some ⟨w.heap.size+1,0,none⟩) 2 2)) hne 1 (.slice (some ⟨w7.heap.size,0,none⟩) 7 7);have hrp:=fun s xs (h:Rd w7 s xs)=>zqc (HE9.out.rd h) Hb9.out (by simp) (by simp) (.slice (some ⟨w.heap.size+1,0,none⟩) 2 2) (.slice (some ⟨w7.heap.size,0,none⟩) 7 7);exact bodyPost_ret (v:=.agg #[.slice (some ⟨w.heap.size+1,0,none⟩) 2 2,.slice (some ⟨w7.heap.size,0,none⟩) 7 7]) (by simp [results,Tryz.results35,go_sem,hd0,hd1]) rfl ⟨_,[⟨zk8 [-3,2],.slice a1 2 c1,rfl⟩,⟨zk8 [-6,4],.slice a2 2 c2,rfl⟩,⟨zk8 [2,-1],.slice a3 2 c3,rfl⟩,⟨zk8 [-1,1],.slice a4 2 c4,rfl⟩,⟨zk8 [-4,3],.slice a5 2 c5,rfl⟩,⟨zk8 [-7,5],.slice a6 2 c6,rfl⟩,⟨zk8 [1,0],.slice a7 2 c7,rfl⟩],rfl,⟨_,_,rfl,hp5,hn5,by
  intro r hr;simp only [List.mem_cons,List.not_mem_nil,or_false] at hr;rcases hr with rfl | rfl | rfl | rfl | rfl | rfl | rfl
  ·exact hrp _ _ Hr1.out
  ·exact hrp _ _ Hr2.out
  ·exact hrp _ _ Hr3.out
  ·exact hrp _ _ Hr4.out
  ·exact hrp _ _ Hr5.out
  ·exact hrp _ _ Hr6.out
  ·exact hrp _ _ Hr7.out⟩,rfl,Hx5.out⟩
end
end Go.Proofs.YtbkfhacmekbniaaGreatDoor
