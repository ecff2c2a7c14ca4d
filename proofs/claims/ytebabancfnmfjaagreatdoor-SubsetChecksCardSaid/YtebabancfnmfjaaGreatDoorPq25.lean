/- Walks: class.(*view).differences, compare. Plain: the text of a size, which tells it. Walks: size.Text. -/
import Derived.Test.YtebabancfnmfjaaGreatDoorPq20
import Derived.Test.YtebabancfnmfjaaGreatDoorPq24
import Derived.Test.YtebabancfnmfjaaGreatDoorPq06
import Derived.Lib.Join
import Derived.Test.YtebabancfnmfjaaGreatDoorPq12
import Derived.Test.YtebabancfnmfjaaGreatDoorShelfG
set_option maxRecDepth 100000
set_option maxHeartbeats 800000
namespace Go.Proofs.YtebabancfnmfjaaGreatDoor
section
open Go.RowKit Go.Lib Go.Shelf
attribute [local go_sem] Oper.semAt_some
def dfs (p:List Int)(N:List (List Rat))(d:Int):List (List Rat):=(List.range N.length).map fun (i:Nat)=>iv p N (i:Int) d
theorem zls (p:List Int)(N:List (List Rat))(d:Int):(dfs p N d).length=N.length:=by unfold dfs;simp
theorem zlu {p:List Int}{N:List (List Rat)}{d:Int}{i:Nat}(hi:i<N.length):(dfs p N d)[i]?=some (iv p N (i:Int) d):=by
 unfold dfs;rw [List.getElem?_map,List.getElem?_range hi];rfl
theorem zlv {w:World}{av:Option Addr}{nl cv:Nat}{p:List Int}{N:List (List Rat)}{nts:List Qw}(h:RdM w (.slice av nl cv) nts)(hm:nts.map Qw.x=zka p N)(hl:∀ k:Int,(nt p N k).length=p.length){i:Nat}(hi:i<2 * N.length+1) :
  ∃ b off ai ci,av=some ⟨b,off,none⟩∧w.cell? ⟨b,off+i,none⟩=some (.slice ai p.length ci)∧Rd w (.slice ai p.length ci) (nt p N (i:Int)):=by
 obtain ⟨a,cap,e,_,_,hc⟩:=h.1.parts;injection e with e1 e2 e3;subst e1;have hx:=zkc (p:=p) (N:=N) hi;rw [← hm,List.getElem?_map] at hx;obtain ⟨r,hr,hrx⟩:=Option.map_eq_some_iff.1 hx;have hrd:=h.2 r (List.mem_of_getElem? hr);rw [hrx] at hrd;obtain ⟨ai,ci,hu,_,_,_⟩:=hrd.parts;rw [hl] at hu;obtain ⟨b,off,rfl,hcell⟩:=hc i r.u (by unfold qwc;rw [List.getElem?_map,hr];rfl);rw [hu] at hcell hrd;exact ⟨b,off,ai,ci,rfl,hcell,hrd⟩
theorem zlw (u:Value)(p:List Int)(rs:List Qw)(d:Nat)(w:World)(he:Env w)(hu:Vw w u p rs)(h:Wc p (rs.map Qw.x))(hd:d≤rs.length) :
  Calls Tryz.prog 102 #[u,.int .i64 (d:Int)] w fun e w'=>∃ v out,e=.returned (.tuple #[v,.int .i64 0])∧QwM w' w.heap.size w.heap.size v out∧out.map Qw.x=dfs p (rs.map Qw.x) (d:Int)∧Ext w w':=by
 obtain ⟨j0,hj,hy0,hy1,hy2⟩:=info_parts zfy;have hL:(rs.map Qw.x).length=rs.length:=List.length_map ..;have hfew:=h.few;rw [hL] at hfew;have hpe:zfb p=0:=by rcases h.wd.pr with ⟨e,_⟩ | ⟨e,_⟩ <;> rw [e] <;> decide
 obtain ⟨b,vp,vn,vs,nts,rfl,hb,hp,hn,hs,hm⟩:=hu;have hsb:=fun (i:Nat)(hi:i<rs.length) W va vb (hE:Ext w W)(ha:Rd W va (nt p (rs.map Qw.x) (((i+d:Nat)):Int)))(hbb:Rd W vb (nt p (rs.map Qw.x) (i:Int)))=>zhu vp va vb p _ _ W (he.ext hE) (hE.sl hp) ha hbb hpe (h.wd.ntlen _) (h.wd.ntlen _) (h.wd.nt_quick _ (by omega) (by omega)).1 (h.wd.nt_quick _ (by omega) (by omega)).1 (h.wd.nt_sub_quick _ _ (by omega) (by omega) (by omega) (by omega)).1;have hiv:∀ i:Nat,zew (nt p (rs.map Qw.x) ((i+d:Nat):Int)) (nt p (rs.map Qw.x) (i:Int))=iv p (rs.map Qw.x) (i:Int) (d:Int):=fun i=>by unfold iv;rw [show ((i+d:Nat):Int)=(i:Int)+(d:Int) by omega]
 have hmd:∀ i,i<rs.length→(dfs p (rs.map Qw.x) (d:Int)).take (i+1)=(dfs p (rs.map Qw.x) (d:Int)).take i++[iv p (rs.map Qw.x) (i:Int) (d:Int)]:=fun i hi=>by
  have:=zlu (p:=p) (N:=rs.map Qw.x) (d:=(d:Int)) (i:=i) (by rw [hL];exact hi);rw [List.take_add_one,this];rfl
 have hmf:(dfs p (rs.map Qw.x) (d:Int)).take rs.length=dfs p (rs.map Qw.x) (d:Int):=List.take_of_length_le (by rw [zls,hL];exact Nat.le_refl _);have hml:(dfs p (rs.map Qw.x) (d:Int)).length=rs.length:=by rw [zls,hL]
 have hat:=fun (i:Nat)(hi:i<2 * rs.length+1)=>fun av nl cv (hv:RdM w (.slice av nl cv) nts)=>zlv (i:=i) hv hm (fun k=>h.wd.ntlen k) (by rw [hL];exact hi);obtain ⟨ap,cp,rfl,_,_,_⟩:=hp.parts;obtain ⟨an,cn,rfl,_,_,_⟩:=hn.1.parts;obtain ⟨av,cv,rfl,_,hv1,_⟩:=hs.1.parts;have hnts:nts.length=2 * rs.length+1:=by
  have:=congrArg List.length hm;rwa [List.length_map,zkb,hL] at this
 rw [zar,zfz,zfz,hnts] at hb;rw [zfz,hnts] at hs;rw [zfz] at hn;rw [zar] at hp hsb;have hat2:=fun (i:Nat)(hi:i<2 * rs.length+1)=>hat i hi _ _ _ hs;clear hat;generalize hnn:rs.length=n at *;obtain ⟨M,hM⟩:∃ M,M=2 * n+1:=⟨_,rfl⟩;rw [← hM] at hb hat2 hnts;have HM:=hid hM;clear hM;have Hsb:=hid hsb;have Hiv:=hid hiv;have Hmd:=hid hmd;have Hmf:=hid hmf;have Hml:=hid hml;have Hb:=hid hb;have Hat:=hid hat2;clear hsb hiv hmd hmf hml hat2 hm hs hn hp h he hpe hL hnts hnn;have q0:=hb.c0;have q1:=hb.c1;have q2:=hb.c2;clear hb;go_enter Tryz.func102,Tryz.ntmps102
 go_wp2_with fail
 go_loopw [6,16] (fun v6 v16 wr=>∃ i:Nat,v16=.int .i64 (i:Int)∧i≤n∧QsR w ((dfs p (rs.map Qw.x) (d:Int)).take i) v6 wr) (fun _ v16 _=>n - (zal v16).toNat)
 case atStart=>exact ⟨0,rfl,Nat.zero_le _,[],QwM.nil _ _ _,rfl,Ext.refl _⟩
 case round =>
  obtain ⟨i,rfl,hi,⟨out,hq,hm,hE⟩⟩:=hrel;have hol:out.length=i:=by
   have:=congrArg List.length hm;rw [List.length_map,List.length_take,Hml.out] at this;omega
  obtain ⟨a6,c6,rfl⟩:=zfi hq.1;by_cases hin:i<n
  ·have hik:(i:Int)<(n:Int):=(by omega);obtain ⟨j,hjj⟩:∃ j,j=i+d:=⟨_,rfl⟩;obtain ⟨bv,ov,a1,c1,rfl,x1,hr1⟩:=Hat.out j (by have:=HM.out;omega);obtain ⟨_,_,a2,c2,e2,x2,hr2⟩:=Hat.out i (by have:=HM.out;omega)
   cases e2
   have hwi:IntKind.i64.wrap ((i:Int)+(d:Int))=(j:Int):=(by rw [IntWalk.i64_in _ (by omega)];omega);have hid0:(0:Int)≤(j:Int):=(by omega);have hid1:(j:Int)<(M:Int):=(by have:=HM.out;omega);have hi1:(i:Int)<(M:Int):=(by have:=HM.out;omega);have hi0:(0:Int)≤(i:Int):=(by omega);have hS:∀ W,Ext w W→Ext w W∧W.cell? ⟨b,0,none⟩=some (.slice ap p.length cp)∧W.cell? ⟨b,2,none⟩=some (.slice (some ⟨bv,ov,none⟩) M cv)∧W.cell? ⟨bv,ov+j,none⟩=some (.slice a1 p.length c1)∧W.cell? ⟨bv,ov+i,none⟩=some (.slice a2 p.length c2):=fun W hW=>⟨hW,(Hb.out.ext hW).c0,(Hb.out.ext hW).c2,hW.cell x1,hW.cell x2⟩;rw [hjj] at hr1;have hsb:=Hsb.out i hin wr.drew _ _ hE.drew (hE.drew.rd hr1) (hE.drew.rd hr2);obtain ⟨_,d0,d2,d3,d4⟩:=hS _ hE.drew;have hqo:=hq.1;rw [hol] at hqo;have HS:=hid hS;have HSb:=hid hsb;have Hq:=hid hq;have Hm:=hid hm;have HE:=hid hE;have Hol:=hid hol;have Hqo:=hid hqo;clear hS hsb hq hm hE hol hqo hr1 hr2 x1 x2 hjj;rw [Hol.out];go_wp2_with fail
   go_region_held3 (fun w'=>Ext w w'∧w'.cell? ⟨b,0,none⟩=some (.slice ap p.length cp)∧w'.cell? ⟨b,2,none⟩=some (.slice (some ⟨bv,ov,none⟩) M cv)∧w'.cell? ⟨bv,ov+j,none⟩=some (.slice a1 p.length c1)∧w'.cell? ⟨bv,ov+i,none⟩=some (.slice a2 p.length c2))
    (first | (with_reducible assumption) | exact HS.out _ HE.out.drew | exact HS.out _ (HE.out.drew.trans HxA.out))
    (first
     | (go_at_call 38
        refine HSb.out.mono ?_
        rintro e9 VA ⟨g9,rfl,ho9,hxa⟩
        have HxA:=hid hxa
        have Ho9:=hid ho9
        clear hxa ho9))
   have hxab:=(Ext.refl wr).drew.trans HxA.out;have hq3:=hxab.qwM Hq.out;have hqo:=hxab.own Hqo.out;have hE3:=HE.out.trans hxab;have hbase:=hE3.size;have ho3:=Ho9.out.mono HE.out.drew.size;rw [Hiv.out i] at ho3;have hm3:i+1≤maxLen:=(by unfold maxLen;omega);have hm4:(i+1) * 24≤140737488355328:=(by omega);have Hq3:=hid hq3;have HE3:=hid hE3;have Ho3:=hid ho3;clear hq3 hE3 hxab ho3 d0 d2 d3 d4 q0 q2;go_wp2_with (at_builtin;refine wpList_append_own _ rfl _ _ 26 rfl w.heap.size 41 j0 (.slice none 0 0) 1 24 Tryz.underlying26 hj hy0 hy1 hy2 rfl (by decide) _ _ _ rfl (hqo.alloc _) ⟨VA.heap.size,0,none⟩ 1 1 [.slice (some ⟨g9,0,none⟩) p.length p.length] rfl rfl (cell_one_new _ _ _) (by simp [Value.oneCell']) hm3 hm4 (by rw [World.size_alloc];omega) ?_;intro v7 V7 hown7 hgrow7 _)
   go_roundw
   case rel=>exact ⟨i+1,by go_num,by omega,by rw [Hmd.out i hin];exact QsR.more HE3.out Hq3.out Hm.out Ho3.out (by rw [Hol.out];exact hown7) (by rw [Hol.out];exact hgrow7)⟩
   case measure=>simp [zal];omega
  ·obtain rfl:i=n:=by omega
   have hik:¬ (i:Int)<(i:Int):=(by omega);have hm2:=hm.trans Hmf.out;rw [hol];have Hq:=hid hq;have HE:=hid hE;have Hm:=hid hm2;have Hol:=hid hol;clear hq hE hm hm2 hol q0 q2;go_wp2_with fail
   exact bodyPost_ret (v:=.tuple #[.slice a6 i c6,.int .i64 0]) (by simp [results,Tryz.results102,go_sem]) rfl ⟨_,rfl,out,by have:=Hq.out;rw [Hol.out] at this;exact this,Hm.out,HE.out⟩
theorem zlx (u va vb:Value)(p:List Int)(rs:List Qw)(x y:List Rat)(w:World)(he:Env w)(hu:Vw w u p rs)(hp:Pr p p.length)(ha:Rd w va x)(hb:Rd w vb y)(hx:x.length=p.length)(hy:y.length=p.length)(hxf:∀ q∈x,Ft 30 q)(hyf:∀ q∈y,Ft 30 q)(hq:zh0 p (zew x y)) :
  Calls Tryz.prog 101 #[u,va,vb] w fun e w'=>e=.returned (.int .i64 (ze5 (tms p (dn (zew x y)) (zew x y))))∧Ext w w':=by
 have hpe:zfb p=0∧p.length≤100:=by rcases hp with ⟨e,_⟩ | ⟨e,_⟩ <;> rw [e] <;> decide
 obtain ⟨b,vp,vn,vs,nts,rfl,hbx,hpp,_,_,_⟩:=hu;have hc:=zh2 vp va vb p x y w he hpp ha hb hpe.1 hpe.2 hx hy hxf hyf hq;obtain ⟨ap,cp,rfl,_,_,_⟩:=hpp.parts;obtain ⟨a1,c1,rfl,_,_,_⟩:=ha.parts;obtain ⟨a2,c2,rfl,_,_,_⟩:=hb.parts;generalize ze5 (tms p (dn (zew x y)) (zew x y))=z at *;have q0:=hbx.c0;have Hc:=hid hc;clear hc hbx hpp ha hb hx hy hxf hyf hq hpe hp he;go_enter Tryz.func101,Tryz.ntmps101
 go_wp2_with fail
 refine Hc.out.mono ?_;rintro e w2 ⟨rfl,hx2⟩;have Hx2:=hid hx2;clear hx2;go_wp2_with fail
 go_ret
 exact ⟨rfl,Hx2.out⟩
end
section
open Go.RowKit Go.Lib
def zly (b:UInt8):Prop:=b=45∨(48≤b.toNat∧b.toNat≤57)
def frL (r:Rat):List UInt8:=if r.den=1 then itoa r.num else itoa r.num++47::itoa (r.den:Int)
theorem zlz (r:Rat):frT r=⟨(frL r).toArray⟩:=by
 unfold frT frL;split
 ·rfl
 ·unfold I;apply ByteArray.ext;apply Array.ext';simp
def sfx (r:Rat):List UInt8:=if r=1 then [] else if r.den=1∧0<r.num then 94::frL r else 94::40::(frL r++[41])
def itm (b:List UInt8)(r:Rat):Option (List UInt8):=if r.num=0 then none else some (b++sfx r)
def zl0 (p:List Int)(x:List Rat):List (List UInt8):=(p.zip x).filterMap fun e=>itm (itoa e.1) e.2
def txt (p:List Int)(x:List Rat):List UInt8:=if zl0 p x=[] then [49] else Lib.join (zl0 p x) [32]
theorem zl1 {c:UInt8}:∀ {a b x y:List UInt8},(∀ e∈a,e ≠ c)→(∀ e∈b,e ≠ c)→a++c::x=b++c::y→a=b∧x=y
 | [],[],_,_,_,_,h=>⟨rfl,by simpa using h⟩
 | [],e::b,_,_,_,hb,h=>by
  simp only [List.nil_append,List.cons_append,List.cons.injEq] at h;exact absurd h.1.symm (hb e (List.mem_cons_self ..))
 | e::a,[],_,_,ha,_,h=>by
  simp only [List.nil_append,List.cons_append,List.cons.injEq] at h;exact absurd h.1 (ha e (List.mem_cons_self ..))
 | e::a,f::b,_,_,ha,hb,h=>by
  simp only [List.cons_append,List.cons.injEq] at h;have:=zl1 (fun z hz=>ha z (List.mem_cons_of_mem _ hz)) (fun z hz=>hb z (List.mem_cons_of_mem _ hz)) h.2;exact ⟨by rw [h.1,this.1],this.2⟩
theorem zl2 {c:UInt8}{a b x:List UInt8}(ha:∀ e∈b,e ≠ c)(h:a++c::x=b):False:=ha c (by rw [← h];simp) rfl
theorem zl3 (a b:List UInt8)(l:List (List UInt8)):Lib.join (a::b::l) [32]=a++32::Lib.join (b::l) [32]:=by
 unfold Lib.join;rw [List.intercalate_cons_cons];simp
theorem zl4 (a:List UInt8):Lib.join [a] [32]=a:=by
 unfold Lib.join;exact List.intercalate_singleton
theorem zl5 : ∀ {l m:List (List UInt8)},(∀ x∈l,∀ e∈x,e ≠ 32)→(∀ x∈m,∀ e∈x,e ≠ 32)→l ≠ []→m ≠ []→Lib.join l [32]=Lib.join m [32]→l=m
 | [],_,_,_,h,_,_=>absurd rfl h
 | _,[],_,_,_,h,_=>absurd rfl h
 | [a],[b],_,_,_,_,h=>by rw [zl4,zl4] at h;rw [h]
 | [a],b::c::m,ha,_,_,_,h=>by
  rw [zl4,zl3] at h;exact (zl2 (ha a (List.mem_cons_self ..)) h.symm).elim
 | a::b::l,[c],_,hc,_,_,h=>by
  rw [zl4,zl3] at h;exact (zl2 (hc c (List.mem_cons_self ..)) h).elim
 | a::b::l,c::d::m,ha,hc,_,_,h=>by
  rw [zl3,zl3] at h;obtain ⟨h1,h2⟩:=zl1 (ha a (List.mem_cons_self ..)) (hc c (List.mem_cons_self ..)) h;rw [h1,zl5 (fun x hx=>ha x (List.mem_cons_of_mem _ hx)) (fun x hx=>hc x (List.mem_cons_of_mem _ hx)) (by simp) (by simp) h2]
theorem zl6 (z:Int):∀ b∈itoa z,zly b:=by
 intro b hb;unfold itoa at hb;split at hb
 ·rcases List.mem_cons.1 hb with e | e
  ·exact .inl e
  ·exact .inr (Dec.dig_dec _ b e)
 ·exact .inr (Dec.dig_dec _ b hb)
theorem zl7 (r:Rat):∀ b∈frL r,zly b∨b=47:=by
 unfold frL;intro b hb;split at hb
 ·exact .inl (zl6 _ b hb)
 ·rcases List.mem_append.1 hb with h | h
  ·exact .inl (zl6 _ b h)
  ·rcases List.mem_cons.1 h with h | h
   ·exact .inr h
   ·exact .inl (zl6 _ b h)
theorem zl8 {b:UInt8}(h:zly b):b ≠ 47∧b ≠ 32∧b ≠ 40∧b ≠ 41:=by
 rcases h with rfl | h
 ·decide
 ·refine ⟨?_,?_,?_,?_⟩ <;> (rintro rfl;revert h;decide)
theorem zl9 {a b:Rat}(h:frL a=frL b):a=b:=by
 unfold frL at h;have na:∀ z:Int,∀ e∈itoa z,e ≠ 47:=fun z e he=>(zl8 (zl6 z e he)).1;split at h
 ·rename_i h1;split at h
  ·rename_i h2;exact Rat.ext (zbx h) (by rw [h1,h2])
  ·exact (zl2 (na _) h.symm).elim
 ·split at h
  ·exact (zl2 (na _) h).elim
  ·obtain ⟨h1,h2⟩:=zl1 (na _) (na _) h;exact Rat.ext (zbx h1) (by have:=zbx h2;omega)
theorem zlA {a b:Rat}(h:sfx a=sfx b):a=b:=by
 have n40:∀ r:Rat,∀ l,frL r ≠ 40::l:=fun r l e=>by
  have:=zl7 r 40 (by rw [e];exact List.mem_cons_self ..);rcases this with g | g
  ·exact (zl8 g).2.2.1 rfl
  ·exact absurd g (by decide)
 unfold sfx at h;split at h
 ·rename_i h1;split at h
  ·rename_i h2;rw [h1,h2]
  ·split at h <;> simp at h
 ·split at h
  ·split at h
   ·simp at h
   ·split at h
    ·exact zl9 (by simpa using h)
    ·simp only [List.cons.injEq,true_and] at h;exact absurd h (n40 _ _)
  ·split at h
   ·simp at h
   ·split at h
    ·simp only [List.cons.injEq,true_and] at h;exact absurd h.symm (n40 _ _)
    ·simp only [List.cons.injEq,true_and,List.append_cancel_right_eq] at h;exact zl9 h
theorem zlB (r:Rat):∀ b∈sfx r,b ≠ 32:=by
 have hf:∀ b∈frL r,b ≠ 32:=fun b hb=>by
  rcases zl7 r b hb with g | g
  ·exact (zl8 g).2.1
  ·rw [g];decide
 intro b hb;unfold sfx at hb;split at hb
 ·cases hb
 ·split at hb
  ·rcases List.mem_cons.1 hb with g | g
   ·rw [g];decide
   ·exact hf b g
  ·rcases List.mem_cons.1 hb with g | g
   ·rw [g];decide
   ·rcases List.mem_cons.1 g with g | g
    ·rw [g];decide
    ·rcases List.mem_append.1 g with g | g
     ·exact hf b g
     ·rw [List.mem_singleton.1 g];decide
def zlC (bs:List UInt8)(x:List Rat):List (List UInt8):=(bs.zip x).filterMap fun e=>itm [e.1] e.2
theorem zlD (b:UInt8)(bs:List UInt8)(r:Rat)(x:List Rat):zlC (b::bs) (r::x)=(match itm [b] r with | none=>zlC bs x | some z=>z::zlC bs x):=by
 unfold zlC;rw [List.zip_cons_cons,List.filterMap_cons];split <;> rename_i h <;> rw [h]
theorem zlE : ∀ {bs:List UInt8}{x:List Rat}{z:List UInt8},z∈zlC bs x→∃ b l,z=b::l∧b∈bs
 | [],_,_,h=>by simp [zlC] at h
 | _::_,[],_,h=>by simp [zlC] at h
 | b::bs,r::x,z,h=>by
  rw [zlD] at h;have key:z∈zlC bs x→∃ c l,z=c::l∧c∈b::bs:=fun g=>by
   obtain ⟨c,l,e,hc⟩:=zlE g;exact ⟨c,l,e,List.mem_cons_of_mem _ hc⟩
  unfold itm at h;split at h
  ·exact key h
  ·rename_i y hy;split at hy
   ·cases hy
   ·cases hy
    rcases List.mem_cons.1 h with g | g
    ·exact ⟨b,sfx r,by rw [g];rfl,List.mem_cons_self ..⟩
    ·exact key g
theorem zlF : ∀ {bs:List UInt8}{x y:List Rat},bs.Nodup→x.length=bs.length→y.length=bs.length→zlC bs x=zlC bs y→x=y
 | [],[],[],_,_,_,_=>rfl
 | b::bs,r::x,s::y,hn,hx,hy,h=>by
  rw [List.nodup_cons] at hn;have ih:=zlF (bs:=bs) (x:=x) (y:=y) hn.2 (by simpa using hx) (by simpa using hy);rw [zlD,zlD] at h;have out:∀ (z:List UInt8)(l:List (List UInt8))(w:List Rat),zlC bs w=([b]++z)::l→False:=fun z l w e=>by
   obtain ⟨c,m,e2,hc⟩:=zlE (bs:=bs) (x:=w) (z:=[b]++z) (by rw [e];exact List.mem_cons_self ..)
   cases e2
   exact hn.1 hc
  unfold itm at h;by_cases h1:r.num=0
  ·by_cases h2:s.num=0
   ·rw [if_pos h1,if_pos h2] at h;rw [ih h,Rat.num_eq_zero.1 h1,Rat.num_eq_zero.1 h2]
   ·rw [if_pos h1,if_neg h2] at h;exact (out _ _ _ h).elim
  ·by_cases h2:s.num=0
   ·rw [if_neg h1,if_pos h2] at h;exact (out _ _ _ h.symm).elim
   ·rw [if_neg h1,if_neg h2] at h;simp only [List.cons.injEq,List.cons_append,List.nil_append,true_and] at h;rw [zlA h.1,ih h.2]
theorem zlG : ∀ {p:List Int}{bs:List UInt8},p.map itoa=bs.map (fun b=>[b])→∀ x,zl0 p x=zlC bs x
 | [],[],_,_=>rfl
 | [],_::_,h,_=>by cases h
 | _::_,[],h,_=>by cases h
 | q::p,b::bs,h,x=>by
  cases x with
  | nil=>rfl
  | cons r x =>
   simp only [List.map_cons,List.cons.injEq] at h
   have ih:=zlG h.2 x
   unfold zl0 zlC at ih ⊢
   rw [List.zip_cons_cons,List.zip_cons_cons,List.filterMap_cons,List.filterMap_cons]
   dsimp only
   rw [h.1,ih]
theorem zlH {p:List Int}(hp:p=[2,3]∨p=[2,3,5]):∃ bs:List UInt8,bs.Nodup∧bs.length=p.length∧(∀ x,zl0 p x=zlC bs x)∧∀ b∈bs,b ≠ 32∧b ≠ 49:=by
 have e2:itoa 2=[50]:=by unfold itoa;rw [if_neg (by omega),decDigits_one (by decide)];rfl
 have e3:itoa 3=[51]:=by unfold itoa;rw [if_neg (by omega),decDigits_one (by decide)];rfl
 have e5:itoa 5=[53]:=by unfold itoa;rw [if_neg (by omega),decDigits_one (by decide)];rfl
 rcases hp with rfl | rfl
 ·exact ⟨[50,51],by decide,rfl,zlG (by rw [List.map_cons,List.map_cons,e2,e3];rfl),by decide⟩
 ·exact ⟨[50,51,53],by decide,rfl,zlG (by rw [List.map_cons,List.map_cons,List.map_cons,e2,e3,e5];rfl),by decide⟩
theorem zlI {bs:List UInt8}(hb:∀ b∈bs,b ≠ 32∧b ≠ 49):∀ {x:List Rat},∀ z∈zlC bs x,∀ e∈z,e ≠ 32:=by
 induction bs with
 | nil=>intro x z h;simp [zlC] at h
 | cons b bs ih =>
  intro x z h
  cases x with
  | nil=>simp [zlC] at h
  | cons r x =>
   have ih2:=fun z hz=>ih (fun c hc=>hb c (List.mem_cons_of_mem _ hc)) (x:=x) z hz
   rw [zlD] at h
   unfold itm at h
   split at h
   ·exact ih2 z h
   ·rename_i y hy
    split at hy
    ·cases hy
    ·cases hy
     rcases List.mem_cons.1 h with g | g
     ·intro e he
      rw [g] at he
      rcases List.mem_cons.1 he with k | k
      ·rw [k];exact (hb b (List.mem_cons_self ..)).1
      ·exact zlB r e k
     ·exact ih2 z g
theorem zlJ {b:UInt8}{l:List UInt8}{m:List (List UInt8)}:∃ t,Lib.join ((b::l)::m) [32]=b::t:=by
 cases m with
 | nil=>exact ⟨l,zl4 _⟩
 | cons c m=>exact ⟨_,zl3 _ _ _⟩
theorem zlK {p:List Int}{x y:List Rat}(hp:p=[2,3]∨p=[2,3,5])(hx:x.length=p.length)(hy:y.length=p.length)(h:txt p x=txt p y):x=y:=by
 obtain ⟨bs,hn,hl,he,hb⟩:=zlH hp;unfold txt at h;rw [he x,he y] at h;have out:∀ w:List Rat,zlC bs w ≠ []→[49]=Lib.join (zlC bs w) [32]→False:=fun w h1 h2=>by
  cases hw:zlC bs w with
  | nil=>exact h1 hw
  | cons z m =>
   obtain ⟨b,l,e,hbm⟩:=zlE (bs:=bs) (x:=w) (z:=z) (by rw [hw];exact List.mem_cons_self ..)
   rw [hw,e] at h2
   obtain ⟨t,ht⟩:=zlJ (b:=b) (l:=l) (m:=m)
   rw [ht] at h2
   cases h2
   exact (hb _ hbm).2 rfl
 by_cases h1:zlC bs x=[]
 ·by_cases h2:zlC bs y=[]
  ·exact zlF hn (hx.trans hl.symm) (hy.trans hl.symm) (h1.trans h2.symm)
  ·rw [if_pos h1,if_neg h2] at h;exact (out y h2 h).elim
 ·by_cases h2:zlC bs y=[]
  ·rw [if_neg h1,if_pos h2] at h;exact (out x h1 h.symm).elim
  ·rw [if_neg h1,if_neg h2] at h;exact zlF hn (hx.trans hl.symm) (hy.trans hl.symm) (zl5 (fun z hz=>zlI hb z hz) (fun z hz=>zlI hb z hz) h1 h2 h)
end
section
open Go.RowKit Go.Lib Go.Shelf
attribute [local go_sem] Oper.semAt_some
theorem zlL {p:List Int}{x:List Rat}{k:Nat}{a:Int}{r:Rat}(hp:p[k]?=some a)(hx:x[k]?=some r) :
  zl0 (p.take (k+1)) (x.take (k+1))=zl0 (p.take k) (x.take k)++(itm (itoa a) r).toList:=by
 have e:∀ n,(p.take n).zip (x.take n)=(p.zip x).take n:=fun n=>by simp [List.zip_eq_zipWith,List.take_zipWith]
 have hz:(p.zip x)[k]?=some (a,r):=by
  rw [List.getElem?_zip_eq_some];exact ⟨hp,hx⟩
 unfold zl0;rw [e,e,List.take_add_one,hz,List.filterMap_append];congr 1
def svs (l:List (List UInt8)):List Value:=l.map fun s=>.string ⟨s.toArray⟩
def zlM (w:World)(B:Nat)(v:Value)(l:List (List UInt8)):Prop:=w.ownsRow B 9 1 v l.length (svs l)
theorem zlN : (Tryz.prog.info? 9).map (fun i=>(i.zero,i.size,i.bytes))=some (some (.string ByteArray.empty),1,16):=by kernel_rfl
theorem zlM.more {w W7:World}{v7:Value}{l:List (List UInt8)}{z:List UInt8}{n:Nat}(hn:l.length=n)(ho:W7.ownsRow w.heap.size 9 1 v7 (n+1) (svs l++[.string ⟨z.toArray⟩])):zlM W7 w.heap.size v7 (l++[z]):=by
 unfold zlM;rw [List.length_append,hn];unfold svs at ho ⊢;rw [List.map_append];exact ho
theorem zlO {a:Int}{r:Rat}{z:List UInt8}(ha:Fit a)(hr:Ft 30 r)(h:itm (itoa a) r=some z):z.length≤1300000:=by
 have l1:=zbN a ha;have l2:=zbN r.num (hr.num (by omega));have l3:=zbN (r.den:Int) (hr.den (by omega));have e:∀ z:Int,(I z).size=(itoa z).length:=fun z=>by show (itoa z).toArray.size=_;simp
 rw [e] at l1 l2 l3;unfold itm at h;split at h
 ·cases h
 ·cases h
  have lf:(frL r).length≤800010:=by
   unfold frL;split
   ·omega
   ·simp only [List.length_append,List.length_cons];omega
  rw [List.length_append];unfold sfx;split
  ·simp only [List.length_nil];omega
  ·split
   ·simp only [List.length_cons];omega
   ·simp only [List.length_cons,List.length_append,List.length_nil];omega
theorem zlP {z:Int}{r:Rat}(h:r=1):I z=⟨(itoa z++sfx r).toArray⟩:=by
 unfold sfx;rw [if_pos h,List.append_nil];rfl
theorem zlQ {z:Int}{r:Rat}(h:r ≠ 1)(hd:r.den=1∧0<r.num):I z++(⟨#[94]⟩++frT r)=⟨(itoa z++sfx r).toArray⟩:=by
 unfold sfx;rw [if_neg h,if_pos hd,zlz];unfold I;apply ByteArray.ext;apply Array.ext';simp
theorem zlR {z:Int}{r:Rat}(h:r ≠ 1)(hd:¬ (r.den=1∧0<r.num)):I z++(⟨#[94,40]⟩++frT r++⟨#[41]⟩)=⟨(itoa z++sfx r).toArray⟩:=by
 unfold sfx;rw [if_neg h,if_neg hd,zlz];unfold I;apply ByteArray.ext;apply Array.ext';simp
theorem zlS {r:Rat}:r=1 ↔ r.num=1∧(r.den:Int)=1 :=
 ⟨fun h=>by rw [h];exact ⟨rfl,rfl⟩,fun h=>Rat.ext h.1 (by rw [show r.den=1 by omega];rfl)⟩
theorem zlT {b:List UInt8}{r:Rat}(h:r.num ≠ 0):itm b r=some (b++sfx r):=by unfold itm;rw [if_neg h]
theorem zlU {z:Int}(h0:0≤z)(h1:z≤5):Fit z:=Nat.le_trans (Dec.nDigits_le (k:=1) (by omega) (show z.natAbs<10 ^ 1 by omega)) (by omega)
theorem zlV {r:Rat}(hr:Ft 30 r):(frT r).size≤800010:=by
 have l2:=zbN r.num (hr.num (by omega));have l3:=zbN (r.den:Int) (hr.den (by omega));have e:∀ z:Int,(I z).size=(itoa z).length:=fun z=>by show (itoa z).toArray.size=_;simp
 rw [e] at l2 l3;rw [zlz];show (frL r).toArray.size≤_;rw [List.size_toArray];unfold frL;split
 ·omega
 ·simp only [List.length_append,List.length_cons];omega
theorem zlW (vp v:Value)(p:List Int)(x:List Rat)(w:World)(he:Env w)(hp:Sl w vp (zap p))(hv:Rd w v x)(hpw:p=[2,3]∨p=[2,3,5])(hlen:x.length=p.length)(hx:∀ r∈x,Ft 30 r) :
  Calls Tryz.prog 103 #[vp,v] w fun e w'=>e=.returned (.tuple #[.string ⟨(txt p x).toArray⟩,.int .i64 0])∧Ext w w':=by
 obtain ⟨j0,hj,hy0,hy1,hy2⟩:=info_parts zlN;have hpe:zfb p=0∧p.length≤3:=by rcases hpw with e | e <;> rw [e] <;> decide
 have hps:∀ z∈p,0≤z∧z≤5:=by rcases hpw with e | e <;> rw [e] <;> decide
 have hck:=zfG vp v p x w he hp hv hpe.1 hlen hx;have hit:=fun (z:Int)(hz:z∈p) W (hE:Ext w W)=>zaE z (by have:=hps z hz;omega) (by have:=hps z hz;omega) W (he.ext hE);have hnm:=fun W (hE:Ext w W)=>zf2 1 W (he.ext hE) (by omega) (by omega);have e1:Rv ((1:Int):Rat)=.agg #[.string ⟨#[49]⟩,.string ⟨#[49]⟩]:=by rw [zf1,show I 1=⟨#[49]⟩ from zbs]
 simp only [e1] at hnm;clear e1;have hsg:=fun (r:Rat)(hr:r∈x) W=>zbQ r.num W ((hx r hr).num (by omega));have hft:=fun (r:Rat)(hr:r∈x) W=>zdU r W ((hx r hr).num (by omega)) ((hx r hr).den (by omega));obtain ⟨ap,cp,rfl,_,_,hpc⟩:=hp.parts;obtain ⟨av,cv,rfl,_,_,hvc⟩:=hv.parts;rw [zar] at *;have hpe2:=hpe.2;generalize hn:p.length=n at *;have Hck:=hid hck;have Hit:=hid hit;have Hnm:=hid hnm;have Hsg:=hid hsg;have Hft:=hid hft;have Hpc:=hid hpc;have Hvc:=hid hvc;have Hx:=hid hx;have Hps:=hid hps;have Hn:=hid hn;have Hlen:=hid hlen;clear hck hit hnm hsg hft hpc hvc hp hv hx hps hpe he hpw hn;rw [hlen];rw [hlen] at Hck;clear hlen;go_enter Tryz.func103,Tryz.ntmps103
 go_wp2_with fail
 refine Hck.out.mono ?_;rintro e w1 ⟨rfl,hx1⟩;have Hx1:=hid hx1;clear hx1;go_wp2_with fail
 go_loopw [7,19] (fun v7 v19 wr=>∃ k:Nat,v19=.int .i64 k∧k≤n∧zlM wr w.heap.size v7 (zl0 (p.take k) (x.take k))∧Ext w wr) (fun _ v19 _=>n - (zal v19).toNat)
 case atStart=>exact ⟨0,rfl,Nat.zero_le _,World.ownsRow_nil _ _ _ _,Hx1.out⟩
 case round =>
  obtain ⟨k,rfl,hk,ho,hE⟩:=hrel;generalize hL:zl0 (p.take k) (x.take k)=L at *;obtain ⟨a7,c7,rfl⟩:=zfi ho;by_cases hkn:k<n
  ·obtain ⟨r,hr⟩:∃ r,x[k]?=some r:=⟨_,List.getElem?_eq_getElem (by rw [Hlen.out];exact hkn)⟩;obtain ⟨z,hz⟩:∃ z,p[k]?=some z:=⟨_,List.getElem?_eq_getElem (by rw [Hn.out];exact hkn)⟩;have hzm:=List.mem_of_getElem? hz;have hrm:=List.mem_of_getElem? hr;obtain ⟨bp,op,rfl,hpc⟩:=Hpc.out k (.int .i64 z) (by unfold zap;rw [List.getElem?_map,hz];rfl);obtain ⟨bv,ov,rfl,hc0,hc1⟩:=Hvc.out k r hr;have p0:=hE.cell hpc;have h0:=hE.cell hc0;have h1:=hE.cell hc1;have hk0:(0:Int)≤(k:Int):=(by omega);have hk1:(k:Int)<(n:Int):=(by omega);have hEb:Ext w (wr.alloc (.cells #[.string (I r.num),.string (I (r.den:Int))] 65)):=hE.alloc _;have p1:=hEb.cell hpc;have b1:=zd9.new wr (.string (I r.num)) (.string (I (r.den:Int)));have hitk:=Hit.out z hzm _ hEb;have hst:=zlL hz hr;have hll:L.length≤3:=by
    rw [← hL];unfold zl0;refine Nat.le_trans (List.length_filterMap_le ..) ?_;rw [List.length_zip,List.length_take,List.length_take];omega
   have Hll:=hid hll;have hzI:=zbN z (zlU (Hps.out z hzm).1 (Hps.out z hzm).2);have hfs:=zlV (Hx.out r hrm);clear hll;rw [hL] at hst;have hnum0:=zb2 r.num;have hden1:=zdI (r.den:Int);have hnum1:=zdI r.num;generalize hsa:I r.num=sa at *;generalize hsb:I (r.den:Int)=sb at *;by_cases h0:r.num=0
   ·rw [decide_eq_true h0] at hnum0;have hst2:zl0 (p.take (k+1)) (x.take (k+1))=L:=(by rw [hst];unfold itm;rw [if_pos h0];simp);have Hst:=hid hst2;have HEb:=hid hEb;have B1:=hid b1;have Hitk:=hid hitk;have Ho:=hid ho;clear hst hst2 hEb b1 hitk ho hsa hsb hr hz hzm hrm hpc hc0 hc1 hden1 h0;go_wp2_with fail
    refine Hitk.out.mono ?_;rintro e w2 ⟨rfl,hx2⟩;have hb2:=B1.out.ext hx2;have g0:=hb2.c0;have g1:=hb2.c1;have Hx2:=hid (HEb.out.trans hx2);have Ho2:=hid (((Ext.refl wr).alloc _ |>.trans hx2).own Ho.out);clear hx2 hb2;go_wp2_with fail
    go_roundw
    case rel=>exact ⟨k+1,by go_num,by omega,by rw [Hst.out];exact Ho2.out,Hx2.out⟩
    case measure=>simp [zal];omega
   ·rw [decide_eq_false h0] at hnum0;have Hst:=hid hst;have HEb:=hid hEb;have B1:=hid b1;have Hitk:=hid hitk;have Ho:=hid ho;have Hsa:=hid hsa;have Hsb:=hid hsb;have Hr:=hid hrm;have H0:=hid h0;clear hst hEb b1 hitk ho hsa hsb hr hz hzm hrm hpc hc0 hc1 h0;go_wp2_with fail
    refine Hitk.out.mono ?_;rintro e w2 ⟨rfl,hx2⟩;have hb2:=B1.out.ext hx2;have hs2:∀ W,Ext w2.drew W→W.cell? ⟨wr.heap.size,0,none⟩=some (.string sa)∧W.cell? ⟨wr.heap.size,1,none⟩=some (.string sb):=fun W h=>by
     have:=hb2.ext ((Ext.refl w2).drew.trans h);exact ⟨this.c0,this.c1⟩
    have g0:=hb2.c0;have g1:=hb2.c1;obtain ⟨d0,d1⟩:=hs2 _ (Ext.refl _);have hnm2:=Hnm.out w2.drew (HEb.out.trans hx2).drew;have Hx2:=hid (HEb.out.trans hx2);have Ho2:=hid (((Ext.refl wr).alloc _ |>.trans hx2).own Ho.out);have Hs2:=hid hs2;have Hnm2:=hid hnm2;clear hx2 hb2 hs2 hnm2;obtain ⟨b1,hb1⟩:∃ b,decide (r.num=1)=b:=⟨_,rfl⟩;obtain ⟨b2,hb2⟩:∃ b,decide ((r.den:Int)=1)=b:=⟨_,rfl⟩;rw [hb1] at hnum1;rw [hb2] at hden1;have Hb1:=hid hb1;have Hb2:=hid hb2;clear hb1 hb2
    cases b1 <;> cases b2
    ·go_wp2_with fail
     go_region_held3 (fun w'=>w'.cell? ⟨wr.heap.size,0,none⟩=some (.string sa)∧w'.cell? ⟨wr.heap.size,1,none⟩=some (.string sb))
      (first | (with_reducible assumption) | exact Hs2.out _ (Ext.refl _) | exact Hs2.out _ HxA.out)
      (first
       | (go_at_call 89
          refine Hnm2.out.mono ?_
          rintro e9 VA ⟨rfl,hxa⟩
          have HxA:=hid hxa
          clear hxa))
     obtain ⟨d0,d1⟩:=Hs2.out _ HxA.out;have HEA:=hid (Hx2.out.drew.trans HxA.out);have HoA:=hid (((Ext.refl w2).drew.trans HxA.out).own Ho2.out);have hftA:=Hft.out r Hr.out VA;unfold Rv at hftA;rw [Hsa.out,Hsb.out] at hftA;have HftA:=hid hftA;clear hftA;go_wp2_with fail
     refine HftA.out.mono ?_;rintro e V4 ⟨rfl,hx4⟩;have HEW:=hid (HEA.out.trans hx4);have HoW:=hid (hx4.own HoA.out);clear hx4;have hqo:=HoW.out;have hbase:=HEW.out.size;have hm3:L.length+1≤maxLen:=(by have:=Hll.out;unfold maxLen;omega);have hm4:(L.length+1) * 16≤140737488355328:=(by have:=Hll.out;omega);go_wp2_with (at_builtin;refine wpList_append_own _ rfl _ _ 206 rfl w.heap.size 9 j0 (.string ByteArray.empty) 1 16 Tryz.underlying206 hj hy0 hy1 hy2 rfl (by decide) _ _ _ rfl (World.ownsRow.alloc hqo _) ⟨V4.heap.size,0,none⟩ 1 1 [_] rfl rfl (cell_one_new _ _ _) (by simp [Value.oneCell']) hm3 hm4 (by rw [World.size_alloc];omega) ?_;intro v7 V7 hown7 hgrow7 _)
     rw [zlR (fun g=>absurd (zlS.1 g).2 (of_decide_eq_false Hb2.out)) (fun g=>absurd (show (r.den:Int)=1 by omega) (of_decide_eq_false Hb2.out))] at hown7;clear hqo;go_roundw
     case rel=>exact ⟨k+1,by go_num,by omega,by rw [Hst.out,zlT H0.out,Option.toList_some];exact zlM.more rfl hown7,zfj HEW.out HoW.out hgrow7⟩
     case measure=>simp [zal];omega
    ·go_wp2_with fail
     go_region_held3 (fun w'=>w'.cell? ⟨wr.heap.size,0,none⟩=some (.string sa)∧w'.cell? ⟨wr.heap.size,1,none⟩=some (.string sb))
      (first | (with_reducible assumption) | exact Hs2.out _ (Ext.refl _) | exact Hs2.out _ HxA.out)
      (first
       | (go_at_call 89
          refine Hnm2.out.mono ?_
          rintro e9 VA ⟨rfl,hxa⟩
          have HxA:=hid hxa
          clear hxa))
     obtain ⟨d0,d1⟩:=Hs2.out _ HxA.out;have HEA:=hid (Hx2.out.drew.trans HxA.out);have HoA:=hid (((Ext.refl w2).drew.trans HxA.out).own Ho2.out);have hftA:=Hft.out r Hr.out VA;unfold Rv at hftA;rw [Hsa.out,Hsb.out] at hftA;have HftA:=hid hftA;clear hftA;have hsgA:=Hsg.out r Hr.out VA;rw [Hsa.out] at hsgA;have hd1:(r.den:Int)=1:=of_decide_eq_true Hb2.out;have hne:r ≠ 1:=fun g=>absurd (zlS.1 g).1 (of_decide_eq_false Hb1.out);by_cases hpos:0<r.num
     ·rw [zbm hpos] at hsgA;have Hw:=hid (zlQ (z:=z) hne ⟨by omega,hpos⟩);have HsgA:=hid hsgA;clear hsgA hd1 hne hpos;go_wp2_with fail
      refine HsgA.out.mono ?_;rintro e W9 ⟨rfl,rfl⟩;go_wp2_with fail
      refine HftA.out.mono ?_;rintro e V4 ⟨rfl,hx4⟩;have HEW:=hid (HEA.out.trans hx4);have HoW:=hid (hx4.own HoA.out);clear hx4;have hqo:=HoW.out;have hbase:=HEW.out.size;have hm3:L.length+1≤maxLen:=(by have:=Hll.out;unfold maxLen;omega);have hm4:(L.length+1) * 16≤140737488355328:=(by have:=Hll.out;omega);go_wp2_with (at_builtin;refine wpList_append_own _ rfl _ _ 206 rfl w.heap.size 9 j0 (.string ByteArray.empty) 1 16 Tryz.underlying206 hj hy0 hy1 hy2 rfl (by decide) _ _ _ rfl (World.ownsRow.alloc hqo _) ⟨V4.heap.size,0,none⟩ 1 1 [_] rfl rfl (cell_one_new _ _ _) (by simp [Value.oneCell']) hm3 hm4 (by rw [World.size_alloc];omega) ?_;intro v7 V7 hown7 hgrow7 _)
      rw [Hw.out] at hown7;clear hqo;go_roundw
      case rel=>exact ⟨k+1,by go_num,by omega,by rw [Hst.out,zlT H0.out,Option.toList_some];exact zlM.more rfl hown7,zfj HEW.out HoW.out hgrow7⟩
      case measure=>simp [zal];omega
     ·rw [zbk (show r.num<0 by have:=H0.out;omega)] at hsgA;have Hw:=hid (zlR (z:=z) hne (fun g=>hpos g.2));have HsgA:=hid hsgA;clear hsgA hd1 hne hpos;go_wp2_with fail
      refine HsgA.out.mono ?_;rintro e W9 ⟨rfl,rfl⟩;go_wp2_with fail
      refine HftA.out.mono ?_;rintro e V4 ⟨rfl,hx4⟩;have HEW:=hid (HEA.out.trans hx4);have HoW:=hid (hx4.own HoA.out);clear hx4;have hqo:=HoW.out;have hbase:=HEW.out.size;have hm3:L.length+1≤maxLen:=(by have:=Hll.out;unfold maxLen;omega);have hm4:(L.length+1) * 16≤140737488355328:=(by have:=Hll.out;omega);go_wp2_with (at_builtin;refine wpList_append_own _ rfl _ _ 206 rfl w.heap.size 9 j0 (.string ByteArray.empty) 1 16 Tryz.underlying206 hj hy0 hy1 hy2 rfl (by decide) _ _ _ rfl (World.ownsRow.alloc hqo _) ⟨V4.heap.size,0,none⟩ 1 1 [_] rfl rfl (cell_one_new _ _ _) (by simp [Value.oneCell']) hm3 hm4 (by rw [World.size_alloc];omega) ?_;intro v7 V7 hown7 hgrow7 _)
      rw [Hw.out] at hown7;clear hqo;go_roundw
      case rel=>exact ⟨k+1,by go_num,by omega,by rw [Hst.out,zlT H0.out,Option.toList_some];exact zlM.more rfl hown7,zfj HEW.out HoW.out hgrow7⟩
      case measure=>simp [zal];omega
    ·go_wp2_with fail
     go_region_held3 (fun w'=>w'.cell? ⟨wr.heap.size,0,none⟩=some (.string sa)∧w'.cell? ⟨wr.heap.size,1,none⟩=some (.string sb))
      (first | (with_reducible assumption) | exact Hs2.out _ (Ext.refl _) | exact Hs2.out _ HxA.out)
      (first
       | (go_at_call 89
          refine Hnm2.out.mono ?_
          rintro e9 VA ⟨rfl,hxa⟩
          have HxA:=hid hxa
          clear hxa))
     obtain ⟨d0,d1⟩:=Hs2.out _ HxA.out;have HEA:=hid (Hx2.out.drew.trans HxA.out);have HoA:=hid (((Ext.refl w2).drew.trans HxA.out).own Ho2.out);have hftA:=Hft.out r Hr.out VA;unfold Rv at hftA;rw [Hsa.out,Hsb.out] at hftA;have HftA:=hid hftA;clear hftA;go_wp2_with fail
     refine HftA.out.mono ?_;rintro e V4 ⟨rfl,hx4⟩;have HEW:=hid (HEA.out.trans hx4);have HoW:=hid (hx4.own HoA.out);clear hx4;have hqo:=HoW.out;have hbase:=HEW.out.size;have hm3:L.length+1≤maxLen:=(by have:=Hll.out;unfold maxLen;omega);have hm4:(L.length+1) * 16≤140737488355328:=(by have:=Hll.out;omega);go_wp2_with (at_builtin;refine wpList_append_own _ rfl _ _ 206 rfl w.heap.size 9 j0 (.string ByteArray.empty) 1 16 Tryz.underlying206 hj hy0 hy1 hy2 rfl (by decide) _ _ _ rfl (World.ownsRow.alloc hqo _) ⟨V4.heap.size,0,none⟩ 1 1 [_] rfl rfl (cell_one_new _ _ _) (by simp [Value.oneCell']) hm3 hm4 (by rw [World.size_alloc];omega) ?_;intro v7 V7 hown7 hgrow7 _)
     rw [zlR (fun g=>absurd (zlS.1 g).2 (of_decide_eq_false Hb2.out)) (fun g=>absurd (show (r.den:Int)=1 by omega) (of_decide_eq_false Hb2.out))] at hown7;clear hqo;go_roundw
     case rel=>exact ⟨k+1,by go_num,by omega,by rw [Hst.out,zlT H0.out,Option.toList_some];exact zlM.more rfl hown7,zfj HEW.out HoW.out hgrow7⟩
     case measure=>simp [zal];omega
    ·go_wp2_with fail
     go_region_held3 (fun w'=>w'.cell? ⟨wr.heap.size,0,none⟩=some (.string sa)∧w'.cell? ⟨wr.heap.size,1,none⟩=some (.string sb))
      (first | (with_reducible assumption) | exact Hs2.out _ (Ext.refl _) | exact Hs2.out _ HxA.out)
      (first
       | (go_at_call 89
          refine Hnm2.out.mono ?_
          rintro e9 VA ⟨rfl,hxa⟩
          have HxA:=hid hxa
          clear hxa))
     obtain ⟨d0,d1⟩:=Hs2.out _ HxA.out;have HEA:=hid (Hx2.out.drew.trans HxA.out);have HoA:=hid (((Ext.refl w2).drew.trans HxA.out).own Ho2.out);have hqo:=HoA.out;have hbase:=HEA.out.size;have hm3:L.length+1≤maxLen:=(by have:=Hll.out;unfold maxLen;omega);have hm4:(L.length+1) * 16≤140737488355328:=(by have:=Hll.out;omega);go_wp2_with (at_builtin;refine wpList_append_own _ rfl _ _ 206 rfl w.heap.size 9 j0 (.string ByteArray.empty) 1 16 Tryz.underlying206 hj hy0 hy1 hy2 rfl (by decide) _ _ _ rfl (World.ownsRow.alloc hqo _) ⟨VA.heap.size,0,none⟩ 1 1 [_] rfl rfl (cell_one_new _ _ _) (by simp [Value.oneCell']) hm3 hm4 (by rw [World.size_alloc];omega) ?_;intro v7 V7 hown7 hgrow7 _)
     rw [zlP (zlS.2 ⟨of_decide_eq_true Hb1.out,of_decide_eq_true Hb2.out⟩)] at hown7;clear hqo;go_roundw
     case rel=>exact ⟨k+1,by go_num,by omega,by rw [Hst.out,zlT H0.out,Option.toList_some];exact zlM.more rfl hown7,zfj HEA.out HoA.out hgrow7⟩
     case measure=>simp [zal];omega
  ·obtain rfl:n=k:=by omega
   have hLx:zl0 p x=L:=by
    rw [← hL,List.take_of_length_le (by rw [Hn.out];exact Nat.le_refl _),List.take_of_length_le (by rw [Hlen.out];exact Nat.le_refl _)]
   have hnk:¬ (n:Int)<(n:Int):=(by omega);by_cases h0:L=[]
   ·subst h0;have ht:txt p x=[49]:=(by unfold txt;rw [if_pos hLx]);have HE:=hid hE;have Ht:=hid ht;clear hLx ht hE ho;go_wp2_with fail
    exact bodyPost_ret (v:=.tuple #[.string ⟨#[49]⟩,.int .i64 0]) (by simp [results,Tryz.results103,go_sem]) rfl ⟨by rw [Ht.out],HE.out⟩
   ·have ht:txt p x=Lib.join L [32]:=(by unfold txt;rw [hLx,if_neg h0]);have hlz:∀ s∈L,s.length≤1300000:=fun s hs=>by
     rw [← hLx] at hs;unfold zl0 at hs;obtain ⟨⟨a,r⟩,hm,hi⟩:=List.mem_filterMap.1 hs;have h1:=List.of_mem_zip hm;exact zlO (zlU (Hps.out a h1.1).1 (Hps.out a h1.1).2) (Hx.out r h1.2) hi
    have hl3:L.length≤3:=by
     rw [← hLx];unfold zl0;refine Nat.le_trans (List.length_filterMap_le ..) ?_;rw [List.length_zip,Hn.out,Hlen.out];omega
    have hl0:0<L.length:=List.length_pos_iff.2 h0;have hj:(Lib.join L [32]).length≤10000000:=by
     match L,h0,hlz,hl3 with
     | [a],_,hz,_ =>
      rw [Lib.join_one]
      have:=hz a (by simp)
      omega
     | [a,b],_,hz,_ =>
      have h1:=hz a (by simp)
      have h2:=hz b (by simp)
      rw [Lib.join_length]
      simp only [Lib.lens,List.length_cons,List.length_nil,List.map_cons,List.map_nil,List.sum_cons,List.sum_nil]
      omega
     | [a,b,c],_,hz,_ =>
      have h1:=hz a (by simp)
      have h2:=hz b (by simp)
      have h3:=hz c (by simp)
      rw [Lib.join_length]
      simp only [Lib.lens,List.length_cons,List.length_nil,List.map_cons,List.map_nil,List.sum_cons,List.sum_nil]
      omega
     | _::_::_::_::_,_,_,h3=>simp at h3
    have hown:=ho;unfold zlM at hown;obtain ⟨g,cap,hv,hcell⟩:=zfm hown hl0;have hjn:Calls Tryz.prog 159 #[.slice a7 L.length c7,.string ⟨#[32]⟩] wr fun e w'=>e=.returned (.string ⟨(Lib.join L [32]).toArray⟩)∧Ext wr w':=by
     rw [hv];rcases hown.2 with ⟨_,g0⟩ | ⟨g',cap',cur,hv',hb,hg,k1,k2,k3,k4⟩
     ·omega
     ·rw [hv] at hv';injection hv' with e1 e2 e3;injection e1 with e1;injection e1 with e1;subst e1 e3;have hm:(L.map fun s=>(⟨s.toArray⟩:ByteArray)).map (·.data.toList)=L:=by
       rw [List.map_map];exact List.map_id'' (fun s=>rfl) L
      have hgw:g<wr.heap.size:=(Array.getElem?_eq_some_iff.1 hg).1;have:=Any.strings_Join Tryz.lJoin Tryz.lJoinX g 0 cap (L.map fun s=>⟨s.toArray⟩) ⟨#[32]⟩ wr (fun j y hy=>by
       rw [Nat.zero_add];refine hcell j (.string y) ?_;rw [List.getElem?_map] at hy;unfold svs;rw [List.getElem?_map]
       cases hs:L[j]? with
       | none=>rw [hs] at hy;cases hy
       | some s=>rw [hs] at hy;cases hy;rfl) hgw (by rw [List.length_map];omega) (by rw [List.length_map];omega) (by rw [hm];show (Lib.join L [32]).length≤_;omega)
      rw [hm,List.length_map] at this;exact this
    have HE:=hid hE;have Ht:=hid ht;have Hjn:=hid hjn;have hlw:¬ (L.length:Int)=0:=(by omega);clear hLx ht hE ho hown hjn hj hcell hv hlz hl3;go_wp2_with fail
    refine Hjn.out.mono ?_;rintro e w9 ⟨rfl,hx9⟩;have Hx9:=hid (HE.out.trans hx9);clear hx9;go_wp2_with fail
    exact bodyPost_ret (v:=.tuple #[.string ⟨(Lib.join L [32]).toArray⟩,.int .i64 0]) (by simp [results,Tryz.results103,go_sem]) rfl ⟨by rw [Ht.out],Hx9.out⟩
end
end Go.Proofs.YtebabancfnmfjaaGreatDoor
