/- Walk: scale.Chain of at most nine links. Walks: law 31's whole, octave, multiples. Walks: law 31's reduce, order, and the closures of its collect. -/
import Derived.Test.YtbkfhacmekbniaaGreatDoorPa21
import Derived.Test.YtbkfhacmekbniaaGreatDoorPa12
set_option maxRecDepth 100000
set_option maxHeartbeats 800000
namespace Go.Proofs.YtbkfhacmekbniaaGreatDoor
open Go.RowKit Go.Lib Go.Shelf
attribute [local go_sem] Oper.semAt_some
def zk4 (g:List Rat)(a:Int)(n:Nat):List (List Rat):=(List.range n).map fun (i:Nat)=>zeW g ((a+(i:Int):Int):Rat)
theorem zk5 (g:List Rat)(a:Int)(n:Nat):zk4 g a (n+1)=zk4 g a n++[zeW g ((a+(n:Int):Int):Rat)]:=by unfold zk4;rw [List.range_succ,List.map_append];rfl
theorem zk6 (g:List Rat)(a:Int)(n:Nat):(zk4 g a n).length=n:=by unfold zk4;simp
def QsR (W:World)(xs:List (List Rat))(v:Value)(wr:World):Prop:=∃ out:List Qw,QwM wr W.heap.size W.heap.size v out∧out.map Qw.x=xs∧Ext W wr
theorem QsR.more {W wr V:World}{v v7 u:Value}{x:List Rat}{out:List Qw}{xs:List (List Rat)}{o:Obj}(hE:Ext W wr)(hq:QwM wr W.heap.size W.heap.size v out)(hm:out.map Qw.x=xs)(ho:zf6 wr W.heap.size u x)
  (hown:V.ownsRow W.heap.size 32 1 v7 (out.length+1) (qwc out++[u])) (hgrow:(wr.alloc o).grownBy V v.ownBlock):QsR W (xs++[x]) v7 V:=by
 have:=QwM.more (r:=⟨_,u,zfA ho.rd⟩) hE hq ho hown hgrow;exact ⟨_,this.1,by rw [List.map_append,hm];rfl,this.2⟩
theorem zk7 (vp vb vg:Value)(p:List Int)(c:Int)(g:List Rat)(a:Int)(n:Nat)(w:World)(he:Env w)(hp:Sl w vp (zak p))(hb:Rd w vb (ov (p.length - 1)))(hg:Rd w vg g)(hgl:g.length=p.length)(hgf:∀ q∈g,Ft 30 q)(ha0:-1000≤a)(ha1:a≤0)(hn0:0≤a+(n:Int))(hn9:n<9)(hL:Lw p c (zk4 g a (n+1))) :
  Calls Tryz.prog 9 #[.agg #[vp,vb,vg,.int .i64 a,.int .i64 (a+(n:Int))]] w fun e w'=>∃ v out,e=.returned (.tuple #[v,.int .i64 0])∧ScO w' w.heap.size v p out∧zjT p (zk4 g a (n+1)) (out.map Qw.x)∧Ext w w':=by
 obtain ⟨j0,hj,hy0,hy1,hy2⟩:=info_parts zf8;have hpe:zee p=0∧p.length≤100∧0<p.length:=by rcases hL.pr with ⟨e,_⟩ | ⟨e,_⟩ <;> rw [e] <;> decide
 have hck:=fun W (hE:Ext w W)=>zjj vp vb p (p.length - 1) W (he.ext hE) (hE.sl hp) (hE.rd hb) hpe.1 (by have:=hL.pr;rwa [show p.length - 1+1=p.length by omega]);have hsc:=fun W (hE:Ext w W)=>zfQ vp vg p g W (he.ext hE) (hE.sl hp) (hE.rd hg) hpe.1 hgl hgf;have hin:=fun (z:Int)(h0:-2000≤z)(h1:z≤2000) W (hE:Ext w W)=>zjh z W (he.ext hE) (by omega) (by omega);have hmu:=fun (k:Nat)(hk:k<n+1)(z:Int)(hz:z=a+(k:Int)) W (hE:Ext w W)=>ziv vp vg p g ((z:Int):Rat) W (he.ext hE) (hE.sl hp) (hE.rd hg) hpe.1 hgl hgf ((zkx (k:=5) (by show _<100000;omega) (by omega)).mono (by omega)) (fun q hq=>(hL.quick (zeW g ((z:Int):Rat)) (by
  unfold zk4;rw [List.mem_map];exact ⟨k,List.mem_range.2 hk,by rw [hz]⟩)).1 q hq)
 have hcol:=fun W vl rs (hE:Ext w W)(hl:RdM W vl rs)(hx:rs.map Qw.x=zk4 g a (n+1))=>zk3 vp vb vl p c rs W (he.ext hE) (hE.sl hp) (hE.rd hb) hl (by rw [hx];exact hL) (by have:=congrArg List.length hx;rw [List.length_map,zk6] at this;omega);obtain ⟨ap,cp,rfl,_,_,_⟩:=hp.parts;obtain ⟨ab,cb,rfl,_,_,_⟩:=hb.parts;obtain ⟨ag,cg,rfl,_,_,_⟩:=hg.parts;have hovl:(ov (p.length - 1)).length=p.length:=by rw [ziF];omega
 rw [zam] at *;simp only [hovl,hgl] at hck hsc hmu hcol ⊢;obtain ⟨tz,htz⟩:∃ tz,tz=a+(n:Int):=⟨_,rfl⟩;rw [← htz];have hE0:Ext w ((w.alloc (.cells #[.slice ap p.length cp,.slice ab p.length cb,.slice ag p.length cg,.int .i64 a,.int .i64 tz] 42)).alloc (.cells #[.slice none 0 0,.slice none 0 0] 36)):=((Ext.refl w).alloc _).alloc _;have b1:((w.alloc (.cells #[.slice ap p.length cp,.slice ab p.length cb,.slice ag p.length cg,.int .i64 a,.int .i64 tz] 42)).alloc (.cells #[.slice none 0 0,.slice none 0 0] 36)).heap[w.heap.size]?=some (.cells #[.slice ap p.length cp,.slice ab p.length cb,.slice ag p.length cg,.int .i64 a,.int .i64 tz] 42 (0,0)):=((Ext.refl _).alloc _).heap (World.alloc_heap_new w _);have b2:=zdV.new 36 (w.alloc (.cells #[.slice ap p.length cp,.slice ab p.length cb,.slice ag p.length cg,.int .i64 a,.int .i64 tz] 42)) (.slice none 0 0) (.slice none 0 0);rw [World.size_alloc] at b2;have hbox:∀ W,Ext ((w.alloc (.cells #[.slice ap p.length cp,.slice ab p.length cb,.slice ag p.length cg,.int .i64 a,.int .i64 tz] 42)).alloc (.cells #[.slice none 0 0,.slice none 0 0] 36)) W→W.cell? ⟨w.heap.size,0,none⟩=some (.slice ap p.length cp)∧W.cell? ⟨w.heap.size,1,none⟩=some (.slice ab p.length cb)∧W.cell? ⟨w.heap.size,2,none⟩=some (.slice ag p.length cg)∧W.cell? ⟨w.heap.size,3,none⟩=some (.int .i64 a)∧W.cell? ⟨w.heap.size,4,none⟩=some (.int .i64 tz):=fun W hE=>by
  have hb:=hE.heap b1;unfold World.cell?;dsimp only;rw [hb];exact ⟨rfl,rfl,rfl,rfl,rfl⟩
 have htz0:0≤tz:=by omega
 have htz1:tz≤1000:=by omega
 have Hck:=hid hck;have Hsc:=hid hsc;have Hin:=hid hin;have Hmu:=hid hmu;have Hcol:=hid hcol;have HE0:=hid hE0;have B2:=hid b2;have Hbox:=hid hbox;have Htz:=hid htz;clear hp hb hg hgl hgf he hL hpe hck hsc hin hmu hcol hE0 b1 b2 hbox hovl htz;go_enter Tryz.func9,Tryz.ntmps9
 obtain ⟨q0,q1,q2,q3,q4⟩:=Hbox.out _ (Ext.refl _);go_wp2_with fail
 refine (Hck.out _ HE0.out).mono ?_;rintro e w1 ⟨rfl,hx1⟩;obtain ⟨q0,q1,q2,q3,q4⟩:=Hbox.out w1 hx1;have Hx1:=hid hx1;clear hx1;go_wp2_with fail
 refine (Hsc.out _ (HE0.out.trans Hx1.out)).mono ?_;rintro e w2 ⟨rfl,hx2⟩;have Hx2:=hid (Hx1.out.trans hx2);obtain ⟨q0,q1,q2,q3,q4⟩:=Hbox.out w2 Hx2.out;clear hx2;have t1:¬ a < -1000:=by omega
 have t2:¬ 0<a:=by omega
 have t3:¬ tz<0:=by omega
 have t4:¬ 1000<tz:=by omega
 go_wp2_with fail
 go_loopw [6,7,8,9] (fun v6 v7 v8 v9 wr=>∃ (k:Nat)(z:Int),v7=.int .i64 z∧z=a+(k:Int)∧k≤n+1∧QsR w2 (zk4 g a k) v6 wr) (fun _ v7 _ _ _=>(tz+1 - zag v7).toNat)
 case atStart=>exact ⟨0,a,rfl,by omega,Nat.zero_le _,[],QwM.nil _ _ _,rfl,Ext.refl _⟩
 case round =>
  clear q0 q1 q2 q3 q4;obtain ⟨k,z,rfl,hz,hk,⟨out,hq,hm,hE⟩⟩:=hrel;have htz:=Htz.out;have hol:out.length=k:=by
   have:=congrArg List.length hm;rwa [List.length_map,zk6] at this
  obtain ⟨a6,c6,rfl⟩:=zel hq.1;have hEw:=(HE0.out.trans Hx2.out).trans hE;obtain ⟨q0,q1,q2,q3,q4⟩:=Hbox.out wr (Hx2.out.trans hE);by_cases hkn:k<n+1
  ·have hzt:z≤tz:=(by omega);have hmk:=fun W (hx:Ext wr W)=>Hmu.out k hkn z hz W (hEw.trans hx);have hik:=fun W (hx:Ext wr W)=>Hin.out z (by omega) (by omega) W (hEw.trans hx);have Hmk:=hid hmk;have Hik:=hid hik;have Hq:=hid hq;have Hm:=hid hm;have HE:=hid hE;have Hol:=hid hol;have Hz:=hid hz;have hqo:=hq.1;rw [hol] at hqo ⊢;have Hqo:=hid hqo;have hzb:-1000≤z∧z≤1000:=(by omega);have hm3:k+1≤maxLen:=(by unfold maxLen;omega);have hm4:(k+1) * 24≤140737488355328:=(by omega);clear hmk hik hq hm hE hz hEw hol hqo htz;go_wp2_with fail
   go_region_held3 (fun w'=>Ext wr w'∧w'.cell? ⟨w.heap.size,0,none⟩=some (.slice ap p.length cp)∧w'.cell? ⟨w.heap.size,2,none⟩=some (.slice ag p.length cg))
    (first | (with_reducible assumption) | exact ⟨(Ext.refl wr).drew,q0,q2⟩)
    (first
     | (go_at_call 39;refine (Hik.out _ (And.left (by assumption))).mono ?_;rintro e9 VA ⟨rfl,hxa⟩;have hEA:=((Ext.refl wr).drew).trans hxa;have hS2:Ext wr VA∧VA.cell? ⟨w.heap.size,0,none⟩=some (.slice ap p.length cp)∧VA.cell? ⟨w.heap.size,2,none⟩=some (.slice ag p.length cg):=⟨hEA,hEA.cell q0,hEA.cell q2⟩;have HEA:=hid hEA;clear hxa hEA)
     | (go_at_call 38;refine (Hmk.out _ HEA.out).mono ?_;rintro e9 VB ⟨g2,rfl,ho2,hxa⟩;have hEB:=HEA.out.trans hxa;have hS3:Ext wr VB∧VB.cell? ⟨w.heap.size,0,none⟩=some (.slice ap p.length cp)∧VB.cell? ⟨w.heap.size,2,none⟩=some (.slice ag p.length cg):=⟨hEB,hEB.cell q0,hEB.cell q2⟩;have HEB:=hid hEB;have Ho2:=hid (ho2.mono (HE.out.trans HEA.out).size);clear hxa hEB ho2 hS2))
   all_goals
    clear hS3 q0 q1 q2 q3 q4;have hq3:=HEB.out.qwM Hq.out;have hqo:=HEB.out.own Hqo.out;have hE3:=HE.out.trans HEB.out;have hbase:=hE3.size;have Hq3:=hid hq3;have HE3:=hid hE3;clear hq3 hE3;go_wp2_with (at_builtin;refine wpList_append_own _ rfl _ _ 34 rfl w2.heap.size 32 j0 (.slice none 0 0) 1 24 Tryz.underlying34 hj hy0 hy1 hy2 rfl (by decide) _ _ _ rfl (hqo.alloc _) ⟨VB.heap.size,0,none⟩ 1 1 [.slice (some ⟨g2,0,none⟩) p.length p.length] rfl rfl (cell_one_new _ _ _) (by simp [Value.oneCell']) hm3 hm4 (by rw [World.size_alloc];omega) ?_;intro v7 V7 hown7 hgrow7 _)
    go_roundw
    case rel=>exact ⟨k+1,z+1,by go_num,by have:=Hz.out;omega,by omega,by rw [zk5];exact QsR.more HE3.out Hq3.out Hm.out (by rw [← Hz.out];exact Ho2.out) (by rw [Hol.out];exact hown7) (by rw [Hol.out];exact hgrow7)⟩
    case measure=>simp [zag];omega
  ·have hkn2:k=n+1:=(by omega);have hzt:¬ z≤tz:=(by omega);subst hkn2;have hco:=Hcol.out wr (.slice a6 out.length c6) out hEw hq.rd hm;have hB2:=B2.out.ext (Hx2.out.trans hE);have Hm:=hid hm;have Hco:=hid hco;have HB2:=hid hB2;have HEw:=hid hEw;have HEb:=hid (Hx2.out.trans hE);clear hco hB2 hEw hq hm hE hz hol htz;go_wp2_with fail
   refine Hco.out.mono ?_;rintro e w5 ⟨v5,out5,rfl,hsc5,hcl5,hx5⟩;obtain ⟨vp5,vn5,rfl,hop5,hqn5⟩:=hsc5;obtain ⟨a7,c7,rfl⟩:=zel hop5;obtain ⟨a8,c8,rfl⟩:=zel hqn5.1;have hE15:=HEb.out.trans hx5;have hbr:=B2.out.ext hE15;have hlo:=HEw.out.size;have hK:K0 36 w w5 (w.heap.size+1):=⟨HE0.out.trans hE15,_,_,hbr⟩;have k0:=hK.res.c0;have k1:=hK.res.c1;have z0:=hK.res.fz 0;have z1:=hK.res.fz 1;have hfin:=hK.fin (by omega) (.slice a7 p.length c7) (.slice a8 out5.length c8);have hq4:=(hqn5.set hbr 0 (.slice a7 p.length c7)).set (zdV.put0 hbr (.slice a7 p.length c7)) 1 (.slice a8 out5.length c8);have ho4:=zgk (zdV.put0 hbr (.slice a7 p.length c7)) (zgk hbr hop5 (by decide) 0 (.slice a7 p.length c7)) (by decide) 1 (.slice a8 out5.length c8);have Hfin:=hid hfin;have Hq4:=hid hq4;have Ho4:=hid ho4;have Hcl5:=hid hcl5;clear hfin hq4 ho4 hcl5 hK hbr hE15 hop5 hqn5 hx5 q0 q1 q2 q3 q4;go_wp2_with fail
   obtain ⟨hb5,hx5⟩:=Hfin.out;have hd0:=hb5.c0;have hd1:=hb5.c1;exact bodyPost_ret (v:=.tuple #[.agg #[.slice a7 p.length c7,.slice a8 out5.length c8],.int .i64 0]) (by simp [results,Tryz.results9,go_sem,hd0,hd1]) rfl ⟨_,out5,rfl,⟨_,_,rfl,zah Ho4.out hlo,Hq4.out.mono hlo hlo⟩,by rw [← Hm.out];exact Hcl5.out,hx5⟩
def zk8 (l:List Int):List Rat:=l.map fun (z:Int)=>(z:Rat)
theorem zk9 (l:List Int):(zk8 l).length=l.length:=by unfold zk8;simp
theorem zkA {l:List Int}{k:Nat}{z:Int}(h:l[k]?=some z):(zk8 l).take (k+1)=(zk8 l).take k++[(z:Rat)]:=by
 have h2:(zk8 l)[k]?=some (z:Rat):=by unfold zk8;rw [List.getElem?_map,h];rfl
 obtain ⟨hk,e⟩:=List.getElem?_eq_some_iff.1 h2;rw [List.take_succ_eq_append_getElem hk,e]
theorem zkB (v:Value)(l:List Int)(w:World)(he:Env w)(hv:Sl w v (zak l))(hl9:l.length≤1000)(hl:∀ z∈l,z.natAbs<1000000000) :
  Calls Tryz.prog 33 #[v] w fun e w'=>∃ u,e=.returned u∧zf6 w' w.heap.size u (zk8 l)∧Ext w w':=by
 obtain ⟨i0,hi,hz0,hz1,hz2⟩:=info_parts zf7;have hof:=fun (z:Int)(h:z∈l) W (hE:Ext w W)=>zgP z 1 W (he.ext hE) (hl z h) (by decide) (by decide);obtain ⟨a,c,rfl,_,_,hc⟩:=hv.parts;have hnx:∀ k,k<l.length→∃ z,l[k]?=some z∧z∈l:=fun k hk=>⟨_,List.getElem?_eq_getElem hk,List.getElem_mem _⟩;have hcell:∀ k z,l[k]?=some z→∃ b off,a=some ⟨b,off,none⟩∧w.cell? ⟨b,off+k,none⟩=some (.int .i64 z):=fun k z h=>hc k _ (by unfold zak;rw [List.getElem?_map,h];rfl);have hrl:=zk9 l;rw [zam];generalize hn:l.length=n at *;have Hof:=hid hof;have Hnx:=hid hnx;have Hcell:=hid hcell;have Hrl:=hid hrl;clear hv hc he hl hof hnx hcell hrl hn;go_enter Tryz.func33,Tryz.ntmps33
 go_wp2_with fail
 go_loopw [3,5,8] (fun v3 v5 v8 wr=>∃ k:Nat,v8=.int .i64 k∧k≤n∧wr.ownsRow w.heap.size 60 2 v3 k (rcs ((zk8 l).take k))∧Hid (Ext w wr)) (fun _ _ v8 _=>n - (zag v8).toNat)
 case atStart=>exact ⟨0,rfl,Nat.zero_le _,World.ownsRow_nil w _ _ 2,hid (Ext.refl _)⟩
 case round =>
  obtain ⟨k,rfl,hk,ho,HE⟩:=hrel;obtain ⟨a5,c5,rfl⟩:=zel ho;by_cases hkn:k<n
  ·obtain ⟨z,hz,hzm⟩:=Hnx.out k hkn;obtain ⟨b,off,rfl,h0⟩:=Hcell.out k z hz;have htk:=zkA hz;have hcl:=fun W (hE:Ext w W)=>Hof.out z hzm W hE;rw [show mkRat z 1=(z:Rat) from Rat.mkRat_one z] at hcl;unfold Rv at hcl;generalize hs1:I ((z:Rat)).num=s1 at *;generalize hs2:I ((((z:Rat)).den:Nat):Int)=s2 at *;have hrn:rcs ((zk8 l).take (k+1))=rcs ((zk8 l).take k)++[.string s1,.string s2]:=(by rw [htk,zf3,hs1,hs2]);have Hrn:=hid hrn;clear hrn hs1 hs2 htk;have hk0:(0:Int)≤(k:Int):=(by omega);have hk1:(k:Int)<(n:Int):=(by omega);have c0:=HE.out.cell h0;have hm3:k+1≤maxLen:=(by unfold maxLen;omega);have hm4:(k+1) * 32≤140737488355328:=(by omega);have Hcl:=hid hcl;have Ho:=hid ho;clear hcl ho h0 hz hzm;go_wp2_with fail
   refine (Hcl.out wr HE.out).mono ?_;rintro e VA ⟨rfl,hxa⟩;have HEA:=hid (HE.out.trans hxa);have hoA:=hxa.own Ho.out;have hbase:=HEA.out.size;clear hxa c0;go_wp2_with (at_builtin;refine wpList_append_own _ rfl _ _ 32 rfl w.heap.size 60 i0 (.agg #[.string ByteArray.empty,.string ByteArray.empty]) 2 32 Tryz.underlying32 hi hz0 hz1 hz2 rfl (by decide) _ _ _ rfl (hoA.alloc _) ⟨VA.heap.size,0,none⟩ 1 1 [.string s1,.string s2] rfl rfl (zgT VA _ _ _) (by simp [Value.oneCell']) hm3 hm4 (by rw [World.size_alloc];omega) ?_;intro v7 V7 hown7 hgrow7 _)
   go_roundw
   case rel=>exact ⟨k+1,by go_num,by omega,by rw [Hrn.out];exact hown7,hid ((HEA.out.alloc _).grown hgrow7 fun j hj=>(World.ownsRow.lt (hoA.alloc (.cells #[.string s1,.string s2] 60)) j hj).1)⟩
   case measure=>simp [zag];omega
  ·obtain rfl:n=k:=by omega
   rw [List.take_of_length_le (by rw [Hrl.out];exact Nat.le_refl _)] at ho;have Ho:=hid ho;clear ho;go_wp2
   go_ret
   exact ⟨_,rfl,by unfold zf6;rw [Hrl.out];exact Ho.out,HE.out⟩
theorem zkC (vp:Value)(p:List Int)(w:World)(he:Env w)(hp:Sl w vp (zak p))(hp0:0<p.length)(hp9:p.length≤100) :
  Calls Tryz.prog 10 #[vp] w fun e w'=>∃ u,e=.returned u∧zf6 w' w.heap.size u (ov (p.length - 1))∧Ext w w':=by
 obtain ⟨i0,hi,hz0,hz1,hz2⟩:=info_parts zej;have hwh:=fun W v (hE:Ext w W)(hv:Sl W v (zak (List.replicate p.length 0)))=>zkB v (List.replicate p.length 0) W (he.ext hE) hv (by rw [List.length_replicate];omega) (fun z hz=>by rw [List.eq_of_mem_replicate hz];decide);have hof:=fun W (hE:Ext w W)=>zgP 1 1 W (he.ext hE) (by decide) (by decide) (by decide);rw [show mkRat 1 1=(1:Rat) from Rat.mkRat_one 1] at hof;obtain ⟨ap,cp,rfl,_,_,_⟩:=hp.parts;rw [zam];have hrl:(zk8 (List.replicate p.length 0)).length=p.length:=by rw [zk9,List.length_replicate]
 have hrc:((rcs (zk8 (List.replicate p.length 0))).set 0 (.string (I (1:Rat).num))).set 1 (.string (I (((1:Rat).den:Nat):Int)))=rcs (ov (p.length - 1)):=by
  obtain ⟨m,hm⟩:∃ m,p.length=m+1:=⟨p.length - 1,by omega⟩;rw [hm,Nat.add_sub_cancel];unfold zk8 ov;rw [List.map_replicate,List.replicate_succ,zf1,zf1];rfl
 have hovl:(ov (p.length - 1)).length=p.length:=by rw [ziF];omega
 unfold Rv at hof;generalize I (1:Rat).num=s1 at *;generalize I (((1:Rat).den:Nat):Int)=s2 at *;generalize hn:p.length=n at *;have Hwh:=hid hwh;have Hof:=hid hof;have Hrl:=hid hrl;have Hrc:=hid hrc;have Hovl:=hid hovl;clear hp he hwh hof hrl hrc hovl hn;go_enter Tryz.func10,Tryz.ntmps10
 go_wp2_with (at_make;refine wpList_make_full _ rfl _ _ 28 rfl w.heap.size 3 i0 _ 1 Tryz.underlying28 hi hz0 hz1 _ _ _ _ n rfl rfl rfl rfl (by rw [hz2];omega) (by unfold maxLen;omega) (Nat.le_refl _) ?_;intro w1 hown hgrow)
 have hx1:Ext w w1:=(Ext.refl w).grown hgrow (by simp);rw [show (Value.int .i64 0).cells=#[Value.int .i64 0] from rfl,toList_madeCells_one] at hown;have hsl:Sl w1 (.slice (some ⟨w.heap.size,0,none⟩) n n) (zak (List.replicate n 0)):=by
  have:=zai hown;rw [Nat.mul_one] at this;unfold zak;rw [List.map_replicate];exact this
 have hw1:=Hwh.out w1 _ hx1 hsl;have Hx1:=hid hx1;have Hw1:=hid hw1;clear hown hgrow hx1 hsl hw1;go_wp2_with fail
 refine Hw1.out.mono ?_;rintro e w2 ⟨u2,rfl,ho2,hx2⟩;have ho2':=ho2;unfold zf6 at ho2';rw [Hrl.out] at ho2';rcases ho2'.2 with ⟨_,h0⟩ | ⟨g,cap,cur,rfl,hbg,hg,h1,h2,h3,h4⟩
 ·omega
 ·have hf:=Hof.out w2 (Hx1.out.trans hx2);have Hf:=hid hf;have Ho2:=hid ho2';have Hx2:=hid (Hx1.out.trans hx2);have hbw:w.heap.size≤g:=Nat.le_trans Hx1.out.size hbg;clear hf ho2 ho2' hx2 hg h1 h2 h3 h4;go_wp2_with fail
  refine Hf.out.mono ?_;rintro e w3 ⟨rfl,hx3⟩;have ho3:=hx3.own Ho2.out;have c0:=World.ownsRow.cellAt ho3 0 (by omega);have c1:=World.ownsRow.cellAt ho3 1 (by omega);have hlen:(rcs (zk8 (List.replicate n 0))).length=2 * n:=by rw [zf4,Hrl.out]
  obtain ⟨e0,he0⟩:∃ q0,(rcs (zk8 (List.replicate n 0)))[0]?=some q0:=⟨_,List.getElem?_eq_getElem (by omega)⟩;obtain ⟨e1,he1⟩:∃ q0,(rcs (zk8 (List.replicate n 0)))[1]?=some q0:=⟨_,List.getElem?_eq_getElem (by omega)⟩;rw [he0] at c0;rw [he1] at c1;have f0:=zgG ho3 0;have f1:=zgG ho3 1;have hs0:=World.ownsRow.stored ho3 0 (.string s1);have hs1:=World.ownsRow.stored hs0.1 1 (.string s2);rw [Hrc.out] at hs1;have hE3:=((Hx2.out.trans hx3).setCell (p:=⟨g,0,none⟩) hbw (.string s1)).setCell (p:=⟨g,1,none⟩) hbw (.string s2);have Hs1:=hid (zah hs1.1 Hx1.out.size);have HE3:=hid hE3;have hni:(0:Int)<(n:Int):=by omega
  clear hs0 hs1 hE3 ho3 hx3 hlen he0 he1;go_wp2
  go_ret
  exact ⟨_,rfl,by unfold zf6;rw [Hovl.out];exact Hs1.out,HE3.out⟩
theorem zkD {r:Rat}(h1:r.num.natAbs≤30000)(h2:r.den≤1000):Sn r:=⟨h1,h2⟩
theorem zkE : Sn 0:=by unfold Sn;decide
theorem zkF {z:Int}(h:z.natAbs≤30000):Sn (z:Rat):=by
 unfold Sn;rw [Rat.num_intCast,Rat.den_intCast];exact ⟨h,by omega⟩
theorem zkG {n:Nat}{p:List Int}{x:List Rat}{c:Int}(hp:Pr p x.length)(h:Nic n x)(hc:0≤c)(hc2:c≤500)(h1:-((c * 67108864:Int):Rat)≤sF p x)(h2:sF p x≤((c * 67108864:Int):Rat)):∀ r∈x,Sn r:=by
 rcases h with ⟨_,hb⟩ | ⟨hn,hn9,ho⟩
 ·obtain ⟨a,tl,rfl⟩:∃ a tl,x=a::tl:=by
   rcases hp with ⟨_,hl⟩ | ⟨_,hl⟩ <;> (cases x with | nil=>cases hl | cons a tl=>exact ⟨a,tl,rfl⟩)
  have hA:=zjx hp hb h1 h2;match tl,hb with
  | [b],⟨A,B,ha,hb2,g1,g2⟩ =>
   obtain ⟨ha1,ha2⟩:=zfi ha
   intro r hr
   simp only [List.mem_cons,List.not_mem_nil,or_false] at hr
   rcases hr with rfl | rfl
   ·exact zkD (by omega) (by omega)
   ·rcases zfj hb2 with ⟨e1,e2⟩ | ⟨e1,e2⟩
    ·exact zkD (by omega) (by omega)
    ·exact zkD (by omega) (by omega)
  | [b,d],⟨A,B,C,ha,hb2,hd,g1,g2,g3,g4⟩ =>
   obtain ⟨ha1,ha2⟩:=zfi ha
   obtain ⟨hd1,hd2⟩:=zfi hd
   intro r hr
   simp only [List.mem_cons,List.not_mem_nil,or_false] at hr
   rcases hr with rfl | rfl | rfl
   ·exact zkD (by omega) (by omega)
   ·rcases zfj hb2 with ⟨e1,e2⟩ | ⟨e1,e2⟩
    ·exact zkD (by omega) (by omega)
    ·exact zkD (by omega) (by omega)
   ·exact zkD (by omega) (by omega)
 ·rcases hp with ⟨rfl,hl⟩ | ⟨rfl,hl⟩
  ·match x,hl,ho with
   | [a,b],_,⟨hb,A,ha⟩ =>
    subst hb
    have hbd:=zjy (s:=sF [2,3] [a,0]) hn hn9 ha (by simp only [sF,lgs.1];grind) h1 h2
    intro r hr
    simp only [List.mem_cons,List.not_mem_nil,or_false] at hr
    rcases hr with rfl | rfl
    ·exact zkD (by omega) (by omega)
    ·exact zkE
  ·match x,hl,ho with
   | [a,b,d],_,⟨hb,hd,A,ha⟩ =>
    subst hb
    subst hd
    have hbd:=zjy (s:=sF [2,3,5] [a,0,0]) hn hn9 ha (by simp only [sF,lgs.1];grind) h1 h2
    intro r hr
    simp only [List.mem_cons,List.not_mem_nil,or_false] at hr
    rcases hr with rfl | rfl | rfl
    ·exact zkD (by omega) (by omega)
    ·exact zkE
    ·exact zkE
theorem Lw.sn {p:List Int}{c:Int}{l:List (List Rat)}(h:Lw p c l)(hc:c≤500){x:List Rat}(hx:x∈l):∀ r∈x,Sn r:=by
 obtain ⟨n,hn⟩:=h.nic;exact zkG (by rw [h.len x hx];exact h.pr) (hn x hx) h.c0 hc (h.bd x hx).1 (h.bd x hx).2
theorem Lw.snr {p:List Int}{c:Int}{l:List (List Rat)}(h:Lw p c l){x:List Rat}(hx:x∈l):∀ r∈rst p x,Sn r:=by
 obtain ⟨n,hn⟩:=h.nic;have hr:=h.range hx;exact zkG (c:=1) (by unfold rst;rw [zj5,h.len x hx];exact h.pr) (zjC (hn x hx)) (by omega) (by omega) (by
  rw [show ((1 * 67108864:Int):Rat)=67108864 from rfl];grind) (by
  rw [show ((1 * 67108864:Int):Rat)=67108864 from rfl];grind)
theorem Lw.fl {p:List Int}{c:Int}{l:List (List Rat)}(h:Lw p c l){x:List Rat}(hx:x∈l):-c≤flP p x∧flP p x≤c:=by
 obtain ⟨n,hn⟩:=h.nic;exact zjS (by rw [h.len x hx];exact h.pr) (hn x hx) (h.bd x hx).1 (h.bd x hx).2
theorem zkH (n:Nat):∀ r∈ov n,Sn r:=by
 intro r hr;unfold ov at hr;rcases List.mem_cons.1 hr with rfl | hr
 ·exact zhd
 ·rw [List.eq_of_mem_replicate hr];exact zkE
theorem zkI (n:Nat){q:Int}(hq:q.natAbs≤30000):∀ r∈zeW (ov n) (q:Rat),Sn r:=by
 rw [zjD];unfold zer;rw [List.replicate_succ];intro x hx;simp only [shf,List.mem_cons] at hx;rcases hx with rfl | hx
 ·rw [show (0:Rat)+(q:Rat)=(q:Rat) by grind];exact zkF hq
 ·rw [List.eq_of_mem_replicate hx];exact zkE
theorem zkJ {x:List Rat}{q:Int}(hx:0<x.length):zeV x (zeW (ov (x.length - 1)) (q:Rat))=shf (-q) x:=by
 rw [zjD,show x.length - 1+1=x.length by omega];have h:=zj8 (q:=0) (r:=q) (x:=x) (y:=zer x.length) (by rw [zj0]);rw [zj7,zj2,show (0:Int) - q=-q by omega] at h;exact h
theorem zkK (vp vb vx:Value)(p:List Int)(c:Int)(l:List (List Rat))(x:List Rat)(w:World)(he:Env w)(hp:Sl w vp (zak p))(hb:Rd w vb (ov (p.length - 1)))(hxv:Rd w vx x)(hL:Lw p c l)(hc:c≤500)(hx:x∈l) :
  Calls Tryz.prog 20 #[vp,vb,vx] w fun e w'=>∃ u s,e=.returned (.tuple #[u,.string s])∧zf6 w' w.heap.size u (rst p x)∧Ext w w':=by
 have hpe:zee p=0∧p.length≤100∧0<p.length:=by rcases hL.pr with ⟨e,_⟩ | ⟨e,_⟩ <;> rw [e] <;> decide
 have hxl:=hL.len x hx;have hflb:=hL.fl hx;have hsn:=hL.sn hc hx;have hfl:=fun W (hE:Ext w W)=>(show Calls Tryz.prog 59 #[vp,vx,vb] W fun e w'=>e=.returned (.tuple #[.string (I (flP p x)),.int .i64 0])∧Ext W w' from by
  obtain ⟨a,tl,e,h⟩:=hL.red hx;have hrd:=hE.rd hxv;rw [e] at hrd ⊢;have hlt:tl.length=p.length - 1:=by have:=h.len;omega
  exact zje vp vx vb p a tl W (he.ext hE) (hE.sl hp) hrd (hE.rd (by rw [hlt];exact hb)) hpe.1 h.pr h.ft h.qf)
 have hti:=fun W (hE:Ext w W)=>zgZ vb (ov (p.length - 1)) ((flP p x:Int):Rat) W (he.ext hE) (hE.rd hb) (by rw [ziF];omega) (zkH _) (zkF (by omega));rw [zfB] at hti;have hle:=fun W vc (hE:Ext w W)(hc:Rd W vc (zeW (ov (p.length - 1)) ((flP p x:Int):Rat)))=>zhe vx vc x (zeW (ov (p.length - 1)) ((flP p x:Int):Rat)) W (he.ext hE) (hE.rd hxv) hc (by unfold zeW;rw [List.length_map,ziF];omega) (by omega) hsn (zkI _ (by omega));have hrs:zeV x (zeW (ov (p.length - 1)) ((flP p x:Int):Rat))=rst p x:=by
  rw [← hxl];exact zkJ (by omega)
 rw [hrs] at hle;have hne:((I (flP p x)).toList == [])=false:=by
  have h1:=zbq (flP p x);have h2:0<(I (flP p x)).size:=by
   rcases (by omega:flP p x<0∨0≤flP p x) with g | g
   ·obtain ⟨m,hm⟩:∃ m:Nat,flP p x=-(m:Int):=⟨(flP p x).natAbs,by omega⟩;rw [hm,zbp m (by omega)];omega
   ·obtain ⟨m,hm⟩:∃ m:Nat,flP p x=(m:Int):=⟨(flP p x).toNat,by omega⟩;rw [hm,zav,zau];exact nDigits_pos m
  cases h3:(I (flP p x)).toList with
  | nil =>
   exfalso
   have:(I (flP p x)).data.toList=[]:=by rw [← Lib.toList_data];exact h3
   have h4:(I (flP p x)).size=0:=by
    show (I (flP p x)).data.size=0;rw [← Array.length_toList,this];rfl
   omega
  | cons a t=>rfl
 have hne2:¬ (I (flP p x)).toList=[]:=fun e=>by rw [e] at hne;simp at hne
 obtain ⟨ap,cp,rfl,_,_,_⟩:=hp.parts;obtain ⟨ab,cb,rfl,_,_,_⟩:=hb.parts;obtain ⟨ax,cx,rfl,_,_,_⟩:=hxv.parts;generalize (zak p).length=n1 at *;generalize (ov (p.length - 1)).length=n2 at *;generalize x.length=n3 at *;generalize I (flP p x)=s at *;have Hfl:=hid hfl;have Hti:=hid hti;have Hle:=hid hle;clear he hp hb hxv hL hfl hti hle hrs hsn hpe hxl hflb;go_enter Tryz.func20,Tryz.ntmps20
 go_wp2_with fail
 refine (Hfl.out w (Ext.refl w)).mono ?_;rintro e w1 ⟨rfl,hx1⟩;have Hx1:=hid hx1;clear hx1;go_wp2_with fail
 refine (Hti.out w1 Hx1.out).mono ?_;rintro e w2 ⟨u2,rfl,ho2,hx2⟩;obtain ⟨a2,c2,rfl,_,_,_⟩:=ho2.rd.parts;have hle2:=Hle.out w2 _ (Hx1.out.trans hx2) ho2.rd;have Hle2:=hid hle2;have Hx2:=hid (Hx1.out.trans hx2);clear hle2 hx2 ho2;generalize (zeW (ov (p.length - 1)) ((flP p x:Int):Rat)).length=n4 at *;go_wp2_with fail
 refine Hle2.out.mono ?_;rintro e w3 ⟨u3,rfl,ho3,hx3⟩;have Ho3:=hid (ho3.mono Hx2.out.size);have Hx3:=hid (Hx2.out.trans hx3);clear ho3 hx3;go_wp2
 go_ret2
 exact ⟨_,_,rfl,Ho3.out,Hx3.out⟩
theorem zkL (vp va vb:Value)(p:List Int)(x y:List Rat)(w:World)(he:Env w)(hp:Sl w vp (zak p))(ha:Rd w va x)(hb:Rd w vb y)(hpe:zee p=0)(hpl:p.length≤100)(hx:x.length=p.length)(hy:y.length=p.length)(hxf:∀ q∈x,Ft 30 q)(hyf:∀ q∈y,Ft 30 q)(hq:ziz p (zeV x y)) :
  Calls Tryz.prog 47 #[vp,va,vb] w fun e w'=>e=.returned (.int .i64 (zfe (tms p (dn (zeV x y)) (zeV x y))))∧Ext w w':=by
 have h:=zi1 vp va vb p x y w he hp ha hb hpe hpl hx hy hxf hyf hq;obtain ⟨ap,cp,rfl,_,_,_⟩:=hp.parts;obtain ⟨aa,ca,rfl,_,_,_⟩:=ha.parts;obtain ⟨ab,cb,rfl,_,_,_⟩:=hb.parts;generalize zfe (tms p (dn (zeV x y)) (zeV x y))=z at *;clear hp ha hb he hxf hyf hq hx hy hpe hpl;have H:=hid h;clear h;go_enter Tryz.func47,Tryz.ntmps47
 go_wp2_with fail
 refine H.out.mono ?_;rintro e w1 ⟨rfl,hx1⟩;have Hx1:=hid hx1;clear hx1;go_wp2
 go_ret
 exact ⟨rfl,Hx1.out⟩
theorem zkM (va vb:Value)(x y:List Rat)(bx:Nat)(w:World)(h0:w.cell? ⟨bx,0,none⟩=some va)(ha:Rd w va x)(hb:Rd w vb y)(hx:x.length≤1000)(hy:y.length≤1000) :
  Calls Tryz.prog 44 #[vb,.pointer (some ⟨bx,0,none⟩)] w fun e w'=>e=.returned (.bool (decide (x=y)))∧Ext w w':=by
 have h:=zkk va vb x y w ha hb hx hy;obtain ⟨aa,ca,rfl,_,_,_⟩:=ha.parts;obtain ⟨ab,cb,rfl,_,_,_⟩:=hb.parts;generalize decide (x=y)=b at *;clear ha hb;have H:=hid h;clear h;go_enter Tryz.func44,Tryz.ntmps44
 go_wp2_with fail
 refine H.out.mono ?_;rintro e w1 ⟨rfl,hx1⟩;have Hx1:=hid hx1;clear hx1;go_wp2
 go_ret
 exact ⟨rfl,Hx1.out⟩
theorem zkN : ∀ args w,(callFunc 44 args).run Tryz.prog w=.ok (.enter 44 args) w:=enters_of Tryz.func44 (by kernel_rfl) rfl
theorem zkO : ∀ args w,(callFunc 46 args).run Tryz.prog w=.ok (.enter 46 args) w:=enters_of Tryz.func46 (by kernel_rfl) rfl
theorem zkP (vp va vb:Value)(p:List Int)(l:List (List Rat))(x y:List Rat)(bp:Nat)(w:World)(he:Env w)(h0:w.cell? ⟨bp,0,none⟩=some vp)(hp:Sl w vp (zak p))(ha:Rd w va x)(hb:Rd w vb y)(hc:zkg p l)(hx:x∈l)(hy:y∈l) :
  Calls Tryz.prog 46 #[va,vb,.pointer (some ⟨bp,0,none⟩)] w fun e w'=>(∃ z:Int,e=.returned (.int .i64 z)∧(z<0 ↔ sF p x<sF p y))∧Ext w w':=by
 have h:=zkL vp va vb p x y w he hp ha hb hc.pe hc.few (hc.len _ hx) (hc.len _ hy) (hc.ft _ hx) (hc.ft _ hy) (hc.quick _ hx _ hy);have hsg:=hc.sgn _ hx _ hy;obtain ⟨ap,cp,rfl,_,_,_⟩:=hp.parts;obtain ⟨aa,ca,rfl,_,_,_⟩:=ha.parts;obtain ⟨ab,cb,rfl,_,_,_⟩:=hb.parts;generalize zfe (tms p (dn (zeV x y)) (zeV x y))=z at *;clear hp ha hb he hc;have H:=hid h;have Hsg:=hid hsg;clear h hsg;go_enter Tryz.func46,Tryz.ntmps46
 go_wp2_with fail
 refine H.out.mono ?_;rintro e w1 ⟨rfl,hx1⟩;have Hx1:=hid hx1;clear hx1;go_wp2
 go_ret
 exact ⟨⟨z,rfl,Hsg.out⟩,Hx1.out⟩
end Go.Proofs.YtbkfhacmekbniaaGreatDoor
