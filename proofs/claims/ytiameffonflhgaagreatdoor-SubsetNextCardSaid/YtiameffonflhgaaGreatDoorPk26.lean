/- Walks: class.look: the view of a scale: its notes up to two periods. Walks: class.(*view).differences, compare. Plain: the text of a size, which tells it. -/
import Derived.Test.YtiameffonflhgaaGreatDoorPk24
import Derived.Test.YtiameffonflhgaaGreatDoorPk21
import Derived.Test.YtiameffonflhgaaGreatDoorPk25
import Derived.Test.YtiameffonflhgaaGreatDoorPk22
import Derived.Test.YtiameffonflhgaaGreatDoorPk06
import Derived.Lib.Join
set_option maxRecDepth 100000
set_option maxHeartbeats 800000
namespace Go.Proofs.YtiameffonflhgaaGreatDoor
section
open Go.RowKit Go.Lib Go.Shelf
attribute [local go_sem] Oper.semAt_some
theorem zme (v:Value)(p:List Int)(rs:List Qw)(k:Int)(w:World)(he:Env w)(hv:ScV w v p rs)(h:Wd p (rs.map Qw.x))(hk0:-1000≤k)(hk1:k≤1000) :
  Calls Tryz.prog 16 #[v,.int .i64 k] w fun e w'=>∃ g,e=.returned (.tuple #[.slice (some ⟨g,0,none⟩) p.length p.length,.int .i64 0])∧zf2 w' w.heap.size (.slice (some ⟨g,0,none⟩) p.length p.length) (nt p (rs.map Qw.x) k)∧Ext w w':=by
 have hpos:=h.pos;rw [List.length_map] at hpos;obtain ⟨n,hn⟩:∃ n,rs.length=n+1:=⟨rs.length - 1,by omega⟩;obtain ⟨r,hr⟩:∃ r,rs[n]?=some r:=⟨_,List.getElem?_eq_getElem (by omega)⟩;have hrx:r.x=ov (p.length - 1):=by
  have:=h.last;rw [List.length_map,hn,Nat.add_sub_cancel,List.getElem?_map,hr] at this;exact Option.some.inj this
 have hnq:=h.noteQ hn k;have hq:=h.nt_quick k hk0 hk1;have hd:=zir (a:=k) (b:=(n:Int)+1) (m:=1000) (by omega) hk0 hk1 (by omega);have:=zl9 v p rs n k r w he hv h.right hn hr (by omega) (by omega) ((zjU (k:=5) (by show _<100000;omega) (by omega)).mono (by omega)) (by rw [hrx];exact zlq (by omega) (by omega)) (by rw [hnq];exact hq.1);rw [hnq] at this;exact this
def zmf (w:World)(b:Nat)(u v s:Value):Prop:=w.heap[b]?=some (.cells #[u,v,s] 168 (0,0))
section
variable {w w' : World} {b : Nat} {u v s : Value}
theorem zmf.new (w:World)(u v s:Value):zmf (w.alloc (.cells #[u,v,s] 168)) w.heap.size u v s:=World.alloc_heap_new w _
theorem zmf.ext (hx:Ext w w')(h:zmf w b u v s):zmf w' b u v s:=hx.heap h
theorem zmf.c0 (h:zmf w b u v s):w.cell? ⟨b,0,none⟩=some u:=by unfold World.cell?;dsimp only;rw [h];rfl
theorem zmf.c1 (h:zmf w b u v s):w.cell? ⟨b,1,none⟩=some v:=by unfold World.cell?;dsimp only;rw [h];rfl
theorem zmf.c2 (h:zmf w b u v s):w.cell? ⟨b,2,none⟩=some s:=by unfold World.cell?;dsimp only;rw [h];rfl
theorem zmf.fz (h:zmf w b u v s)(k:Nat):w.frozen? ⟨b,k,none⟩=false:=frozen_of_row w b k #[u,v,s] _ h
theorem zmf.put2 (h:zmf w b u v s)(x:Value):zmf (w.setCell ⟨b,2,none⟩ x) b u v x:=heap_setCell_same w b 2 _ _ x h
end
theorem QwM.setV {W:World}{b B:Nat}{v:Value}{rs:List Qw}(h:QwM W b B v rs){c:Nat}{cs:Array Value}(hc:W.heap[c]?=some (.cells cs 168 (0,0)))(k:Nat)(u:Value):QwM (W.setCell ⟨c,k,none⟩ u) b B v rs :=
 ⟨zgg hc h.1 (by decide) k u,fun r hr=>zgg hc (h.2 r hr) (by decide) k u⟩
def NvR (b:Nat)(W6:World)(bs:Nat)(vp vn:Value)(xs:List (List Rat))(wr:World):Prop:=∃ (vs:Value)(nts:List Qw),zmf wr bs vp vn vs∧QwM wr b W6.heap.size vs nts∧nts.map Qw.x=xs∧Ext W6 wr
theorem NvR.more {b:Nat}{W6 W V:World}{bs:Nat}{vp vn vs v7 u:Value}{x:List Rat}{nts:List Qw}{xs:List (List Rat)}{o:Obj}(hbs:W6.heap.size≤bs)(hb:zmf W bs vp vn vs)(hq:QwM W b W6.heap.size vs nts)(hm:nts.map Qw.x=xs)(hE:Ext W6 W)(ho:zf2 W b u x)
  (hown:V.ownsRow W6.heap.size 41 1 v7 (nts.length+1) (qwc nts++[u])) (hgrow:(W.alloc o).grownBy V vs.ownBlock):NvR b W6 bs vp vn (xs++[x]) (V.setCell ⟨bs,2,none⟩ v7):=by
 have h1:=QwM.more2 (r:=⟨_,u,zf6 ho.rd⟩) hE (Nat.le_refl _) hq ho hown hgrow;have hbV:zmf V bs vp vn vs:=zgd (((Ext.refl W).alloc o).heap hb) (World.ownsRow.alloc hq.1 o) (by decide) hgrow;exact ⟨v7,_,hbV.put2 v7,h1.1.setV hbV 2 v7,by rw [List.map_append,hm];rfl,h1.2.setCell hbs v7⟩
def zmg (p:List Int)(N:List (List Rat)):List (List Rat):=(List.range (2 * N.length+1)).map fun (i:Nat)=>nt p N (i:Int)
theorem zmh (p:List Int)(N:List (List Rat)):(zmg p N).length=2 * N.length+1:=by unfold zmg;simp
theorem zmi {p:List Int}{N:List (List Rat)}{i:Nat}(hi:i<2 * N.length+1):(zmg p N)[i]?=some (nt p N (i:Int)):=by
 unfold zmg;rw [List.getElem?_map,List.getElem?_range hi];rfl
def Vw (w:World)(u:Value)(p:List Int)(rs:List Qw):Prop:=∃ b vp vn vs nts,u=.pointer (some ⟨b,0,none⟩)∧zmf w b vp vn vs∧Sl w vp (zaq p)∧RdM w vn rs∧RdM w vs nts∧nts.map Qw.x=zmg p (rs.map Qw.x)
theorem Vw.ext {w w':World}{u:Value}{p:List Int}{rs:List Qw}(h:Vw w u p rs)(hx:Ext w w'):Vw w' u p rs:=by
 obtain ⟨b,vp,vn,vs,nts,e,h1,h2,h3,h4,h5⟩:=h;exact ⟨b,vp,vn,vs,nts,e,h1.ext hx,hx.sl h2,hx.rdM h3,hx.rdM h4,h5⟩
theorem zmj (v:Value)(p:List Int)(rs:List Qw)(w:World)(he:Env w)(hv:ScV w v p rs)(h:Wd p (rs.map Qw.x)) :
  Calls Tryz.prog 110 #[v] w fun e w'=>∃ u,e=.returned (.tuple #[u,.int .i64 0])∧Vw w' u p rs∧Ext w w':=by
 obtain ⟨j0,hj,hy0,hy1,hy2⟩:=info_parts zf4;have hck:=fun W (hE:Ext w W)=>ziX v p rs W (he.ext hE) (hv.ext hE) h.right;have hnt:=fun (k:Int)(h0:-1000≤k)(h1:k≤1000) W (hE:Ext w W)=>zme v p rs k W (he.ext hE) (hv.ext hE) h h0 h1;have hfew:=h.few;have hL:(rs.map Qw.x).length=rs.length:=List.length_map ..;rw [hL] at hfew;have hmd:∀ i,i<2 * rs.length+1→(zmg p (rs.map Qw.x)).take (i+1)=(zmg p (rs.map Qw.x)).take i++[nt p (rs.map Qw.x) (i:Int)]:=fun i hi=>by
  have:=zmi (p:=p) (N:=rs.map Qw.x) (i:=i) (by rw [hL];exact hi);rw [List.take_add_one,this];rfl
 have hmf:(zmg p (rs.map Qw.x)).take (2 * rs.length+1)=zmg p (rs.map Qw.x):=List.take_of_length_le (by rw [zmh,hL];exact Nat.le_refl _);have hml:(zmg p (rs.map Qw.x)).length=2 * rs.length+1:=by rw [zmh,hL]
 obtain ⟨vp,vn,rfl,hp,hs,hmr⟩:=hv;obtain ⟨ap,cp,rfl,_,_,_⟩:=hp.parts;obtain ⟨an,cn,rfl,_,_,_⟩:=hs.parts;rw [zas] at *;rw [zf5] at *;generalize hn:rs.length=n at *;have hE0:Ext w (w.alloc (.cells #[.slice ap p.length cp,.slice an n cn] 28)):=(Ext.refl w).alloc _;have b1:=zdM.new 28 w (.slice ap p.length cp) (.slice an n cn);have Hck:=hid hck;have Hnt:=hid hnt;have Hmd:=hid hmd;have Hmf:=hid hmf;have Hml:=hid hml;have HE0:=hid hE0;have B1:=hid b1;have Hp:=hid hp;have Hs:=hid (And.intro hs hmr);have Hn:=hid hn;clear hck hnt hmd hmf hml hE0 b1 hp hs hmr hn h he hL;have q0:=B1.out.c0;have q1:=B1.out.c1;go_enter Tryz.func110,Tryz.ntmps110
 go_wp2_with fail
 refine (Hck.out _ HE0.out).mono ?_;rintro e w6 ⟨rfl,hx6⟩;have q0:=(B1.out.ext hx6).c0;have q1:=(B1.out.ext hx6).c1;have Hx6:=hid hx6;clear hx6;have Hb7:=hid (zmf.new w6 (.slice ap p.length cp) (.slice an n cn) (.slice none 0 0));have H6x:Hid (Ext w6 (w6.alloc (.cells #[.slice ap p.length cp,.slice an n cn,.slice none 0 0] 168))):=hid ((Ext.refl w6).alloc _);have s0:=(B1.out.ext (Hx6.out.trans H6x.out)).c0;have s1:=(B1.out.ext (Hx6.out.trans H6x.out)).c1;go_wp2_with fail
 have hw0:IntKind.i64.wrap (IntKind.i64.wrap (2 * (n:Int))+1)=2 * (n:Int)+1:=by rw [IntWalk.i64_in (2 * (n:Int)) (by omega),IntWalk.i64_in _ (by omega)]
 go_loopw [22] (fun v22 wr=>∃ i:Nat,v22=.int .i64 (i:Int)∧i≤2 * n+1∧NvR w6.heap.size w6 w6.heap.size (.slice ap p.length cp) (.slice an n cn) ((zmg p (rs.map Qw.x)).take i) wr) (fun v22 _=>2 * n+2 - (zam v22).toNat)
 case atStart=>exact ⟨0,rfl,Nat.zero_le _,.slice none 0 0,[],Hb7.out,QwM.nil _ _ _,rfl,H6x.out⟩
 case round =>
  obtain ⟨i,rfl,hi,⟨vs,nts,hbn,hqn,hmn,hEn⟩⟩:=hrel;have hE6:=Hx6.out.trans hEn;have hEw:=HE0.out.trans hE6;have q0:=(B1.out.ext hE6).c0;have q1:=(B1.out.ext hE6).c1;by_cases hin:i<2 * n+1
  ·have hik:(i:Int)<2 * (n:Int)+1:=(by omega);have hnk:=Hnt.out (i:Int) (by omega) (by omega) wr hEw;have Hbn:=hid hbn;have Hqn:=hid hqn;have Hmn:=hid hmn;have HEn:=hid hEn;have HE6:=hid hE6;have HEw:=hid hEw;have Hnk:=hid hnk;clear hbn hqn hmn hEn hE6 hEw hnk;go_wp2_with fail
   refine Hnk.out.mono ?_;rintro e w8 ⟨g8,rfl,ho8,hx8⟩;obtain ⟨avs,cvs,rfl⟩:=zec Hqn.out.1;have hnl:nts.length=i:=by
    have:=congrArg List.length Hmn.out;rw [List.length_map,List.length_take,Hml.out] at this;omega
   have hbk:=Hbn.out.ext hx8;rw [hnl] at hbk;have hqk:=hx8.qwM Hqn.out;rw [hnl] at hqk;have hqo:=hx8.own Hqn.out.1;rw [hnl] at hqo;have hEk:=HEn.out.trans hx8;have hbase:=hEk.size;have hok:=ho8.mono HEn.out.size;have hm3:i+1≤maxLen:=(by unfold maxLen;omega);have hm4:(i+1) * 24≤140737488355328:=(by omega);have r2:=hbk.c2;have Hbk:=hid hbk;have Hqk:=hid hqk;have Hnl:=hid hnl;have HEk:=hid hEk;have Hok:=hid hok;clear hbk hqk hnl hEk hok ho8 hx8 q0 q1;go_wp2_with (at_builtin;refine wpList_append_own _ rfl _ _ 26 rfl w6.heap.size 41 j0 (.slice none 0 0) 1 24 Tryz.underlying26 hj hy0 hy1 hy2 rfl (by decide) _ _ _ rfl (hqo.alloc _) ⟨w8.heap.size,0,none⟩ 1 1 [.slice (some ⟨g8,0,none⟩) p.length p.length] rfl rfl (cell_one_new _ _ _) (by simp [Value.oneCell']) hm3 hm4 (by rw [World.size_alloc];omega) ?_;intro v7 V7 hown7 hgrow7 _;have hbV:zmf V7 w6.heap.size (.slice ap p.length cp) (.slice an n cn) (.slice avs i cvs):=zgd (((Ext.refl w8).alloc _).heap Hbk.out) (hqo.alloc (.cells #[.slice (some ⟨g8,0,none⟩) p.length p.length] 41)) (by decide) hgrow7;have d1:=hbV.c2;have e1:=hbV.fz 2;obtain ⟨a7,c7,rfl⟩:=zec hown7)
   have hR:=NvR.more (W6:=w6) (W:=w8) (v7:=.slice a7 (i+1) c7) (Nat.le_refl _) Hbk.out Hqk.out Hmn.out HEk.out Hok.out (by rw [Hnl.out];exact hown7) hgrow7;rw [← Hmd.out i hin] at hR;have HR:=hid hR;clear hR d1 e1 r2 hgrow7 hown7 hbV;generalize V7.setCell ⟨w6.heap.size,2,none⟩ (.slice a7 (i+1) c7)=V2 at *;go_roundw
   case rel=>exact ⟨i+1,by go_num,by omega,HR.out⟩
   case measure=>simp [zam];omega
  ·obtain rfl:i=2 * n+1:=by omega
   have hik:¬ ((2 * n+1:Nat):Int)<2 * (n:Int)+1:=(by omega);have hmn2:=hmn.trans Hmf.out;have hfin:Vw wr (.pointer (some ⟨w6.heap.size,0,none⟩)) p rs:=by
    refine ⟨_,_,_,_,nts,rfl,hbn,hEw.sl Hp.out,?_,hqn.rd,hmn2⟩;have:=hEw.rdM Hs.out;exact this
   have Hfin:=hid hfin;have HEw:=hid hEw;clear hfin hEw hmn2 hmn hbn hqn hEn hE6;go_wp2_with fail
   exact bodyPost_ret (v:=.tuple #[.pointer (some ⟨w6.heap.size,0,none⟩),.int .i64 0]) (by simp [results,Tryz.results110,go_sem]) rfl ⟨_,rfl,Hfin.out,HEw.out⟩
def dfs (p:List Int)(N:List (List Rat))(d:Int):List (List Rat):=(List.range N.length).map fun (i:Nat)=>iv p N (i:Int) d
theorem zmk (p:List Int)(N:List (List Rat))(d:Int):(dfs p N d).length=N.length:=by unfold dfs;simp
theorem zml {p:List Int}{N:List (List Rat)}{d:Int}{i:Nat}(hi:i<N.length):(dfs p N d)[i]?=some (iv p N (i:Int) d):=by
 unfold dfs;rw [List.getElem?_map,List.getElem?_range hi];rfl
theorem zmm {w:World}{av:Option Addr}{nl cv:Nat}{p:List Int}{N:List (List Rat)}{nts:List Qw}(h:RdM w (.slice av nl cv) nts)(hm:nts.map Qw.x=zmg p N)(hl:∀ k:Int,(nt p N k).length=p.length){i:Nat}(hi:i<2 * N.length+1) :
  ∃ b off ai ci,av=some ⟨b,off,none⟩∧w.cell? ⟨b,off+i,none⟩=some (.slice ai p.length ci)∧Rd w (.slice ai p.length ci) (nt p N (i:Int)):=by
 obtain ⟨a,cap,e,_,_,hc⟩:=h.1.parts;injection e with e1 e2 e3;subst e1;have hx:=zmi (p:=p) (N:=N) hi;rw [← hm,List.getElem?_map] at hx;obtain ⟨r,hr,hrx⟩:=Option.map_eq_some_iff.1 hx;have hrd:=h.2 r (List.mem_of_getElem? hr);rw [hrx] at hrd;obtain ⟨ai,ci,hu,_,_,_⟩:=hrd.parts;rw [hl] at hu;obtain ⟨b,off,rfl,hcell⟩:=hc i r.u (by unfold qwc;rw [List.getElem?_map,hr];rfl);rw [hu] at hcell hrd;exact ⟨b,off,ai,ci,rfl,hcell,hrd⟩
theorem zmn (u:Value)(p:List Int)(rs:List Qw)(d:Nat)(w:World)(he:Env w)(hu:Vw w u p rs)(h:Wc p (rs.map Qw.x))(hd:d≤rs.length) :
  Calls Tryz.prog 114 #[u,.int .i64 (d:Int)] w fun e w'=>∃ v out,e=.returned (.tuple #[v,.int .i64 0])∧QwM w' w.heap.size w.heap.size v out∧out.map Qw.x=dfs p (rs.map Qw.x) (d:Int)∧Ext w w':=by
 obtain ⟨j0,hj,hy0,hy1,hy2⟩:=info_parts zf4;have hL:(rs.map Qw.x).length=rs.length:=List.length_map ..;have hfew:=h.few;rw [hL] at hfew;have hpe:zdV p=0:=by rcases h.wd.pr with ⟨e,_⟩ | ⟨e,_⟩ <;> rw [e] <;> decide
 obtain ⟨b,vp,vn,vs,nts,rfl,hb,hp,hn,hs,hm⟩:=hu;have hsb:=fun (i:Nat)(hi:i<rs.length) W va vb (hE:Ext w W)(ha:Rd W va (nt p (rs.map Qw.x) (((i+d:Nat)):Int)))(hbb:Rd W vb (nt p (rs.map Qw.x) (i:Int)))=>zih vp va vb p _ _ W (he.ext hE) (hE.sl hp) ha hbb hpe (h.wd.ntlen _) (h.wd.ntlen _) (h.wd.nt_quick _ (by omega) (by omega)).1 (h.wd.nt_quick _ (by omega) (by omega)).1 (h.wd.nt_sub_quick _ _ (by omega) (by omega) (by omega) (by omega)).1;have hiv:∀ i:Nat,zeO (nt p (rs.map Qw.x) ((i+d:Nat):Int)) (nt p (rs.map Qw.x) (i:Int))=iv p (rs.map Qw.x) (i:Int) (d:Int):=fun i=>by unfold iv;rw [show ((i+d:Nat):Int)=(i:Int)+(d:Int) by omega]
 have hmd:∀ i,i<rs.length→(dfs p (rs.map Qw.x) (d:Int)).take (i+1)=(dfs p (rs.map Qw.x) (d:Int)).take i++[iv p (rs.map Qw.x) (i:Int) (d:Int)]:=fun i hi=>by
  have:=zml (p:=p) (N:=rs.map Qw.x) (d:=(d:Int)) (i:=i) (by rw [hL];exact hi);rw [List.take_add_one,this];rfl
 have hmf:(dfs p (rs.map Qw.x) (d:Int)).take rs.length=dfs p (rs.map Qw.x) (d:Int):=List.take_of_length_le (by rw [zmk,hL];exact Nat.le_refl _);have hml:(dfs p (rs.map Qw.x) (d:Int)).length=rs.length:=by rw [zmk,hL]
 have hat:=fun (i:Nat)(hi:i<2 * rs.length+1)=>fun av nl cv (hv:RdM w (.slice av nl cv) nts)=>zmm (i:=i) hv hm (fun k=>h.wd.ntlen k) (by rw [hL];exact hi);obtain ⟨ap,cp,rfl,_,_,_⟩:=hp.parts;obtain ⟨an,cn,rfl,_,_,_⟩:=hn.1.parts;obtain ⟨av,cv,rfl,_,hv1,_⟩:=hs.1.parts;have hnts:nts.length=2 * rs.length+1:=by
  have:=congrArg List.length hm;rwa [List.length_map,zmh,hL] at this
 rw [zas,zf5,zf5,hnts] at hb;rw [zf5,hnts] at hs;rw [zf5] at hn;rw [zas] at hp hsb;have hat2:=fun (i:Nat)(hi:i<2 * rs.length+1)=>hat i hi _ _ _ hs;clear hat;generalize hnn:rs.length=n at *;obtain ⟨M,hM⟩:∃ M,M=2 * n+1:=⟨_,rfl⟩;rw [← hM] at hb hat2 hnts;have HM:=hid hM;clear hM;have Hsb:=hid hsb;have Hiv:=hid hiv;have Hmd:=hid hmd;have Hmf:=hid hmf;have Hml:=hid hml;have Hb:=hid hb;have Hat:=hid hat2;clear hsb hiv hmd hmf hml hat2 hm hs hn hp h he hpe hL hnts hnn;have q0:=hb.c0;have q1:=hb.c1;have q2:=hb.c2;clear hb;go_enter Tryz.func114,Tryz.ntmps114
 go_wp2_with fail
 go_loopw [6,16] (fun v6 v16 wr=>∃ i:Nat,v16=.int .i64 (i:Int)∧i≤n∧QsR w ((dfs p (rs.map Qw.x) (d:Int)).take i) v6 wr) (fun _ v16 _=>n - (zam v16).toNat)
 case atStart=>exact ⟨0,rfl,Nat.zero_le _,[],QwM.nil _ _ _,rfl,Ext.refl _⟩
 case round =>
  obtain ⟨i,rfl,hi,⟨out,hq,hm,hE⟩⟩:=hrel;have hol:out.length=i:=by
   have:=congrArg List.length hm;rw [List.length_map,List.length_take,Hml.out] at this;omega
  obtain ⟨a6,c6,rfl⟩:=zec hq.1;by_cases hin:i<n
  ·have hik:(i:Int)<(n:Int):=(by omega);obtain ⟨j,hjj⟩:∃ j,j=i+d:=⟨_,rfl⟩;obtain ⟨bv,ov,a1,c1,rfl,x1,hr1⟩:=Hat.out j (by have:=HM.out;omega);obtain ⟨_,_,a2,c2,e2,x2,hr2⟩:=Hat.out i (by have:=HM.out;omega)
   cases e2
   have hwi:IntKind.i64.wrap ((i:Int)+(d:Int))=(j:Int):=(by rw [IntWalk.i64_in _ (by omega)];omega);have hid0:(0:Int)≤(j:Int):=(by omega);have hid1:(j:Int)<(M:Int):=(by have:=HM.out;omega);have hi1:(i:Int)<(M:Int):=(by have:=HM.out;omega);have hi0:(0:Int)≤(i:Int):=(by omega);have hS:∀ W,Ext w W→Ext w W∧W.cell? ⟨b,0,none⟩=some (.slice ap p.length cp)∧W.cell? ⟨b,2,none⟩=some (.slice (some ⟨bv,ov,none⟩) M cv)∧W.cell? ⟨bv,ov+j,none⟩=some (.slice a1 p.length c1)∧W.cell? ⟨bv,ov+i,none⟩=some (.slice a2 p.length c2):=fun W hW=>⟨hW,(Hb.out.ext hW).c0,(Hb.out.ext hW).c2,hW.cell x1,hW.cell x2⟩;rw [hjj] at hr1;have hsb:=Hsb.out i hin wr.drew _ _ hE.drew (hE.drew.rd hr1) (hE.drew.rd hr2);obtain ⟨_,d0,d2,d3,d4⟩:=hS _ hE.drew;have hqo:=hq.1;rw [hol] at hqo;have HS:=hid hS;have HSb:=hid hsb;have Hq:=hid hq;have Hm:=hid hm;have HE:=hid hE;have Hol:=hid hol;have Hqo:=hid hqo;clear hS hsb hq hm hE hol hqo hr1 hr2 x1 x2 hjj;rw [Hol.out];go_wp2_with fail
   go_region_held3 (fun w'=>Ext w w'∧w'.cell? ⟨b,0,none⟩=some (.slice ap p.length cp)∧w'.cell? ⟨b,2,none⟩=some (.slice (some ⟨bv,ov,none⟩) M cv)∧w'.cell? ⟨bv,ov+j,none⟩=some (.slice a1 p.length c1)∧w'.cell? ⟨bv,ov+i,none⟩=some (.slice a2 p.length c2))
    (first | (with_reducible assumption) | exact HS.out _ HE.out.drew | exact HS.out _ (HE.out.drew.trans HxA.out))
    (first
     | (go_at_call 46
        refine HSb.out.mono ?_
        rintro e9 VA ⟨g9,rfl,ho9,hxa⟩
        have HxA:=hid hxa
        have Ho9:=hid ho9
        clear hxa ho9))
   have hxab:=(Ext.refl wr).drew.trans HxA.out;have hq3:=hxab.qwM Hq.out;have hqo:=hxab.own Hqo.out;have hE3:=HE.out.trans hxab;have hbase:=hE3.size;have ho3:=Ho9.out.mono HE.out.drew.size;rw [Hiv.out i] at ho3;have hm3:i+1≤maxLen:=(by unfold maxLen;omega);have hm4:(i+1) * 24≤140737488355328:=(by omega);have Hq3:=hid hq3;have HE3:=hid hE3;have Ho3:=hid ho3;clear hq3 hE3 hxab ho3 d0 d2 d3 d4 q0 q2;go_wp2_with (at_builtin;refine wpList_append_own _ rfl _ _ 26 rfl w.heap.size 41 j0 (.slice none 0 0) 1 24 Tryz.underlying26 hj hy0 hy1 hy2 rfl (by decide) _ _ _ rfl (hqo.alloc _) ⟨VA.heap.size,0,none⟩ 1 1 [.slice (some ⟨g9,0,none⟩) p.length p.length] rfl rfl (cell_one_new _ _ _) (by simp [Value.oneCell']) hm3 hm4 (by rw [World.size_alloc];omega) ?_;intro v7 V7 hown7 hgrow7 _)
   go_roundw
   case rel=>exact ⟨i+1,by go_num,by omega,by rw [Hmd.out i hin];exact QsR.more HE3.out Hq3.out Hm.out Ho3.out (by rw [Hol.out];exact hown7) (by rw [Hol.out];exact hgrow7)⟩
   case measure=>simp [zam];omega
  ·obtain rfl:i=n:=by omega
   have hik:¬ (i:Int)<(i:Int):=(by omega);have hm2:=hm.trans Hmf.out;rw [hol];have Hq:=hid hq;have HE:=hid hE;have Hm:=hid hm2;have Hol:=hid hol;clear hq hE hm hm2 hol q0 q2;go_wp2_with fail
   exact bodyPost_ret (v:=.tuple #[.slice a6 i c6,.int .i64 0]) (by simp [results,Tryz.results114,go_sem]) rfl ⟨_,rfl,out,by have:=Hq.out;rw [Hol.out] at this;exact this,Hm.out,HE.out⟩
theorem zmo (u va vb:Value)(p:List Int)(rs:List Qw)(x y:List Rat)(w:World)(he:Env w)(hu:Vw w u p rs)(hp:Pr p p.length)(ha:Rd w va x)(hb:Rd w vb y)(hx:x.length=p.length)(hy:y.length=p.length)(hxf:∀ q∈x,Ft 30 q)(hyf:∀ q∈y,Ft 30 q)(hq:zin p (zeO x y)) :
  Calls Tryz.prog 113 #[u,va,vb] w fun e w'=>e=.returned (.int .i64 (zeX (tms p (dn (zeO x y)) (zeO x y))))∧Ext w w':=by
 have hpe:zdV p=0∧p.length≤100:=by rcases hp with ⟨e,_⟩ | ⟨e,_⟩ <;> rw [e] <;> decide
 obtain ⟨b,vp,vn,vs,nts,rfl,hbx,hpp,_,_,_⟩:=hu;have hc:=zip vp va vb p x y w he hpp ha hb hpe.1 hpe.2 hx hy hxf hyf hq;obtain ⟨ap,cp,rfl,_,_,_⟩:=hpp.parts;obtain ⟨a1,c1,rfl,_,_,_⟩:=ha.parts;obtain ⟨a2,c2,rfl,_,_,_⟩:=hb.parts;generalize zeX (tms p (dn (zeO x y)) (zeO x y))=z at *;have q0:=hbx.c0;have Hc:=hid hc;clear hc hbx hpp ha hb hx hy hxf hyf hq hpe hp he;go_enter Tryz.func113,Tryz.ntmps113
 go_wp2_with fail
 refine Hc.out.mono ?_;rintro e w2 ⟨rfl,hx2⟩;have Hx2:=hid hx2;clear hx2;go_wp2_with fail
 go_ret
 exact ⟨rfl,Hx2.out⟩
end
section
open Go.RowKit Go.Lib
def zmp (b:UInt8):Prop:=b=45∨(48≤b.toNat∧b.toNat≤57)
def frL (r:Rat):List UInt8:=if r.den=1 then itoa r.num else itoa r.num++47::itoa (r.den:Int)
theorem zmq (r:Rat):frT r=⟨(frL r).toArray⟩:=by
 unfold frT frL;split
 ·rfl
 ·unfold I;apply ByteArray.ext;apply Array.ext';simp
def sfx (r:Rat):List UInt8:=if r=1 then [] else if r.den=1∧0<r.num then 94::frL r else 94::40::(frL r++[41])
def itm (b:List UInt8)(r:Rat):Option (List UInt8):=if r.num=0 then none else some (b++sfx r)
def zmr (p:List Int)(x:List Rat):List (List UInt8):=(p.zip x).filterMap fun e=>itm (itoa e.1) e.2
def txt (p:List Int)(x:List Rat):List UInt8:=if zmr p x=[] then [49] else Lib.join (zmr p x) [32]
theorem zms {c:UInt8}:∀ {a b x y:List UInt8},(∀ e∈a,e ≠ c)→(∀ e∈b,e ≠ c)→a++c::x=b++c::y→a=b∧x=y
 | [],[],_,_,_,_,h=>⟨rfl,by simpa using h⟩
 | [],e::b,_,_,_,hb,h=>by
  simp only [List.nil_append,List.cons_append,List.cons.injEq] at h;exact absurd h.1.symm (hb e (List.mem_cons_self ..))
 | e::a,[],_,_,ha,_,h=>by
  simp only [List.nil_append,List.cons_append,List.cons.injEq] at h;exact absurd h.1 (ha e (List.mem_cons_self ..))
 | e::a,f::b,_,_,ha,hb,h=>by
  simp only [List.cons_append,List.cons.injEq] at h;have:=zms (fun z hz=>ha z (List.mem_cons_of_mem _ hz)) (fun z hz=>hb z (List.mem_cons_of_mem _ hz)) h.2;exact ⟨by rw [h.1,this.1],this.2⟩
theorem zmt {c:UInt8}{a b x:List UInt8}(ha:∀ e∈b,e ≠ c)(h:a++c::x=b):False:=ha c (by rw [← h];simp) rfl
theorem zmu (a b:List UInt8)(l:List (List UInt8)):Lib.join (a::b::l) [32]=a++32::Lib.join (b::l) [32]:=by
 unfold Lib.join;rw [List.intercalate_cons_cons];simp
theorem zmv (a:List UInt8):Lib.join [a] [32]=a:=by
 unfold Lib.join;exact List.intercalate_singleton
theorem zmw : ∀ {l m:List (List UInt8)},(∀ x∈l,∀ e∈x,e ≠ 32)→(∀ x∈m,∀ e∈x,e ≠ 32)→l ≠ []→m ≠ []→Lib.join l [32]=Lib.join m [32]→l=m
 | [],_,_,_,h,_,_=>absurd rfl h
 | _,[],_,_,_,h,_=>absurd rfl h
 | [a],[b],_,_,_,_,h=>by rw [zmv,zmv] at h;rw [h]
 | [a],b::c::m,ha,_,_,_,h=>by
  rw [zmv,zmu] at h;exact (zmt (ha a (List.mem_cons_self ..)) h.symm).elim
 | a::b::l,[c],_,hc,_,_,h=>by
  rw [zmv,zmu] at h;exact (zmt (hc c (List.mem_cons_self ..)) h).elim
 | a::b::l,c::d::m,ha,hc,_,_,h=>by
  rw [zmu,zmu] at h;obtain ⟨h1,h2⟩:=zms (ha a (List.mem_cons_self ..)) (hc c (List.mem_cons_self ..)) h;rw [h1,zmw (fun x hx=>ha x (List.mem_cons_of_mem _ hx)) (fun x hx=>hc x (List.mem_cons_of_mem _ hx)) (by simp) (by simp) h2]
theorem zmx (z:Int):∀ b∈itoa z,zmp b:=by
 intro b hb;unfold itoa at hb;split at hb
 ·rcases List.mem_cons.1 hb with e | e
  ·exact .inl e
  ·exact .inr (Dec.dig_dec _ b e)
 ·exact .inr (Dec.dig_dec _ b hb)
theorem zmy (r:Rat):∀ b∈frL r,zmp b∨b=47:=by
 unfold frL;intro b hb;split at hb
 ·exact .inl (zmx _ b hb)
 ·rcases List.mem_append.1 hb with h | h
  ·exact .inl (zmx _ b h)
  ·rcases List.mem_cons.1 h with h | h
   ·exact .inr h
   ·exact .inl (zmx _ b h)
theorem zmz {b:UInt8}(h:zmp b):b ≠ 47∧b ≠ 32∧b ≠ 40∧b ≠ 41:=by
 rcases h with rfl | h
 ·decide
 ·refine ⟨?_,?_,?_,?_⟩ <;> (rintro rfl;revert h;decide)
theorem zm2 {a b:Rat}(h:frL a=frL b):a=b:=by
 unfold frL at h;have na:∀ z:Int,∀ e∈itoa z,e ≠ 47:=fun z e he=>(zmz (zmx z e he)).1;split at h
 ·rename_i h1;split at h
  ·rename_i h2;exact Rat.ext (zbz h) (by rw [h1,h2])
  ·exact (zmt (na _) h.symm).elim
 ·split at h
  ·exact (zmt (na _) h).elim
  ·obtain ⟨h1,h2⟩:=zms (na _) (na _) h;exact Rat.ext (zbz h1) (by have:=zbz h2;omega)
theorem zm3 {a b:Rat}(h:sfx a=sfx b):a=b:=by
 have n40:∀ r:Rat,∀ l,frL r ≠ 40::l:=fun r l e=>by
  have:=zmy r 40 (by rw [e];exact List.mem_cons_self ..);rcases this with g | g
  ·exact (zmz g).2.2.1 rfl
  ·exact absurd g (by decide)
 unfold sfx at h;split at h
 ·rename_i h1;split at h
  ·rename_i h2;rw [h1,h2]
  ·split at h <;> simp at h
 ·split at h
  ·split at h
   ·simp at h
   ·split at h
    ·exact zm2 (by simpa using h)
    ·simp only [List.cons.injEq,true_and] at h;exact absurd h (n40 _ _)
  ·split at h
   ·simp at h
   ·split at h
    ·simp only [List.cons.injEq,true_and] at h;exact absurd h.symm (n40 _ _)
    ·simp only [List.cons.injEq,true_and,List.append_cancel_right_eq] at h;exact zm2 h
theorem zm4 (r:Rat):∀ b∈sfx r,b ≠ 32:=by
 have hf:∀ b∈frL r,b ≠ 32:=fun b hb=>by
  rcases zmy r b hb with g | g
  ·exact (zmz g).2.1
  ·rw [g];decide
 intro b hb;unfold sfx at hb;split at hb
 ·cases hb
 ·split at hb
  ·rcases List.mem_cons.1 hb with g | g
   ·rw [g];decide
   ·exact hf b g
  ·rcases List.mem_cons.1 hb with g | g
   ·rw [g];decide
   ·rcases List.mem_cons.1 g with g | g
    ·rw [g];decide
    ·rcases List.mem_append.1 g with g | g
     ·exact hf b g
     ·rw [List.mem_singleton.1 g];decide
def zm5 (bs:List UInt8)(x:List Rat):List (List UInt8):=(bs.zip x).filterMap fun e=>itm [e.1] e.2
theorem zm6 (b:UInt8)(bs:List UInt8)(r:Rat)(x:List Rat):zm5 (b::bs) (r::x)=(match itm [b] r with | none=>zm5 bs x | some z=>z::zm5 bs x):=by
 unfold zm5;rw [List.zip_cons_cons,List.filterMap_cons];split <;> rename_i h <;> rw [h]
theorem zm7 : ∀ {bs:List UInt8}{x:List Rat}{z:List UInt8},z∈zm5 bs x→∃ b l,z=b::l∧b∈bs
 | [],_,_,h=>by simp [zm5] at h
 | _::_,[],_,h=>by simp [zm5] at h
 | b::bs,r::x,z,h=>by
  rw [zm6] at h;have key:z∈zm5 bs x→∃ c l,z=c::l∧c∈b::bs:=fun g=>by
   obtain ⟨c,l,e,hc⟩:=zm7 g;exact ⟨c,l,e,List.mem_cons_of_mem _ hc⟩
  unfold itm at h;split at h
  ·exact key h
  ·rename_i y hy;split at hy
   ·cases hy
   ·cases hy
    rcases List.mem_cons.1 h with g | g
    ·exact ⟨b,sfx r,by rw [g];rfl,List.mem_cons_self ..⟩
    ·exact key g
theorem zm8 : ∀ {bs:List UInt8}{x y:List Rat},bs.Nodup→x.length=bs.length→y.length=bs.length→zm5 bs x=zm5 bs y→x=y
 | [],[],[],_,_,_,_=>rfl
 | b::bs,r::x,s::y,hn,hx,hy,h=>by
  rw [List.nodup_cons] at hn;have ih:=zm8 (bs:=bs) (x:=x) (y:=y) hn.2 (by simpa using hx) (by simpa using hy);rw [zm6,zm6] at h;have out:∀ (z:List UInt8)(l:List (List UInt8))(w:List Rat),zm5 bs w=([b]++z)::l→False:=fun z l w e=>by
   obtain ⟨c,m,e2,hc⟩:=zm7 (bs:=bs) (x:=w) (z:=[b]++z) (by rw [e];exact List.mem_cons_self ..)
   cases e2
   exact hn.1 hc
  unfold itm at h;by_cases h1:r.num=0
  ·by_cases h2:s.num=0
   ·rw [if_pos h1,if_pos h2] at h;rw [ih h,Rat.num_eq_zero.1 h1,Rat.num_eq_zero.1 h2]
   ·rw [if_pos h1,if_neg h2] at h;exact (out _ _ _ h).elim
  ·by_cases h2:s.num=0
   ·rw [if_neg h1,if_pos h2] at h;exact (out _ _ _ h.symm).elim
   ·rw [if_neg h1,if_neg h2] at h;simp only [List.cons.injEq,List.cons_append,List.nil_append,true_and] at h;rw [zm3 h.1,ih h.2]
theorem zm9 : ∀ {p:List Int}{bs:List UInt8},p.map itoa=bs.map (fun b=>[b])→∀ x,zmr p x=zm5 bs x
 | [],[],_,_=>rfl
 | [],_::_,h,_=>by cases h
 | _::_,[],h,_=>by cases h
 | q::p,b::bs,h,x=>by
  cases x with
  | nil=>rfl
  | cons r x =>
   simp only [List.map_cons,List.cons.injEq] at h
   have ih:=zm9 h.2 x
   unfold zmr zm5 at ih ⊢
   rw [List.zip_cons_cons,List.zip_cons_cons,List.filterMap_cons,List.filterMap_cons]
   dsimp only
   rw [h.1,ih]
theorem zmA {p:List Int}(hp:p=[2,3]∨p=[2,3,5]):∃ bs:List UInt8,bs.Nodup∧bs.length=p.length∧(∀ x,zmr p x=zm5 bs x)∧∀ b∈bs,b ≠ 32∧b ≠ 49:=by
 have e2:itoa 2=[50]:=by unfold itoa;rw [if_neg (by omega),decDigits_one (by decide)];rfl
 have e3:itoa 3=[51]:=by unfold itoa;rw [if_neg (by omega),decDigits_one (by decide)];rfl
 have e5:itoa 5=[53]:=by unfold itoa;rw [if_neg (by omega),decDigits_one (by decide)];rfl
 rcases hp with rfl | rfl
 ·exact ⟨[50,51],by decide,rfl,zm9 (by rw [List.map_cons,List.map_cons,e2,e3];rfl),by decide⟩
 ·exact ⟨[50,51,53],by decide,rfl,zm9 (by rw [List.map_cons,List.map_cons,List.map_cons,e2,e3,e5];rfl),by decide⟩
theorem zmB {bs:List UInt8}(hb:∀ b∈bs,b ≠ 32∧b ≠ 49):∀ {x:List Rat},∀ z∈zm5 bs x,∀ e∈z,e ≠ 32:=by
 induction bs with
 | nil=>intro x z h;simp [zm5] at h
 | cons b bs ih =>
  intro x z h
  cases x with
  | nil=>simp [zm5] at h
  | cons r x =>
   have ih2:=fun z hz=>ih (fun c hc=>hb c (List.mem_cons_of_mem _ hc)) (x:=x) z hz
   rw [zm6] at h
   unfold itm at h
   split at h
   ·exact ih2 z h
   ·rename_i y hy
    split at hy
    ·cases hy
    ·cases hy
     rcases List.mem_cons.1 h with g | g
     ·intro e he
      rw [g] at he
      rcases List.mem_cons.1 he with k | k
      ·rw [k];exact (hb b (List.mem_cons_self ..)).1
      ·exact zm4 r e k
     ·exact ih2 z g
theorem zmC {b:UInt8}{l:List UInt8}{m:List (List UInt8)}:∃ t,Lib.join ((b::l)::m) [32]=b::t:=by
 cases m with
 | nil=>exact ⟨l,zmv _⟩
 | cons c m=>exact ⟨_,zmu _ _ _⟩
theorem zmD {p:List Int}{x y:List Rat}(hp:p=[2,3]∨p=[2,3,5])(hx:x.length=p.length)(hy:y.length=p.length)(h:txt p x=txt p y):x=y:=by
 obtain ⟨bs,hn,hl,he,hb⟩:=zmA hp;unfold txt at h;rw [he x,he y] at h;have out:∀ w:List Rat,zm5 bs w ≠ []→[49]=Lib.join (zm5 bs w) [32]→False:=fun w h1 h2=>by
  cases hw:zm5 bs w with
  | nil=>exact h1 hw
  | cons z m =>
   obtain ⟨b,l,e,hbm⟩:=zm7 (bs:=bs) (x:=w) (z:=z) (by rw [hw];exact List.mem_cons_self ..)
   rw [hw,e] at h2
   obtain ⟨t,ht⟩:=zmC (b:=b) (l:=l) (m:=m)
   rw [ht] at h2
   cases h2
   exact (hb _ hbm).2 rfl
 by_cases h1:zm5 bs x=[]
 ·by_cases h2:zm5 bs y=[]
  ·exact zm8 hn (hx.trans hl.symm) (hy.trans hl.symm) (h1.trans h2.symm)
  ·rw [if_pos h1,if_neg h2] at h;exact (out y h2 h).elim
 ·by_cases h2:zm5 bs y=[]
  ·rw [if_neg h1,if_pos h2] at h;exact (out x h1 h.symm).elim
  ·rw [if_neg h1,if_neg h2] at h;exact zm8 hn (hx.trans hl.symm) (hy.trans hl.symm) (zmw (fun z hz=>zmB hb z hz) (fun z hz=>zmB hb z hz) h1 h2 h)
end
end Go.Proofs.YtiameffonflhgaaGreatDoor
