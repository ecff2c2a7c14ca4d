/- Walks: subset.Count, subset.Next where nothing is wrong. -/
import Derived.Test.YtiameffonflhgaaGreatDoorPk37
import Derived.Test.YtiameffonflhgaaGreatDoorPk39
import Derived.Test.YtiameffonflhgaaGreatDoorPk40
set_option maxRecDepth 100000
set_option maxHeartbeats 2000000
namespace Go.Proofs.YtiameffonflhgaaGreatDoor
open Go.RowKit Go.Lib Go.Shelf
attribute [local go_sem] Oper.semAt_some
theorem zsa {p:List Int}{N:List (List Rat)}{m:Nat}{P:Int}{M:List Int}{b:Bool}{fs:List Fw}(h:zpS p N m P M)(hm:fs.map Fw.l=srL P b p N (cho N.length m M N.length [] 0)):fs.length≤5000:=by
 have h1:=zn1 P b p N (cho N.length m M N.length [] 0);rw [← hm,List.length_map] at h1;have:=h.cs;omega
theorem zsb {p:List Int}{N:List (List Rat)}{m:Nat}{P:Int}{M:List Int}{b:Bool}{fs:List Fw}(h:zpS p N m P M)(hm:fs.map Fw.l=srL P b p N (cho N.length m M N.length [] 0)){f:Fw}(hf:f∈fs):f.l.length≤60:=by
 have h1:f.l∈srL P b p N (cho N.length m M N.length [] 0):=by rw [← hm];exact List.mem_map.2 ⟨f,hf,rfl⟩
 exact (h.all _ (znz h1).1).1
theorem zsc (v:Value)(p:List Int)(rs:List Qw)(m:Nat)(P:Int)(M:List Int)(b:Bool)(w:World)(he:Env w)(hv:QyV w v p rs (m:Int) P M b)(h:zpS p (rs.map Qw.x) m P M) :
  Calls Tryz.prog 26 #[v] w fun e w'=>e=.returned (.tuple #[.int .i64 ((srL P b p (rs.map Qw.x) (cho rs.length m M rs.length [] 0)).length:Nat),.int .i64 0])∧Ext w w':=by
 have hsr:=fun W u (hE:Ext w W)(hu:QyV W u p rs (m:Int) P M b)=>zpT u p rs m P M b W (he.ext hE) hu h;obtain ⟨ap,cp,an,cn,am,cm,rfl,hs,hmm⟩:=hv.let;have hE0:Ext w (w.alloc (.cells #[.slice ap p.length cp,.slice an rs.length cn,.int .i64 (m:Int),.int .i64 P,.slice am M.length cm,.bool b] 59)):=(Ext.refl w).alloc _;have hb:=znK.new w (.slice ap p.length cp) (.slice an rs.length cn) (m:Int) P (.slice am M.length cm) b;have hs0:=hsr _ _ hE0 (hv.ext hE0);have Hs0:=hid hs0;have HE0:=hid hE0;have Hb:=hid hb;clear hsr hE0 hb hs0 hs hmm hv h he;obtain ⟨q0,q1,q2,q3,q4,q5⟩:=Hb.out.cs;generalize srL P b p (rs.map Qw.x) (cho rs.length m M rs.length [] 0)=L at *;go_enter Tryz.func26,Tryz.ntmps26
 go_wp2_with fail
 refine Hs0.out.mono ?_;rintro e w1 ⟨us,vs,fs,rfl,hf,hm,hx⟩;have hf2:=hf.mono (HE0.out).size;have hL:L.length=fs.length:=by rw [← hm,List.length_map]
 obtain ⟨a1,c1,rfl⟩:=zec hf2.us;obtain ⟨a2,c2,rfl⟩:=zec hf2.vs;have HL:=hid hL;have HE1:=hid (HE0.out.trans hx);clear hf hf2 hm hx q0 q1 q2 q3 q4 q5 hL;go_wp2_with fail
 go_ret2
 exact ⟨by rw [HL.out] <;> rfl,HE1.out⟩
def NxV (W:World)(L:List (List Int))(y:List Int)(e:Ending):Prop :=
 ∃ u,(∃ x,L.find? (fun x=>decide (0<zrW x y))=some x∧Sl W u (zaq x)∧e=.returned (.tuple #[u,.bool true,.int .i64 0])) ∨
  (L.find? (fun x=>decide (0<zrW x y))=none∧e=.returned (.tuple #[.slice none 0 0,.bool false,.int .i64 0]))
theorem zsd {L:List (List Int)}{q:List Int→Bool}{k:Nat}{x:List Int}(hk:L[k]?=some x):(L.drop k).find? q=if q x=true then some x else (L.drop (k+1)).find? q:=by
 obtain ⟨h1,h2⟩:=List.getElem?_eq_some_iff.1 hk;rw [List.drop_eq_getElem_cons h1,h2,List.find?_cons]
 cases q x <;> rfl
theorem zse (v vl:Value)(p:List Int)(rs:List Qw)(m:Nat)(P:Int)(M:List Int)(b:Bool)(y:List Int)(w:World)(he:Env w)(hv:QyV w v p rs (m:Int) P M b)(hy:Sl w vl (zaq y))(hy6:y.length≤1000)(h:zpS p (rs.map Qw.x) m P M) :
  Calls Tryz.prog 27 #[v,vl] w fun e w'=>NxV w' (srL P b p (rs.map Qw.x) (cho rs.length m M rs.length [] 0)) y e∧Ext w w':=by
 have hsr:=fun W u (hE:Ext w W)(hu:QyV W u p rs (m:Int) P M b)=>(zpT u p rs m P M b W (he.ext hE) hu h).mono fun e w' ⟨us,vs,fs,h1,h2,h3,h4⟩=>(show ∃ us vs fs,e=Ending.returned (.tuple #[us,vs,.int .i64 0])∧Fnd w' W.heap.size p (rs.map Qw.x) us vs fs∧fs.map Fw.l=srL P b p (rs.map Qw.x) (cho rs.length m M rs.length [] 0)∧Ext W w'∧fs.length≤5000∧∀ f∈fs,f.l.length≤60 from
  have hL:(rs.map Qw.x).length=rs.length:=List.length_map ..
  have h5:fs.map Fw.l=srL P b p (rs.map Qw.x) (cho (rs.map Qw.x).length m M (rs.map Qw.x).length [] 0):=by rw [hL];exact h3
  ⟨us,vs,fs,h1,h2,h3,h4,zsa h h5,fun f hf=>zsb h h5 hf⟩)
 obtain ⟨al,cl,rfl,_,_,_⟩:=hy.parts;rw [zas] at *;obtain ⟨ap,cp,an,cn,am,cm,rfl,hs,hmm⟩:=hv.let;have hE0:Ext w (w.alloc (.cells #[.slice ap p.length cp,.slice an rs.length cn,.int .i64 (m:Int),.int .i64 P,.slice am M.length cm,.bool b] 59)):=(Ext.refl w).alloc _;have hb:=znK.new w (.slice ap p.length cp) (.slice an rs.length cn) (m:Int) P (.slice am M.length cm) b;have hs0:=hsr _ _ hE0 (hv.ext hE0);have Hs0:=hid hs0;have HE0:=hid hE0;have Hb:=hid hb;have Hy:=hid hy;clear hsr hE0 hb hs0 hs hmm hv h he hy;obtain ⟨q0,q1,q2,q3,q4,q5⟩:=Hb.out.cs;generalize srL P b p (rs.map Qw.x) (cho rs.length m M rs.length [] 0)=L at *;generalize hyn:y.length=Y at *;have Hyn:=hid hyn;clear hyn;go_enter Tryz.func27,Tryz.ntmps27
 go_wp2_with fail
 refine Hs0.out.mono ?_;rintro e w1 ⟨us,vs,fs,rfl,hf,hm,hx,hn5,h60⟩;have hf2:=hf.r;obtain ⟨a1,c1,rfl⟩:=zec hf.us;obtain ⟨a2,c2,rfl⟩:=zec hf.vs;have Hf:=hid hf2;have Hm:=hid hm;have HE1:=hid (HE0.out.trans hx);have H60:=hid h60;clear hf hf2 hm hx q0 q1 q2 q3 q4 q5 h60;have hfl:(fwI fs).length=fs.length:=zrD fs;have hmf:(fwI fs).map Iw.l=L:=(zrC fs).trans Hm.out;generalize hgs:fwI fs=gs at *;have hg60:∀ g∈gs,g.l.length≤60:=fun g hg=>by
  rw [← hgs] at hg;obtain ⟨f,hf,rfl⟩:=List.mem_map.1 hg;exact H60.out f hf
 have Hmf:=hid hmf;have Hg60:=hid hg60;have Hy1:=hid (HE1.out.sl Hy.out);clear hmf hg60 hgs Hm H60;rw [← hfl] at hn5 ⊢;clear hfl;go_wp2_with fail
 go_loopw [10,22] (fun v10 v22 wr=>∃ k:Nat,v22=.int .i64 k∧k≤gs.length∧Hid (L.find? (fun x=>decide (0<zrW x y))=(L.drop k).find? (fun x=>decide (0<zrW x y)))∧Ext w1 wr) (fun _ v22 _=>gs.length - (zam v22).toNat)
 case atStart=>exact ⟨0,rfl,Nat.zero_le _,hid (by rw [List.drop_zero]),Ext.refl _⟩
 case round =>
  obtain ⟨k,rfl,hk,HT,hE⟩:=hrel;by_cases hkl:k<gs.length
  ·obtain ⟨f,hfk⟩:∃ f,gs[k]?=some f:=⟨_,List.getElem?_eq_getElem hkl⟩;have hLk:L[k]?=some f.l:=(by rw [← Hmf.out,List.getElem?_map,hfk];rfl);have hfd:=zsd (q:=fun x=>decide (0<zrW x y)) hLk;obtain ⟨b1,o1,a5,c5,rfl,hc1,hs1⟩:=(Hf.out.ext hE).at' hfk;have hcm:=zrZ _ _ f.l y wr hs1 (hE.sl Hy1.out) (by have:=Hg60.out f (List.mem_of_getElem? hfk);omega) (by have:=Hyn.out;omega);have hk0:(0:Int)≤(k:Int):=(by omega);have hk1:(k:Int)<(gs.length:Int):=(by omega);have Hcm:=hid hcm;have Hfd:=hid hfd;have HE:=hid hE;have Hs1:=hid hs1;clear hcm hfd hE hs1 hfk hLk;by_cases hc:0<zrW f.l y
   ·have hfo:L.find? (fun x=>decide (0<zrW x y))=some f.l:=(by rw [HT.out,Hfd.out,if_pos (decide_eq_true hc)]);have Hfo:=hid hfo;clear hfo;generalize zrW f.l y=cc at *;go_wp2_with fail
    refine Hcm.out.mono ?_;rintro e w3 ⟨rfl,rfl⟩;go_wp2_with fail
    go_ret3
    exact ⟨⟨_,.inl ⟨f.l,Hfo.out,Hs1.out,rfl⟩⟩,HE1.out.trans HE.out⟩
   ·have hfo:L.find? (fun x=>decide (0<zrW x y))=(L.drop (k+1)).find? (fun x=>decide (0<zrW x y)):=(by rw [HT.out,Hfd.out,if_neg (by simpa using hc)]);have Hfo:=hid hfo;clear hfo;generalize zrW f.l y=cc at *;go_wp2_with fail
    refine Hcm.out.mono ?_;rintro e w3 ⟨rfl,rfl⟩;go_wp2_with fail
    go_roundw
    case rel=>exact ⟨k+1,by go_num,by omega,Hfo,HE.out⟩
    case measure=>simp [zam];omega
  ·obtain rfl:k=gs.length:=by omega
   have hfo:L.find? (fun x=>decide (0<zrW x y))=none:=by
    rw [HT.out,List.drop_eq_nil_of_le (by rw [← Hmf.out,List.length_map];omega)];rfl
   have Hfo:=hid hfo;have HE:=hid hE;clear hfo hE;go_wp2_with fail
   go_ret3
   exact ⟨⟨.slice none 0 0,.inr ⟨Hfo.out,rfl⟩⟩,HE1.out.trans HE.out⟩
end Go.Proofs.YtiameffonflhgaaGreatDoor
