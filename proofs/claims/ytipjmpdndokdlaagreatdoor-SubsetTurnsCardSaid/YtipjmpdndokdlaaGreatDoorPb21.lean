/- Plain: classes of modes, inversion, moments of symmetry; strict scales are the proper ones that are constant. Walk: slices.insertionSortCmpFunc and SortFunc at sizes, with a bound method as the compare. Walk: scale.Note of a right scale. Walks: class.look: the view of a scale: its notes up to two periods. Walks: schismaref03's To and Of at one digit. Walks: law 31's add, times, less. Walk: scale.Chain of at most nine links. Walks: law 31's reduce, order, and the closures of its collect. Walk: law 31's collect of at most nine sizes. Walks: law 31's Size of a world's numbers. -/
import Derived.Test.YtipjmpdndokdlaaGreatDoorPb20
import Derived.Test.YtipjmpdndokdlaaGreatDoorPb17
import Derived.Shelf.RegionOpenPlain
import Derived.Shelf.Abstract
import Derived.Shelf.SlicesE.Kit
import Derived.Deep.RegionHeld3
import Derived.Test.YtipjmpdndokdlaaGreatDoorPb11
import Derived.Test.YtipjmpdndokdlaaGreatDoorPb19
import Derived.Test.YtipjmpdndokdlaaGreatDoorPb08
import Derived.Test.YtipjmpdndokdlaaGreatDoorShelfF
import Derived.Shelf.Strings.Prefix
import Derived.Test.YtipjmpdndokdlaaGreatDoorPb10
import Derived.Deep.QuietTactic
import Derived.Test.YtipjmpdndokdlaaGreatDoorPb09
set_option maxRecDepth 100000
set_option maxHeartbeats 4000000
namespace Go.Proofs.YtipjmpdndokdlaaGreatDoor
section
variable {p : List Int} {N : List (List Rat)} (h : Wc p N)
include h
theorem Wc.mode (m : Int) : Wc p (md p N m):=by
 refine ⟨h.wd.mode m,?_,by rw [md_len];exact h.few⟩
 obtain ⟨n,hn⟩:=h.iv_nic
 have key:∀ x ∈ zer p.length :: md p N m,∃ k:Int,x=subZ (nt p N k) (nt p N m):=fun x hx=>by
  rcases List.mem_cons.1 hx with rfl | hx
  ·exact ⟨m,by rw [subZ_self,h.wd.ntlen]⟩
  ·unfold md at hx
   obtain ⟨k,_,rfl⟩:=List.mem_map.1 hx
   exact ⟨k,rfl⟩
 refine ⟨n,fun x hx y hy=>?_⟩
 obtain ⟨k,rfl⟩:=key x hx
 obtain ⟨l,rfl⟩:=key y hy
 rw [subZ_subZ (by rw [h.wd.ntlen,h.wd.ntlen]) (by rw [h.wd.ntlen,h.wd.ntlen])]
 have:=hn l (k - l)
 unfold iv at this
 rwa [show l + (k - l)=k by omega] at this
theorem Wc.iv_md (m i d : Int) : iv p (md p N m) i d=iv p N (m + i) d:=by
 unfold iv
 rw [h.wd.nt_md,h.wd.nt_md,subZ_subZ (by rw [h.wd.ntlen,h.wd.ntlen]) (by rw [h.wd.ntlen,h.wd.ntlen]),show m + (i + d)=m + i + d by omega]
theorem Wc.cls_md (m d : Int) : cls p (md p N m) d=cls p N d:=by
 refine srt_uniq ((h.mode m).cls_srt d) (h.cls_srt d) fun x=>?_
 rw [(h.mode m).cls_mem,h.cls_mem]
 constructor
 ·rintro ⟨i,e⟩
  exact ⟨m + i,by rw [e,h.iv_md]⟩
 ·rintro ⟨i,e⟩
  exact ⟨i - m,by rw [e,h.iv_md,show m + (i - m)=i by omega]⟩
/-- No size of a class is above one of the next class; none is equal either; none is in two classes. -/
def Pro (p : List Int) (N : List (List Rat)) : Prop:=∀ d : Nat,d < N.length → ∀ x ∈ cls p N (d : Int),∀ y ∈ cls p N ((d + 1 : Nat) : Int),sF p x ≤ sF p y
def Str (p : List Int) (N : List (List Rat)) : Prop:=∀ d : Nat,d < N.length → ∀ x ∈ cls p N (d : Int),∀ y ∈ cls p N ((d + 1 : Nat) : Int),sF p x < sF p y
def Cst (p : List Int) (N : List (List Rat)) : Prop:=∀ d u : Nat,d < u → u ≤ N.length → ∀ x ∈ cls p N (d : Int),x ∉ cls p N (u : Int)
end
theorem pro_md {p : List Int} {N : List (List Rat)} (h : Wc p N) (m : Int) : (Pro p (md p N m) ↔ Pro p N) ∧ (Str p (md p N m) ↔ Str p N) ∧ (Cst p (md p N m) ↔ Cst p N):=by
 unfold Pro Str Cst
 simp only [md_len,h.cls_md]
 exact ⟨trivial,trivial,trivial⟩
end Go.Proofs.YtipjmpdndokdlaaGreatDoor

namespace Go.Proofs.YtipjmpdndokdlaaGreatDoor
open Go.RowKit Go.Lib Go.Shelf
theorem insV_c {α : Type} (enc : α → Value) (key : α → Rat) (g : Nat) (u : Value) (B blk cap : Nat) (d0 d : List α) (W0 w : World) (hR : InR 37 W0 B blk cap enc d0 w d) (hl : d0.length ≤ 1000) (h1 : OneCell enc)
  (eg:∀ args w,(callFunc g args).run Tryz.prog w=.ok (.enter g args) w)
  (hcmp:∀ W,W0.grownBy W (some blk)→∀ x ∈ d0,∀ y ∈ d0,Calls Tryz.prog g #[u,enc x,enc y] W fun e w'=>(∃ z:Int,e=.returned (.int .i64 z)∧(z < 0 ↔ key x < key y))∧Ext W w') :
  Calls Tryz.prog 158 #[.slice (some ⟨blk,0,none⟩) d0.length cap,.int .i64 0,.int .i64 d0.length,.func (.func g) #[u] #[]] w fun e w'=>e=.returned (.tuple #[])∧∃ d',InR 37 W0 B blk cap enc d0 w' d'∧d'.Pairwise fun x y=>key x ≤ key y:=by
 have mixed:Tryz.prog.follows .mixedOrders=true:=by kernel_rfl
 have hcl0:=h1.cells
 simp only [Value.cells] at hcl0
 have hst:=h1.store Tryz.prog
 generalize hn:d0.length=n at *
 have HR:=Lib.hid hR;have Hcmp:=Lib.hid hcmp;have Hn:=Lib.hid hn
 clear hR hcmp hn
 go_enter Tryz.func158,Tryz.ntmps158
 go_wp2_with fail
 go_loopw [8] (fun vi wr=>∃ (i:Nat) (dk:List α),vi=.int .i64 i∧1 ≤ i∧(i ≤ n ∨ i=1)∧Hid (STo key dk i)∧Hid (InR 37 W0 B blk cap enc d0 wr dk)) (fun vi _=>n + 1 - (intOf vi).toNat)
 case atStart=>exact ⟨1,d,rfl,Nat.le_refl _,.inr rfl,Lib.hid (sTo_one d),HR⟩
 case round =>
  clear HR
  obtain ⟨i,dk,rfl,hi1,hin,HS,HR⟩:=hrel
  by_cases hlt:i < n
  ·have hltz:(i:Int) < (n:Int):=by omega
   go_wp2_with fail
   obtain ⟨wa,hwa⟩:∃ wa,wa=wr:=⟨_,rfl⟩
   subst hwa
   go_loopw [9] (fun vj wr=>∃ (j:Nat) (dj:List α),vj=.int .i64 j∧j ≤ i∧Hid (SAt key dj i j)∧Hid (InR 37 W0 B blk cap enc d0 wr dj)) (fun vj _=>(intOf vj).toNat)
   case atStart=>exact ⟨i,dk,rfl,Nat.le_refl _,Lib.hid (s_start HS.out),HR⟩
   case round =>
    clear HR
    obtain ⟨j,dj,rfl,hji,HA,HR⟩:=hrel
    by_cases hja:0 < j
    ·obtain ⟨jp,hjp⟩:∃ q,q + 1=j:=⟨j - 1,by omega⟩
     have hjl:dj.length=n:=HR.out.len.trans Hn.out
     obtain ⟨x,hx⟩:∃ x,dj[jp + 1]?=some x:=⟨_,List.getElem?_eq_getElem (by omega)⟩
     obtain ⟨y,hy⟩:∃ y,dj[jp]?=some y:=⟨_,List.getElem?_eq_getElem (by omega)⟩
     obtain ⟨iN,hiN⟩:∃ q,q=j:=⟨_,rfl⟩
     obtain ⟨jN,hjN⟩:∃ q,q=jp:=⟨_,rfl⟩
     have c1:=HR.out.cell hx
     have c2:=HR.out.cell hy
     rw [hjp,← hiN] at c1
     rw [← hjN] at c2
     have hcm:=fun W (hE:Ext wr W)=>Hcmp.out W (only_ext HR.out.only hE) x (HR.out.mem hx) y (HR.out.mem hy)
     have hsw:=fun W (hE:Ext wr W)=>(HR.out.ext hE).swap hx hy
     have hcf:=fun W (hE:Ext wr W)=>(⟨(HR.out.ext hE).cell hx,(HR.out.ext hE).cell hy,(HR.out.ext hE).frozen (jp + 1),(HR.out.ext hE).frozen jp⟩:_∧_∧_∧_)
     have hex:=fun W (hE:Ext wr W)=>HR.out.ext hE
     have hij:jN < iN:=by omega
     rw [hjp,← hiN,← hjN] at hcf
     have hsw2:=fun W (hE:Ext wr W)=>(show InR 37 W0 B blk cap enc d0 ((W.setCell ⟨blk,iN,none⟩ (enc y)).setCell ⟨blk,jN,none⟩ (enc x)) ((dj.set (jp + 1) y).set jp x) by rw [hiN,hjN,← hjp];exact hsw W hE)
     have zjp:(j:Int)=(jp:Int) + 1:=by omega
     have hjad:decide ((jp:Int) + 1 > (0:Int))=true:=decide_eq_true (by omega)
     have hjaz:(0:Int) < (jp:Int) + 1:=by omega
     have ea:((jp:Int) + 1).toNat=iN:=by omega
     have pa:(0:Int) ≤ (jp:Int) + 1:=by omega
     have ba:(jp:Int) + 1 < (n:Int):=by omega
     have ra:IntKind.i64.wrap ((jp:Int) + 1)=(jp:Int) + 1:=by rw [IntKind.wrap_i64];omega
     have ec:((jp:Int)).toNat=jN:=by omega
     have pc:(0:Int) ≤ (jp:Int):=by omega
     have bc:(jp:Int) < (n:Int):=by omega
     have rc:IntKind.i64.wrap ((jp:Int))=(jp:Int):=by rw [IntKind.wrap_i64];omega
     have Hx:=Lib.hid hx;have Hy:=Lib.hid hy;have Hcm:=Lib.hid hcm;have Hsw:=Lib.hid hsw2;have Hcf:=Lib.hid hcf;have Hex:=Lib.hid hex;have HiN:=Lib.hid hiN;have HjN:=Lib.hid hjN
     clear hx hy hcm hsw hsw2 hcf hex hjl hiN hjN HR
     by_cases hxy:key x < key y
     ·have hxy2:key x ≤ key y:=Rat.le_of_lt hxy
      have Hxy:=Lib.hid hxy;have Hxy2:=Lib.hid hxy2;clear hxy hxy2
      go_wp2_with fail
      go_region_held3 (fun w'=>Ext wr w'∧w'.cell? ⟨blk,iN,none⟩=some (enc x)∧w'.cell? ⟨blk,jN,none⟩=some (enc y))
       (first | (with_reducible assumption) | exact ⟨(Ext.refl wr).drew,c1,c2⟩)
       (first | (go_at_fn g;refine (Hcm.out _ (And.left (by assumption))).mono ?_;rintro e9 VA ⟨⟨z,rfl,hz⟩,hxa⟩;have hEA:=((Ext.refl wr).drew).trans hxa;have hS2:Ext wr VA∧VA.cell? ⟨blk,iN,none⟩=some (enc x)∧VA.cell? ⟨blk,jN,none⟩=some (enc y):=⟨hEA,hEA.cell c1,hEA.cell c2⟩;have hz1:z < 0:=hz.2 Hxy.out;have hz2:decide (z < 0)=true:=decide_eq_true hz1;have HEA:=Lib.hid hEA;clear hxa hEA hz))
      all_goals
       clear hS2 c1 c2
       obtain ⟨k1,k2,k3,k4⟩:=Hcf.out VA HEA.out
       have S3:=Lib.hid (Hsw.out VA HEA.out)
       have c3:∃ u,(VA.setCell ⟨blk,iN,none⟩ (enc y)).cell? ⟨blk,jN,none⟩=some u:=by
        rw [World.cell?_setCell_other _ _ _ _ (by intro e';simp only [Addr.mk.injEq] at e';omega)]
        exact ⟨_,k2⟩
       obtain ⟨u3,c3⟩:=c3
       go_wp2_with fail
       go_big_region_o
       have S4:=Lib.hid (S3.out.ext ((Ext.refl _).drew))
       have HA2:=Lib.hid (s_swap (show SAt key dj i (jp + 1) by rw [hjp];exact HA.out) Hx.out Hy.out Hxy2.out)
       clear c3 k1 k2 k3 k4 S3
       generalize ((VA.setCell ⟨blk,iN,none⟩ (enc y)).setCell ⟨blk,jN,none⟩ (enc x)).drew=w3 at S4 ⊢
       clear ea ec
       go_wp2_with fail
       go_roundw
       case rel=>exact ⟨jp,(dj.set (jp + 1) y).set jp x,by first | rfl | go_num | (congr 1;omega),by omega,HA2,S4⟩
       case measure=>simp [intOf];omega
     ·have Hxy:=Lib.hid (Rat.not_lt.1 hxy);have hxy2:=Lib.hid hxy;clear hxy
      go_wp2_with fail
      go_region_held3 (fun w'=>Ext wr w'∧w'.cell? ⟨blk,iN,none⟩=some (enc x)∧w'.cell? ⟨blk,jN,none⟩=some (enc y))
       (first | (with_reducible assumption) | exact ⟨(Ext.refl wr).drew,c1,c2⟩)
       (first | (go_at_fn g;refine (Hcm.out _ (And.left (by assumption))).mono ?_;rintro e9 VA ⟨⟨z,rfl,hz⟩,hxa⟩;have hEA:=((Ext.refl wr).drew).trans hxa;have hS2:Ext wr VA∧VA.cell? ⟨blk,iN,none⟩=some (enc x)∧VA.cell? ⟨blk,jN,none⟩=some (enc y):=⟨hEA,hEA.cell c1,hEA.cell c2⟩;have hz1:¬ z < 0:=fun h=>hxy2.out (hz.1 h);have hz2:decide (z < 0)=false:=decide_eq_false hz1;have HEA:=Lib.hid hEA;clear hxa hEA hz))
      all_goals
       clear hS2 c1 c2
       have S4:=Lib.hid (Hex.out VA HEA.out)
       have HS2:=Lib.hid (s_end (show SAt key dj i (jp + 1) by rw [hjp];exact HA.out) Hx.out Hy.out Hxy.out)
       clear ea ec
       go_wp2_with fail
       go_roundw
       case rel=>exact ⟨i + 1,dj,by go_num,by omega,.inl (by omega),HS2,S4⟩
       case measure=>simp [intOf];omega
    ·obtain rfl:j=0:=by omega
     have hjaz:decide (((0:Nat):Int) > (0:Int))=false:=by decide
     have hjaz':¬ ((0:Nat):Int) > (0:Int):=by decide
     have HS2:=Lib.hid (s_end0 HA.out)
     go_wp2_with fail
     go_big_region_o
     have S4:=Lib.hid (HR.out.ext ((Ext.refl _).drew))
     clear HR
     generalize wr.drew=w3 at S4 ⊢
     go_wp2_with fail
     go_roundw
     case rel=>exact ⟨i + 1,dj,by go_num,by omega,.inl (by omega),HS2,S4⟩
     case measure=>simp [intOf];omega
  ·have hkk:¬ (i:Int) < (n:Int):=by omega
   go_wp2
   go_end0
   refine ⟨rfl,dk,HR.out,?_⟩
   have hS:STo key dk dk.length:=by
    rw [HR.out.len,Hn.out]
    intro a b x y h1 h2
    exact HS.out a b x y h1 (by omega)
   exact s_pairwise hS
theorem sortV_c {α : Type} (enc : α → Value) (key : α → Rat) (g : Nat) (u : Value) (B blk cap : Nat) (d : List α) (w : World) (hR : w.ownsRow B 37 1 (.slice (some ⟨blk,0,none⟩) d.length cap) d.length (d.map enc)) (hl : d.length ≤ 12) (h1 : OneCell enc)
  (eg:∀ args w,(callFunc g args).run Tryz.prog w=.ok (.enter g args) w)
  (hcmp:∀ W,w.grownBy W (some blk)→∀ x ∈ d,∀ y ∈ d,Calls Tryz.prog g #[u,enc x,enc y] W fun e w'=>(∃ z:Int,e=.returned (.int .i64 z)∧(z < 0 ↔ key x < key y))∧Ext W w') :
  Calls Tryz.prog 85 #[.slice (some ⟨blk,0,none⟩) d.length cap,.func (.func g) #[u] #[]] w fun e w'=>e=.returned (.tuple #[])∧∃ d',InR 37 w B blk cap enc d w' d'∧d'.Pairwise fun x y=>key x ≤ key y:=by
 have hi:=fun W (hE:Ext w W)=>insV_c enc key g u B blk cap d d w W ⟨List.Perm.refl _,hE.own hR,only_ext (only_refl _ _) hE⟩ (by omega) h1 eg hcmp
 have h2:∀ W (lim:Int),Ext w W→Calls Tryz.prog 126 #[.slice (some ⟨blk,0,none⟩) d.length cap,.int .i64 0,.int .i64 d.length,.int .i64 lim,.func (.func g) #[u] #[]] W fun e w'=>e=.returned (.tuple #[])∧∃ d',InR 37 w B blk cap enc d w' d'∧d'.Pairwise fun x y=>key x ≤ key y:=by
  intro W lim hE
  have Hi:=Lib.hid (hi W hE)
  generalize hn:d.length=n at *
  clear hi hR hcmp hn hE
  have t1:(n:Int) ≤ 12:=by omega
  go_enter Tryz.func126,Tryz.ntmps126
  go_wp2_with fail
  refine wp_loop_rounds 1 ?_
  rw [rounds_succ]
  go_wp2_with fail
  refine Hi.out.mono ?_
  rintro e w1 ⟨rfl,hd⟩
  have Hd:=Lib.hid hd
  clear hd
  go_wp2
  (try simp only [Exit.inBlock,Exit.then])
  refine bodyPost_ret (results_none rfl _ _ _) rfl ?_
  exact ⟨rfl,Hd.out⟩
 generalize hn:d.length=n at *
 have H2:=Lib.hid h2
 clear hi hR hcmp hn h2
 go_enter Tryz.func85,Tryz.ntmps85
 have hln:=fun W=>len_c n (by omega) W
 have Hln:=Lib.hid hln;clear hln
 have hw:IntKind.u64.wrap (n:Int)=(n:Int):=by rw [IntKind.wrap_u64];omega
 go_wp2_with fail
 refine (Hln.out _).mono ?_
 rintro e w1 ⟨rfl,rfl⟩
 go_wp2_with fail
 refine (H2.out w _ (Ext.refl w)).mono ?_
 rintro e w1 ⟨rfl,hd⟩
 have Hd:=Lib.hid hd
 clear hd
 go_wp2
 go_end0
 exact ⟨rfl,Hd.out⟩
end Go.Proofs.YtipjmpdndokdlaaGreatDoor

namespace Go.Proofs.YtipjmpdndokdlaaGreatDoor
open Go.RowKit Go.Lib
attribute [local go_sem] Oper.semAt_some
theorem scNote_c (v : Value) (p : List Int) (rs : List Qw) (n : Nat) (k : Int) (r : Qw) (w : World) (he : Env w) (hv : ScV w v p rs) (h : Right p rs) (hn : rs.length=n + 1) (hr : rs[n]?=some r) (hk0 : -1000000 ≤ k) (hk1 : k ≤ 1000000)
  (hq:Ft 400 ((k / ((n:Int) + 1):Int):Rat)) (hf1:∀ q ∈ mulZ r.x ((k / ((n:Int) + 1):Int):Rat),Ft 30 q) (hf2:∀ q ∈ noteQ rs n k,Ft 30 q) :
  Calls Tryz.prog 152 #[v,.int .i64 k] w fun e w'=>∃ g,e=.returned (.tuple #[.slice (some ⟨g,0,none⟩) p.length p.length,.int .i64 0])∧OwnQ w' w.heap.size (.slice (some ⟨g,0,none⟩) p.length p.length) (noteQ rs n k)∧Ext w w':=by
 have h1:=fun W (hE:Ext w W)=>scCheck_c v p rs W (he.ext hE) (hv.ext hE) h
 have h2:=fun W (hE:Ext w W)=>note_c v p rs n k r W (he.ext hE) (hv.ext hE) h hn hr (by omega) (by omega) hq hf1 hf2
 obtain ⟨vp,vn,rfl,hp,hs,hm⟩:=hv
 obtain ⟨ap,cp,rfl,_,_,_⟩:=hp.parts
 obtain ⟨an,cn,rfl,_,_,_⟩:=hs.parts
 generalize (i64s p).length=n1 at *
 generalize (qwc rs).length=n2 at *
 have bx:(w.alloc (.cells #[.slice ap n1 cp,.slice an n2 cn] 32)).heap[w.heap.size]?=some (.cells #[.slice ap n1 cp,.slice an n2 cn] 32 (0,0)):=World.alloc_heap_new w _
 have hE0:Ext w (w.alloc (.cells #[.slice ap n1 cp,.slice an n2 cn] 32)):=(Ext.refl w).alloc _
 have hbox:∀ W,Ext (w.alloc (.cells #[.slice ap n1 cp,.slice an n2 cn] 32)) W→W.cell? ⟨w.heap.size,0,none⟩=some (.slice ap n1 cp)∧W.cell? ⟨w.heap.size,1,none⟩=some (.slice an n2 cn):=fun W hE=>by
  have hb:=hE.heap bx
  unfold World.cell?
  dsimp only
  rw [hb]
  exact ⟨rfl,rfl⟩
 clear hp hs hm he h bx hq hf1 hf2 hn hr
 have H1:=Lib.hid h1;have H2:=Lib.hid h2;have HE0:=Lib.hid hE0;have Hbox:=Lib.hid hbox;clear h1 h2 hE0 hbox
 go_enter Tryz.func152,Tryz.ntmps152
 go_wp2_with fail
 refine (H1.out _ HE0.out).mono ?_
 rintro e w1 ⟨rfl,hx1⟩
 obtain ⟨q0,q1⟩:=Hbox.out w1 hx1
 have Hx1:=Lib.hid (HE0.out.trans hx1);clear hx1
 go_wp2_with fail
 refine (H2.out w1 Hx1.out).mono ?_
 rintro e w2 ⟨g,rfl,ho,hx2⟩
 have Ho:=Lib.hid (ho.mono Hx1.out.size)
 have Hx2:=Lib.hid (Hx1.out.trans hx2)
 clear ho hx2 q0 q1
 go_wp2
 go_ret2
 exact ⟨g,rfl,Ho.out,Hx2.out⟩
end Go.Proofs.YtipjmpdndokdlaaGreatDoor

namespace Go.Proofs.YtipjmpdndokdlaaGreatDoor
open Go.RowKit Go.Lib Go.Shelf
attribute [local go_sem] Oper.semAt_some
theorem ntN_c (v : Value) (p : List Int) (rs : List Qw) (k : Int) (w : World) (he : Env w) (hv : ScV w v p rs) (h : Wd p (rs.map Qw.x)) (hk0 : -1000 ≤ k) (hk1 : k ≤ 1000) :
  Calls Tryz.prog 152 #[v,.int .i64 k] w fun e w'=>∃ g,e=.returned (.tuple #[.slice (some ⟨g,0,none⟩) p.length p.length,.int .i64 0])∧OwnQ w' w.heap.size (.slice (some ⟨g,0,none⟩) p.length p.length) (nt p (rs.map Qw.x) k)∧Ext w w':=by
 have hpos:=h.pos
 rw [List.length_map] at hpos
 obtain ⟨n,hn⟩:∃ n,rs.length=n + 1:=⟨rs.length - 1,by omega⟩
 obtain ⟨r,hr⟩:∃ r,rs[n]?=some r:=⟨_,List.getElem?_eq_getElem (by omega)⟩
 have hrx:r.x=ov (p.length - 1):=by
  have:=h.last
  rw [List.length_map,hn,Nat.add_sub_cancel,List.getElem?_map,hr] at this
  exact Option.some.inj this
 have hnq:=h.noteQ hn k
 have hq:=h.nt_quick k hk0 hk1
 have hd:=div_bd (a:=k) (b:=(n:Int) + 1) (m:=1000) (by omega) hk0 hk1 (by omega)
 have:=scNote_c v p rs n k r w he hv h.right hn hr (by omega) (by omega) ((int_ft (k:=5) (by show _ < 100000;omega) (by omega)).mono (by omega)) (by rw [hrx];exact mul_ov_ft (by omega) (by omega)) (by rw [hnq];exact hq.1)
 rw [hnq] at this
 exact this
/-- The cells of a view. -/
def BoxV (w : World) (b : Nat) (u v s : Value) : Prop:=w.heap[b]?=some (.cells #[u,v,s] 196 (0,0))
section
variable {w w' : World} {b : Nat} {u v s : Value}
theorem BoxV.new (w : World) (u v s : Value) : BoxV (w.alloc (.cells #[u,v,s] 196)) w.heap.size u v s:=World.alloc_heap_new w _
theorem BoxV.ext (hx : Ext w w') (h : BoxV w b u v s) : BoxV w' b u v s:=hx.heap h
theorem BoxV.c0 (h : BoxV w b u v s) : w.cell? ⟨b,0,none⟩=some u:=by unfold World.cell?;dsimp only;rw [h];rfl
theorem BoxV.c1 (h : BoxV w b u v s) : w.cell? ⟨b,1,none⟩=some v:=by unfold World.cell?;dsimp only;rw [h];rfl
theorem BoxV.c2 (h : BoxV w b u v s) : w.cell? ⟨b,2,none⟩=some s:=by unfold World.cell?;dsimp only;rw [h];rfl
theorem BoxV.fz (h : BoxV w b u v s) (k : Nat) : w.frozen? ⟨b,k,none⟩=false:=frozen_of_row w b k #[u,v,s] _ h
theorem BoxV.put2 (h : BoxV w b u v s) (x : Value) : BoxV (w.setCell ⟨b,2,none⟩ x) b u v x:=heap_setCell_same w b 2 _ _ x h
end
theorem QwM.setV {W : World} {b B : Nat} {v : Value} {rs : List Qw} (h : QwM W b B v rs) {c : Nat} {cs : Array Value} (hc : W.heap[c]?=some (.cells cs 196 (0,0))) (k : Nat) (u : Value) : QwM (W.setCell ⟨c,k,none⟩ u) b B v rs :=
 ⟨own_set_apart hc h.1 (by decide) k u,fun r hr=>own_set_apart hc (h.2 r hr) (by decide) k u⟩
/-- The notes of a view under way. -/
def NvR (b : Nat) (W6 : World) (bs : Nat) (vp vn : Value) (xs : List (List Rat)) (wr : World) : Prop:=∃ (vs : Value) (nts : List Qw),BoxV wr bs vp vn vs ∧ QwM wr b W6.heap.size vs nts ∧ nts.map Qw.x=xs ∧ Ext W6 wr
theorem NvR.more {b : Nat} {W6 W V : World} {bs : Nat} {vp vn vs v7 u : Value} {x : List Rat} {nts : List Qw} {xs : List (List Rat)} {o : Obj} (hbs : W6.heap.size ≤ bs) (hb : BoxV W bs vp vn vs) (hq : QwM W b W6.heap.size vs nts) (hm : nts.map Qw.x=xs) (hE : Ext W6 W) (ho : OwnQ W b u x)
  (hown:V.ownsRow W6.heap.size 37 1 v7 (nts.length + 1) (qwc nts ++ [u])) (hgrow:(W.alloc o).grownBy V vs.ownBlock):NvR b W6 bs vp vn (xs ++ [x]) (V.setCell ⟨bs,2,none⟩ v7):=by
 have h1:=QwM.more2 (r:=⟨_,u,rd_one ho.rd⟩) hE (Nat.le_refl _) hq ho hown hgrow
 have hbV:BoxV V bs vp vn vs:=kept_box (((Ext.refl W).alloc o).heap hb) (World.ownsRow.alloc hq.1 o) (by decide) hgrow
 exact ⟨v7,_,hbV.put2 v7,h1.1.setV hbV 2 v7,by rw [List.map_append,hm];rfl,h1.2.setCell hbs v7⟩
/-- The notes up to two periods. -/
def nts2 (p : List Int) (N : List (List Rat)) : List (List Rat):=(List.range (2 * N.length + 1)).map fun (i : Nat) => nt p N (i : Int)
theorem nts2_len (p : List Int) (N : List (List Rat)) : (nts2 p N).length=2 * N.length + 1:=by unfold nts2;simp
theorem nts2_at {p : List Int} {N : List (List Rat)} {i : Nat} (hi : i < 2 * N.length + 1) : (nts2 p N)[i]?=some (nt p N (i : Int)):=by
 unfold nts2
 rw [List.getElem?_map,List.getElem?_range hi]
 rfl
/-- A view. -/
def Vw (w : World) (u : Value) (p : List Int) (rs : List Qw) : Prop:=∃ b vp vn vs nts,u=.pointer (some ⟨b,0,none⟩) ∧ BoxV w b vp vn vs ∧ Sl w vp (i64s p) ∧ RdM w vn rs ∧ RdM w vs nts ∧ nts.map Qw.x=nts2 p (rs.map Qw.x)
theorem Vw.ext {w w' : World} {u : Value} {p : List Int} {rs : List Qw} (h : Vw w u p rs) (hx : Ext w w') : Vw w' u p rs:=by
 obtain ⟨b,vp,vn,vs,nts,e,h1,h2,h3,h4,h5⟩:=h
 exact ⟨b,vp,vn,vs,nts,e,h1.ext hx,hx.sl h2,hx.rdM h3,hx.rdM h4,h5⟩
theorem look_c (v : Value) (p : List Int) (rs : List Qw) (w : World) (he : Env w) (hv : ScV w v p rs) (h : Wd p (rs.map Qw.x)) :
  Calls Tryz.prog 113 #[v] w fun e w'=>∃ u,e=.returned (.tuple #[u,.int .i64 0])∧Vw w' u p rs∧Ext w w':=by
 obtain ⟨j0,hj,hy0,hy1,hy2⟩:=info_parts info_size
 have hck:=fun W (hE:Ext w W)=>scCheck_c v p rs W (he.ext hE) (hv.ext hE) h.right
 have hnt:=fun (k:Int) (h0:-1000 ≤ k) (h1:k ≤ 1000) W (hE:Ext w W)=>ntN_c v p rs k W (he.ext hE) (hv.ext hE) h h0 h1
 have hfew:=h.few
 have hL:(rs.map Qw.x).length=rs.length:=List.length_map ..
 rw [hL] at hfew
 have hmd:∀ i,i < 2 * rs.length + 1→(nts2 p (rs.map Qw.x)).take (i + 1)=(nts2 p (rs.map Qw.x)).take i ++ [nt p (rs.map Qw.x) (i:Int)]:=fun i hi=>by
  have:=nts2_at (p:=p) (N:=rs.map Qw.x) (i:=i) (by rw [hL];exact hi)
  rw [List.take_add_one,this]
  rfl
 have hmf:(nts2 p (rs.map Qw.x)).take (2 * rs.length + 1)=nts2 p (rs.map Qw.x):=List.take_of_length_le (by rw [nts2_len,hL];exact Nat.le_refl _)
 have hml:(nts2 p (rs.map Qw.x)).length=2 * rs.length + 1:=by rw [nts2_len,hL]
 obtain ⟨vp,vn,rfl,hp,hs,hmr⟩:=hv
 obtain ⟨ap,cp,rfl,_,_,_⟩:=hp.parts
 obtain ⟨an,cn,rfl,_,_,_⟩:=hs.parts
 rw [i64s_length] at *
 rw [qwc_length] at *
 generalize hn:rs.length=n at *
 have hE0:Ext w (w.alloc (.cells #[.slice ap p.length cp,.slice an n cn] 32)):=(Ext.refl w).alloc _
 have b1:=BoxT.new 32 w (.slice ap p.length cp) (.slice an n cn)
 have Hck:=Lib.hid hck;have Hnt:=Lib.hid hnt;have Hmd:=Lib.hid hmd;have Hmf:=Lib.hid hmf;have Hml:=Lib.hid hml;have HE0:=Lib.hid hE0;have B1:=Lib.hid b1;have Hp:=Lib.hid hp;have Hs:=Lib.hid (And.intro hs hmr);have Hn:=Lib.hid hn
 clear hck hnt hmd hmf hml hE0 b1 hp hs hmr hn h he hL
 have q0:=B1.out.c0
 have q1:=B1.out.c1
 go_enter Tryz.func113,Tryz.ntmps113
 go_wp2_with fail
 refine (Hck.out _ HE0.out).mono ?_
 rintro e w6 ⟨rfl,hx6⟩
 have q0:=(B1.out.ext hx6).c0
 have q1:=(B1.out.ext hx6).c1
 have Hx6:=Lib.hid hx6
 clear hx6
 have Hb7:=Lib.hid (BoxV.new w6 (.slice ap p.length cp) (.slice an n cn) (.slice none 0 0))
 have H6x:Hid (Ext w6 (w6.alloc (.cells #[.slice ap p.length cp,.slice an n cn,.slice none 0 0] 196))):=Lib.hid ((Ext.refl w6).alloc _)
 have s0:=(B1.out.ext (Hx6.out.trans H6x.out)).c0
 have s1:=(B1.out.ext (Hx6.out.trans H6x.out)).c1
 go_wp2_with fail
 have hw0:IntKind.i64.wrap (IntKind.i64.wrap (2 * (n:Int)) + 1)=2 * (n:Int) + 1:=by rw [IntWalk.i64_in (2 * (n:Int)) (by omega),IntWalk.i64_in _ (by omega)]
 go_loopw [22] (fun v22 wr=>∃ i:Nat,v22=.int .i64 (i:Int)∧i ≤ 2 * n + 1∧NvR w6.heap.size w6 w6.heap.size (.slice ap p.length cp) (.slice an n cn) ((nts2 p (rs.map Qw.x)).take i) wr) (fun v22 _=>2 * n + 2 - (intOf v22).toNat)
 case atStart=>exact ⟨0,rfl,Nat.zero_le _,.slice none 0 0,[],Hb7.out,QwM.nil _ _ _,rfl,H6x.out⟩
 case round =>
  obtain ⟨i,rfl,hi,⟨vs,nts,hbn,hqn,hmn,hEn⟩⟩:=hrel
  have hE6:=Hx6.out.trans hEn
  have hEw:=HE0.out.trans hE6
  have q0:=(B1.out.ext hE6).c0
  have q1:=(B1.out.ext hE6).c1
  by_cases hin:i < 2 * n + 1
  ·have hik:(i:Int) < 2 * (n:Int) + 1:=by omega
   have hnk:=Hnt.out (i:Int) (by omega) (by omega) wr hEw
   have Hbn:=Lib.hid hbn;have Hqn:=Lib.hid hqn;have Hmn:=Lib.hid hmn;have HEn:=Lib.hid hEn;have HE6:=Lib.hid hE6;have HEw:=Lib.hid hEw;have Hnk:=Lib.hid hnk
   clear hbn hqn hmn hEn hE6 hEw hnk
   go_wp2_with fail
   refine Hnk.out.mono ?_
   rintro e w8 ⟨g8,rfl,ho8,hx8⟩
   obtain ⟨avs,cvs,rfl⟩:=own_shape Hqn.out.1
   have hnl:nts.length=i:=by
    have:=congrArg List.length Hmn.out
    rw [List.length_map,List.length_take,Hml.out] at this
    omega
   have hbk:=Hbn.out.ext hx8
   rw [hnl] at hbk
   have hqk:=hx8.qwM Hqn.out
   rw [hnl] at hqk
   have hqo:=hx8.own Hqn.out.1
   rw [hnl] at hqo
   have hEk:=HEn.out.trans hx8
   have hbase:=hEk.size
   have hok:=ho8.mono HEn.out.size
   have hm3:i + 1 ≤ maxLen:=by unfold maxLen;omega
   have hm4:(i + 1) * 24 ≤ 140737488355328:=by omega
   have r2:=hbk.c2
   have Hbk:=Lib.hid hbk;have Hqk:=Lib.hid hqk;have Hnl:=Lib.hid hnl;have HEk:=Lib.hid hEk;have Hok:=Lib.hid hok
   clear hbk hqk hnl hEk hok ho8 hx8 q0 q1
   go_wp2_with (at_builtin;refine wpList_append_own _ rfl _ _ 30 rfl w6.heap.size 37 j0 (.slice none 0 0) 1 24 Tryz.underlying30 hj hy0 hy1 hy2 rfl (by decide) _ _ _ rfl (hqo.alloc _) ⟨w8.heap.size,0,none⟩ 1 1 [.slice (some ⟨g8,0,none⟩) p.length p.length] rfl rfl (cell_one_new _ _ _) (by simp [Value.oneCell']) hm3 hm4 (by rw [World.size_alloc];omega) ?_;intro v7 V7 hown7 hgrow7 _;have hbV:BoxV V7 w6.heap.size (.slice ap p.length cp) (.slice an n cn) (.slice avs i cvs):=kept_box (((Ext.refl w8).alloc _).heap Hbk.out) (hqo.alloc (.cells #[.slice (some ⟨g8,0,none⟩) p.length p.length] 37)) (by decide) hgrow7;have d1:=hbV.c2;have e1:=hbV.fz 2;obtain ⟨a7,c7,rfl⟩:=own_shape hown7)
   have hR:=NvR.more (W6:=w6) (W:=w8) (v7:=.slice a7 (i + 1) c7) (Nat.le_refl _) Hbk.out Hqk.out Hmn.out HEk.out Hok.out (by rw [Hnl.out];exact hown7) hgrow7
   rw [← Hmd.out i hin] at hR
   have HR:=Lib.hid hR
   clear hR d1 e1 r2 hgrow7 hown7 hbV
   generalize V7.setCell ⟨w6.heap.size,2,none⟩ (.slice a7 (i + 1) c7)=V2 at *
   go_roundw
   case rel=>exact ⟨i + 1,by go_num,by omega,HR.out⟩
   case measure=>simp [intOf];omega
  ·obtain rfl:i=2 * n + 1:=by omega
   have hik:¬ ((2 * n + 1:Nat):Int) < 2 * (n:Int) + 1:=by omega
   have hmn2:=hmn.trans Hmf.out
   have hfin:Vw wr (.pointer (some ⟨w6.heap.size,0,none⟩)) p rs:=by
    refine ⟨_,_,_,_,nts,rfl,hbn,hEw.sl Hp.out,?_,hqn.rd,hmn2⟩
    have:=hEw.rdM Hs.out
    exact this
   have Hfin:=Lib.hid hfin;have HEw:=Lib.hid hEw
   clear hfin hEw hmn2 hmn hbn hqn hEn hE6
   go_wp2_with fail
   exact bodyPost_ret (v:=.tuple #[.pointer (some ⟨w6.heap.size,0,none⟩),.int .i64 0]) (by simp [results,Tryz.results113,go_sem]) rfl ⟨_,rfl,Hfin.out,HEw.out⟩
end Go.Proofs.YtipjmpdndokdlaaGreatDoor

namespace Go.Proofs.YtipjmpdndokdlaaGreatDoor
open Go.RowKit Go.Lib Go.Shelf
attribute [local go_sem] Oper.semAt_some
/-- The digits of a number of one digit. -/
def dg (z : Int) : List Int:=if z=0 then [] else [(z.natAbs : Int)]
/-- A number of one digit, as the reference holds it. -/
def W1 (w : World) (v : Value) (z : Int) : Prop:=∃ u,v=.agg #[.bool (decide (z < 0)),u] ∧ Sl w u (i64s (dg z))
theorem W1.ext {w w' : World} {v : Value} {z : Int} (hx : Ext w w') (h : W1 w v z) : W1 w' v z:=by
 obtain ⟨u,e,h⟩:=h
 exact ⟨u,e,hx.sl h⟩
end Go.Proofs.YtipjmpdndokdlaaGreatDoor

namespace Go.Proofs.YtipjmpdndokdlaaGreatDoor
open Go.RowKit Go.Lib Go.Shelf
attribute [local go_sem] Oper.semAt_some
/-- A fraction that the reference's one digit serves. -/
def Sn (r : Rat) : Prop:=r.num.natAbs ≤ 30000 ∧ r.den ≤ 1000
theorem Sn.add {a b : Rat} (ha : Sn a) (hb : Sn b) : a.num.natAbs * b.den + b.num.natAbs * a.den < 1000000000 ∧ a.den * b.den < 1000000000 ∧ a.num.natAbs + b.num.natAbs < 1000000000 ∧ a.den < 1000000000 ∧ b.den < 1000000000:=by
 have h1:a.num.natAbs * b.den ≤ 30000 * 1000:=Nat.mul_le_mul ha.1 hb.2
 have h2:b.num.natAbs * a.den ≤ 30000 * 1000:=Nat.mul_le_mul hb.1 ha.2
 have h3:a.den * b.den ≤ 1000 * 1000:=Nat.mul_le_mul ha.2 hb.2
 have h4:=ha.1;have h5:=ha.2;have h6:=hb.1;have h7:=hb.2
 omega
theorem Sn.neg {r : Rat} (h : Sn r) : Sn (r * -1):=by
 have e:r * -1=-r:=by grind
 rw [e]
 unfold Sn
 rw [Rat.neg_num,Rat.neg_den,Int.natAbs_neg]
 exact h
end Go.Proofs.YtipjmpdndokdlaaGreatDoor

namespace Go.Proofs.YtipjmpdndokdlaaGreatDoor
open Go.RowKit Go.Lib Go.Shelf
attribute [local go_sem] Oper.semAt_some
/-- The multiples of a generator. -/
def mulsZ (g : List Rat) (a : Int) (n : Nat) : List (List Rat):=(List.range n).map fun (i : Nat) => mulZ g ((a + (i : Int) : Int) : Rat)
theorem mulsZ_len (g : List Rat) (a : Int) (n : Nat) : (mulsZ g a n).length=n:=by unfold mulsZ;simp
/-- A list of sizes under way. -/
def QsR (W : World) (xs : List (List Rat)) (v : Value) (wr : World) : Prop:=∃ out : List Qw,QwM wr W.heap.size W.heap.size v out ∧ out.map Qw.x=xs ∧ Ext W wr
theorem QsR.more {W wr V : World} {v v7 u : Value} {x : List Rat} {out : List Qw} {xs : List (List Rat)} {o : Obj} (hE : Ext W wr) (hq : QwM wr W.heap.size W.heap.size v out) (hm : out.map Qw.x=xs) (ho : OwnQ wr W.heap.size u x)
  (hown:V.ownsRow W.heap.size 37 1 v7 (out.length + 1) (qwc out ++ [u])) (hgrow:(wr.alloc o).grownBy V v.ownBlock):QsR W (xs ++ [x]) v7 V:=by
 have:=QwM.more (r:=⟨_,u,rd_one ho.rd⟩) hE hq ho hown hgrow
 exact ⟨_,this.1,by rw [List.map_append,hm];rfl,this.2⟩
end Go.Proofs.YtipjmpdndokdlaaGreatDoor

namespace Go.Proofs.YtipjmpdndokdlaaGreatDoor
open Go.RowKit Go.Lib Go.Shelf
attribute [local go_sem] Oper.semAt_some
theorem sn_small {r : Rat} (h1 : r.num.natAbs ≤ 30000) (h2 : r.den ≤ 1000) : Sn r:=⟨h1,h2⟩
theorem sn_zero : Sn 0:=by unfold Sn;decide
theorem nic_sn {n : Nat} {p : List Int} {x : List Rat} {c : Int} (hp : Pr p x.length) (h : Nic n x) (hc : 0 ≤ c) (hc2 : c ≤ 500) (h1 : -((c * 67108864 : Int) : Rat) ≤ sF p x) (h2 : sF p x ≤ ((c * 67108864 : Int) : Rat)) : ∀ r ∈ x,Sn r:=by
 rcases h with ⟨_,hb⟩ | ⟨hn,hn9,ho⟩
 ·obtain ⟨a,tl,rfl⟩:∃ a tl,x=a :: tl:=by
   rcases hp with ⟨_,hl⟩ | ⟨_,hl⟩ <;> (cases x with | nil=>cases hl | cons a tl=>exact ⟨a,tl,rfl⟩)
  have hA:=head_bd hp hb h1 h2
  match tl,hb with
  | [b],⟨A,B,ha,hb2,g1,g2⟩ =>
   obtain ⟨ha1,ha2⟩:=int_den ha
   intro r hr
   simp only [List.mem_cons,List.not_mem_nil,or_false] at hr
   rcases hr with rfl | rfl
   ·exact sn_small (by omega) (by omega)
   ·rcases half_den hb2 with ⟨e1,e2⟩ | ⟨e1,e2⟩
    ·exact sn_small (by omega) (by omega)
    ·exact sn_small (by omega) (by omega)
  | [b,d],⟨A,B,C,ha,hb2,hd,g1,g2,g3,g4⟩ =>
   obtain ⟨ha1,ha2⟩:=int_den ha
   obtain ⟨hd1,hd2⟩:=int_den hd
   intro r hr
   simp only [List.mem_cons,List.not_mem_nil,or_false] at hr
   rcases hr with rfl | rfl | rfl
   ·exact sn_small (by omega) (by omega)
   ·rcases half_den hb2 with ⟨e1,e2⟩ | ⟨e1,e2⟩
    ·exact sn_small (by omega) (by omega)
    ·exact sn_small (by omega) (by omega)
   ·exact sn_small (by omega) (by omega)
 ·rcases hp with ⟨rfl,hl⟩ | ⟨rfl,hl⟩
  ·match x,hl,ho with
   | [a,b],_,⟨hb,A,ha⟩ =>
    subst hb
    have hbd:=oct_bd (s:=sF [2,3] [a,0]) hn hn9 ha (by simp only [sF,lgs.1];grind) h1 h2
    intro r hr
    simp only [List.mem_cons,List.not_mem_nil,or_false] at hr
    rcases hr with rfl | rfl
    ·exact sn_small (by omega) (by omega)
    ·exact sn_zero
  ·match x,hl,ho with
   | [a,b,d],_,⟨hb,hd,A,ha⟩ =>
    subst hb
    subst hd
    have hbd:=oct_bd (s:=sF [2,3,5] [a,0,0]) hn hn9 ha (by simp only [sF,lgs.1];grind) h1 h2
    intro r hr
    simp only [List.mem_cons,List.not_mem_nil,or_false] at hr
    rcases hr with rfl | rfl | rfl
    ·exact sn_small (by omega) (by omega)
    ·exact sn_zero
    ·exact sn_zero
theorem Lw.sn {p : List Int} {c : Int} {l : List (List Rat)} (h : Lw p c l) (hc : c ≤ 500) {x : List Rat} (hx : x ∈ l) : ∀ r ∈ x,Sn r:=by
 obtain ⟨n,hn⟩:=h.nic
 exact nic_sn (by rw [h.len x hx];exact h.pr) (hn x hx) h.c0 hc (h.bd x hx).1 (h.bd x hx).2
end Go.Proofs.YtipjmpdndokdlaaGreatDoor

namespace Go.Proofs.YtipjmpdndokdlaaGreatDoor
open Go.RowKit Go.Lib Go.Shelf
attribute [local go_sem] Oper.semAt_some
/-- The notes so far: the period, and the rests. -/
def LcR (W : World) (vb : Value) (o : List Rat) (p : List Int) (l : List (List Rat)) (k : Nat) (v : Value) (wr : World) : Prop:=∃ out : List Qw,wr.ownsRow W.heap.size 37 1 v (out.length + 1) (vb :: qwc out) ∧ (∀ r ∈ out,OwnQ wr W.heap.size r.u r.x) ∧ o :: out.map Qw.x=colF p [o] (l.take k) ∧ out.length ≤ k ∧ Ext W wr
theorem LcR.skip {W wr w' : World} {vb : Value} {o : List Rat} {p : List Int} {l : List (List Rat)} {k : Nat} {v : Value} {x : List Rat} {out : List Qw} (hq : wr.ownsRow W.heap.size 37 1 v (out.length + 1) (vb :: qwc out)) (he : ∀ r ∈ out,OwnQ wr W.heap.size r.u r.x) (hm : o :: out.map Qw.x=colF p [o] (l.take k)) (hl : out.length ≤ k) (hE : Ext W wr) (hx : Ext wr w') (hr : l[k]?=some x) (hs : rst p x=zer p.length ∨ rst p x ∈ o :: out.map Qw.x) : LcR W vb o p l (k + 1) v w' :=
 ⟨out,hx.own hq,fun r hr=>hx.ownQ (he r hr),by rw [colF_take hr,colS,if_pos (by rw [← hm];exact hs)];exact hm,by omega,hE.trans hx⟩
theorem LcR.more {W wr V : World} {vb : Value} {o : List Rat} {p : List Int} {l : List (List Rat)} {k : Nat} {v v7 u : Value} {x : List Rat} {out : List Qw} {ob : Obj} (hE : Ext W wr) (hq : wr.ownsRow W.heap.size 37 1 v (out.length + 1) (vb :: qwc out)) (he : ∀ r ∈ out,OwnQ wr W.heap.size r.u r.x) (hm : o :: out.map Qw.x=colF p [o] (l.take k)) (hl : out.length ≤ k) (hr : l[k]?=some x) (hs : ¬ (rst p x=zer p.length ∨ rst p x ∈ o :: out.map Qw.x)) (ho : OwnQ wr W.heap.size u (rst p x))
  (hown:V.ownsRow W.heap.size 37 1 v7 (out.length + 1 + 1) ((vb :: qwc out) ++ [u])) (hgrow:(wr.alloc ob).grownBy V v.ownBlock):LcR W vb o p l (k + 1) v7 V:=by
 have hal:=World.ownsRow.alloc hq ob
 have hkeep:∀ s:Qw,OwnQ wr W.heap.size s.u s.x→OwnQ V W.heap.size s.u s.x:=fun s hs=>World.ownsRow.kept (World.ownsRow.alloc hs ob) hgrow (own_ne (World.ownsRow.alloc hs ob) hal (by decide))
 refine ⟨out ++ [⟨rst p x,u,rd_one ho.rd⟩],?_,fun s hs=>?_,?_,by rw [List.length_append];simp;omega,(hE.alloc ob).grown hgrow fun k hk=>(World.ownsRow.lt hal k hk).1⟩
 ·rw [List.length_append,List.length_singleton,qwc_snoc]
  exact hown
 ·rcases List.mem_append.1 hs with g | g
  ·exact hkeep s (he s g)
  ·rw [List.mem_singleton] at g
   subst g
   exact hkeep ⟨rst p x,u,rd_one ho.rd⟩ ho
 ·rw [colF_take hr,colS,if_neg (by rw [← hm];exact hs),List.map_append,← List.cons_append,hm]
  rfl
end Go.Proofs.YtipjmpdndokdlaaGreatDoor

namespace Go.Proofs.YtipjmpdndokdlaaGreatDoor
open Go.RowKit Go.Lib Go.Shelf
attribute [local go_sem] Oper.semAt_some
/-- Three small numbers, and the size that they spell. -/
structure I3 where
 a:Int
 b:Int
 c:Int
def I3.at (x : I3) : Nat → Int
 | 0=>x.a
 | 1=>x.b
 | _=>x.c
def I3.ok (x : I3) : Prop:=∀ i,-128 ≤ x.at i ∧ x.at i ≤ 127
def I3.v (x : I3) : Value:=.agg #[.int .i8 x.a,.int .i8 x.b,.int .i8 x.c]
def dnm (x : I3) (i : Nat) : Nat:=if i=1 ∧ x.b < 0 then 2 else 1
def spell (x : I3) (i : Nat) : Rat:=mkRat ((x.at i).tmod 9) (dnm x i)
def szW (n : Nat) (x : I3) : List Rat:=(List.range n).map (spell x)
end Go.Proofs.YtipjmpdndokdlaaGreatDoor
