/- Plain: classes of modes, inversion, moments of symmetry; strict scales are the proper ones that are constant. Walk: slices.insertionSortCmpFunc and SortFunc at sizes, with a bound method as the compare. Walks: class.look: the view of a scale: its notes up to two periods. Walks: law 31's reduce, order, and the closures of its collect. Walk: law 31's collect of at most nine sizes. Walks: law 31's Size of a world's numbers. Walks: class.(*view).differences, compare. -/
import Derived.Test.YtebabancfnmfjaaGreatDoorPm24
import Derived.Test.YtebabancfnmfjaaGreatDoorPm18
import Derived.Shelf.RegionOpenPlain
import Derived.Shelf.Abstract
import Derived.Shelf.SlicesE.Kit
import Derived.Deep.RegionHeld3
import Derived.Test.YtebabancfnmfjaaGreatDoorPm21
import Derived.Test.YtebabancfnmfjaaGreatDoorPm22
import Derived.Test.YtebabancfnmfjaaGreatDoorPm19
set_option maxRecDepth 100000
set_option maxHeartbeats 4000000
namespace Go.Proofs.YtebabancfnmfjaaGreatDoor
section
section
variable {p : List Int} {N : List (List Rat)} (h : Wc p N)
include h
theorem Wc.mode (m:Int):Wc p (md p N m):=by
 refine ⟨h.wd.mode m,?_,by rw [ziU];exact h.few⟩;obtain ⟨n,hn⟩:=h.iv_nic;have key:∀ x∈zer p.length::md p N m,∃ k:Int,x=zex (nt p N k) (nt p N m):=fun x hx=>by
  rcases List.mem_cons.1 hx with rfl | hx
  ·exact ⟨m,by rw [ziE,h.wd.ntlen]⟩
  ·unfold md at hx;obtain ⟨k,_,rfl⟩:=List.mem_map.1 hx;exact ⟨k,rfl⟩
 refine ⟨n,fun x hx y hy=>?_⟩;obtain ⟨k,rfl⟩:=key x hx;obtain ⟨l,rfl⟩:=key y hy;rw [ziF (by rw [h.wd.ntlen,h.wd.ntlen]) (by rw [h.wd.ntlen,h.wd.ntlen])];have:=hn l (k - l);unfold iv at this;rwa [show l+(k - l)=k by omega] at this
theorem Wc.iv_md (m i d:Int):iv p (md p N m) i d=iv p N (m+i) d:=by
 unfold iv;rw [h.wd.nt_md,h.wd.nt_md,ziF (by rw [h.wd.ntlen,h.wd.ntlen]) (by rw [h.wd.ntlen,h.wd.ntlen]),show m+(i+d)=m+i+d by omega]
theorem Wc.cls_md (m d:Int):cls p (md p N m) d=cls p N d:=by
 refine ziv ((h.mode m).cls_srt d) (h.cls_srt d) fun x=>?_;rw [(h.mode m).cls_mem,h.cls_mem];constructor
 ·rintro ⟨i,e⟩;exact ⟨m+i,by rw [e,h.iv_md]⟩
 ·rintro ⟨i,e⟩;exact ⟨i - m,by rw [e,h.iv_md,show m+(i - m)=i by omega]⟩
theorem Wc.iv_next (i d:Int):zex (iv p N (i+1) d) (iv p N i d)=zex (iv p N (i+d) 1) (iv p N i 1):=by
 unfold iv;rw [show i+d+1=i+1+d by omega];have hl:=h.wd.ntlen;refine List.ext_getElem ?_ fun j h1 h2=>?_
 ·simp only [zex,List.length_zipWith,hl]
 ·simp only [zex,List.getElem_zipWith];grind
def Pro (p:List Int)(N:List (List Rat)):Prop:=∀ d:Nat,d<N.length→∀ x∈cls p N (d:Int),∀ y∈cls p N ((d+1:Nat):Int),sF p x≤sF p y
def Str (p:List Int)(N:List (List Rat)):Prop:=∀ d:Nat,d<N.length→∀ x∈cls p N (d:Int),∀ y∈cls p N ((d+1:Nat):Int),sF p x<sF p y
def Cst (p:List Int)(N:List (List Rat)):Prop:=∀ d u:Nat,d<u→u≤N.length→∀ x∈cls p N (d:Int),x ∉ cls p N (u:Int)
theorem Wc.even {s:List Rat}(h1:cls p N 1=[s]):Str p N:=by
 have hst:∀ i,iv p N i 1=s:=fun i=>by
  have:=(h.cls_mem (d:=1)).2 ⟨i,rfl⟩;rw [h1] at this;simpa using this
 have hall:∀ (d:Int)(n:Nat),sF p (iv p N (n:Int) d)=sF p (iv p N 0 d):=by
  intro d n;induction n with
  | zero=>rfl
  | succ n ih =>
   have hn:=congrArg (sF p) (h.iv_next (n:Int) d)
   rw [hst,hst,zez _ _ _ (by rw [h.ivlen,h.ivlen]),zez _ _ _ rfl,ih] at hn
   rw [show ((n+1:Nat):Int)=(n:Int)+1 by omega]
   grind
 intro d hd x hx y hy;unfold cls at hx hy;obtain ⟨i,_,rfl⟩:=zls.1 hx;obtain ⟨j,_,rfl⟩:=zls.1 hy;rw [hall,hall];exact h.iv_lt (by omega)
end
end
section
open Go.RowKit Go.Lib Go.Shelf
theorem zlw {α:Type}(enc:α→Value)(key:α→Rat)(g:Nat)(u:Value)(B blk cap:Nat)(d0 d:List α)(W0 w:World)(hR:InR 41 W0 B blk cap enc d0 w d)(hl:d0.length≤1000)(h1:OneCell enc)
  (eg:∀ args w,(callFunc g args).run Tryz.prog w=.ok (.enter g args) w)
  (hcmp:∀ W,W0.grownBy W (some blk)→∀ x∈d0,∀ y∈d0,Calls Tryz.prog g #[u,enc x,enc y] W fun e w'=>(∃ z:Int,e=.returned (.int .i64 z)∧(z<0 ↔ key x<key y))∧Ext W w') :
  Calls Tryz.prog 219 #[.slice (some ⟨blk,0,none⟩) d0.length cap,.int .i64 0,.int .i64 d0.length,.func (.func g) #[u] #[]] w fun e w'=>e=.returned (.tuple #[])∧∃ d',InR 41 W0 B blk cap enc d0 w' d'∧d'.Pairwise fun x y=>key x≤key y:=by
 have mixed:Tryz.prog.follows .mixedOrders=true:=by kernel_rfl
 have hcl0:=h1.cells;simp only [Value.cells] at hcl0;have hst:=h1.store Tryz.prog;generalize hn:d0.length=n at *;have HR:=hid hR;have Hcmp:=hid hcmp;have Hn:=hid hn;clear hR hcmp hn;go_enter Tryz.func219,Tryz.ntmps219
 go_wp2_with fail
 go_loopw [8] (fun vi wr=>∃ (i:Nat)(dk:List α),vi=.int .i64 i∧1≤i∧(i≤n∨i=1)∧Hid (STo key dk i)∧Hid (InR 41 W0 B blk cap enc d0 wr dk)) (fun vi _=>n+1 - (zam vi).toNat)
 case atStart=>exact ⟨1,d,rfl,Nat.le_refl _,.inr rfl,hid (zin d),HR⟩
 case round =>
  clear HR;obtain ⟨i,dk,rfl,hi1,hin,HS,HR⟩:=hrel;by_cases hlt:i<n
  ·have hltz:(i:Int)<(n:Int):=(by omega);go_wp2_with fail
   obtain ⟨wa,hwa⟩:∃ wa,wa=wr:=⟨_,rfl⟩;subst hwa;go_loopw [9] (fun vj wr=>∃ (j:Nat)(dj:List α),vj=.int .i64 j∧j≤i∧Hid (SAt key dj i j)∧Hid (InR 41 W0 B blk cap enc d0 wr dj)) (fun vj _=>(zam vj).toNat)
   case atStart=>exact ⟨i,dk,rfl,Nat.le_refl _,hid (zio HS.out),HR⟩
   case round =>
    clear HR;obtain ⟨j,dj,rfl,hji,HA,HR⟩:=hrel;by_cases hja:0<j
    ·obtain ⟨jp,hjp⟩:∃ q,q+1=j:=⟨j - 1,by omega⟩;have hjl:dj.length=n:=HR.out.len.trans Hn.out;obtain ⟨x,hx⟩:∃ x,dj[jp+1]?=some x:=⟨_,List.getElem?_eq_getElem (by omega)⟩;obtain ⟨y,hy⟩:∃ y,dj[jp]?=some y:=⟨_,List.getElem?_eq_getElem (by omega)⟩;obtain ⟨iN,hiN⟩:∃ q,q=j:=⟨_,rfl⟩;obtain ⟨jN,hjN⟩:∃ q,q=jp:=⟨_,rfl⟩;have c1:=HR.out.cell hx;have c2:=HR.out.cell hy;rw [hjp,← hiN] at c1;rw [← hjN] at c2;have hcm:=fun W (hE:Ext wr W)=>Hcmp.out W (zfr HR.out.only hE) x (HR.out.mem hx) y (HR.out.mem hy);have hsw:=fun W (hE:Ext wr W)=>(HR.out.ext hE).swap hx hy;have hcf:=fun W (hE:Ext wr W)=>(⟨(HR.out.ext hE).cell hx,(HR.out.ext hE).cell hy,(HR.out.ext hE).frozen (jp+1),(HR.out.ext hE).frozen jp⟩:_∧_∧_∧_);have hex:=fun W (hE:Ext wr W)=>HR.out.ext hE;have hij:jN<iN:=(by omega);rw [hjp,← hiN,← hjN] at hcf;have hsw2:=fun W (hE:Ext wr W)=>(show InR 41 W0 B blk cap enc d0 ((W.setCell ⟨blk,iN,none⟩ (enc y)).setCell ⟨blk,jN,none⟩ (enc x)) ((dj.set (jp+1) y).set jp x) by rw [hiN,hjN,← hjp];exact hsw W hE);have zjp:(j:Int)=(jp:Int)+1:=(by omega);have hjad:decide ((jp:Int)+1 > (0:Int))=true:=decide_eq_true (by omega);have hjaz:(0:Int)<(jp:Int)+1:=(by omega);have ea:((jp:Int)+1).toNat=iN:=(by omega);have pa:(0:Int)≤(jp:Int)+1:=(by omega);have ba:(jp:Int)+1<(n:Int):=(by omega);have ra:IntKind.i64.wrap ((jp:Int)+1)=(jp:Int)+1:=(by rw [IntKind.wrap_i64];omega);have ec:((jp:Int)).toNat=jN:=(by omega);have pc:(0:Int)≤(jp:Int):=(by omega);have bc:(jp:Int)<(n:Int):=(by omega);have rc:IntKind.i64.wrap ((jp:Int))=(jp:Int):=(by rw [IntKind.wrap_i64];omega);have Hx:=hid hx;have Hy:=hid hy;have Hcm:=hid hcm;have Hsw:=hid hsw2;have Hcf:=hid hcf;have Hex:=hid hex;have HiN:=hid hiN;have HjN:=hid hjN;clear hx hy hcm hsw hsw2 hcf hex hjl hiN hjN HR;by_cases hxy:key x<key y
     ·have hxy2:key x≤key y:=Rat.le_of_lt hxy;have Hxy:=hid hxy;have Hxy2:=hid hxy2;clear hxy hxy2;go_wp2_with fail
      go_region_held3 (fun w'=>Ext wr w'∧w'.cell? ⟨blk,iN,none⟩=some (enc x)∧w'.cell? ⟨blk,jN,none⟩=some (enc y))
       (first | (with_reducible assumption) | exact ⟨(Ext.refl wr).drew,c1,c2⟩)
       (first | (go_at_fn g;refine (Hcm.out _ (And.left (by assumption))).mono ?_;rintro e9 VA ⟨⟨z,rfl,hz⟩,hxa⟩;have hEA:=((Ext.refl wr).drew).trans hxa;have hS2:Ext wr VA∧VA.cell? ⟨blk,iN,none⟩=some (enc x)∧VA.cell? ⟨blk,jN,none⟩=some (enc y):=⟨hEA,hEA.cell c1,hEA.cell c2⟩;have hz1:z<0:=hz.2 Hxy.out;have hz2:decide (z<0)=true:=decide_eq_true hz1;have HEA:=hid hEA;clear hxa hEA hz))
      all_goals
       clear hS2 c1 c2;obtain ⟨k1,k2,k3,k4⟩:=Hcf.out VA HEA.out;have S3:=hid (Hsw.out VA HEA.out);have c3:∃ u,(VA.setCell ⟨blk,iN,none⟩ (enc y)).cell? ⟨blk,jN,none⟩=some u:=by
        rw [World.cell?_setCell_other _ _ _ _ (by intro e';simp only [Addr.mk.injEq] at e';omega)];exact ⟨_,k2⟩
       obtain ⟨u3,c3⟩:=c3;go_wp2_with fail
       go_big_region_o
       have S4:=hid (S3.out.ext ((Ext.refl _).drew));have HA2:=hid (zis (show SAt key dj i (jp+1) by rw [hjp];exact HA.out) Hx.out Hy.out Hxy2.out);clear c3 k1 k2 k3 k4 S3;generalize ((VA.setCell ⟨blk,iN,none⟩ (enc y)).setCell ⟨blk,jN,none⟩ (enc x)).drew=w3 at S4 ⊢;clear ea ec;go_wp2_with fail
       go_roundw
       case rel=>exact ⟨jp,(dj.set (jp+1) y).set jp x,by first | rfl | go_num | (congr 1;omega),by omega,HA2,S4⟩
       case measure=>simp [zam];omega
     ·have Hxy:=hid (Rat.not_lt.1 hxy);have hxy2:=hid hxy;clear hxy;go_wp2_with fail
      go_region_held3 (fun w'=>Ext wr w'∧w'.cell? ⟨blk,iN,none⟩=some (enc x)∧w'.cell? ⟨blk,jN,none⟩=some (enc y))
       (first | (with_reducible assumption) | exact ⟨(Ext.refl wr).drew,c1,c2⟩)
       (first | (go_at_fn g;refine (Hcm.out _ (And.left (by assumption))).mono ?_;rintro e9 VA ⟨⟨z,rfl,hz⟩,hxa⟩;have hEA:=((Ext.refl wr).drew).trans hxa;have hS2:Ext wr VA∧VA.cell? ⟨blk,iN,none⟩=some (enc x)∧VA.cell? ⟨blk,jN,none⟩=some (enc y):=⟨hEA,hEA.cell c1,hEA.cell c2⟩;have hz1:¬ z<0:=fun h=>hxy2.out (hz.1 h);have hz2:decide (z<0)=false:=decide_eq_false hz1;have HEA:=hid hEA;clear hxa hEA hz))
      all_goals
       clear hS2 c1 c2;have S4:=hid (Hex.out VA HEA.out);have HS2:=hid (ziq (show SAt key dj i (jp+1) by rw [hjp];exact HA.out) Hx.out Hy.out Hxy.out);clear ea ec;go_wp2_with fail
       go_roundw
       case rel=>exact ⟨i+1,dj,by go_num,by omega,.inl (by omega),HS2,S4⟩
       case measure=>simp [zam];omega
    ·obtain rfl:j=0:=by omega
     have hjaz:decide (((0:Nat):Int) > (0:Int))=false:=(by decide);have hjaz':¬ ((0:Nat):Int) > (0:Int):=(by decide);have HS2:=hid (zip HA.out);go_wp2_with fail
     go_big_region_o
     have S4:=hid (HR.out.ext ((Ext.refl _).drew));clear HR;generalize wr.drew=w3 at S4 ⊢;go_wp2_with fail
     go_roundw
     case rel=>exact ⟨i+1,dj,by go_num,by omega,.inl (by omega),HS2,S4⟩
     case measure=>simp [zam];omega
  ·have hkk:¬ (i:Int)<(n:Int):=(by omega);go_wp2
   go_end0
   refine ⟨rfl,dk,HR.out,?_⟩;have hS:STo key dk dk.length:=by
    rw [HR.out.len,Hn.out];intro a b x y h1 h2;exact HS.out a b x y h1 (by omega)
   exact ziu hS
theorem zlx {α:Type}(enc:α→Value)(key:α→Rat)(g:Nat)(u:Value)(B blk cap:Nat)(d:List α)(w:World)(hR:w.ownsRow B 41 1 (.slice (some ⟨blk,0,none⟩) d.length cap) d.length (d.map enc))(hl:d.length≤12)(h1:OneCell enc)
  (eg:∀ args w,(callFunc g args).run Tryz.prog w=.ok (.enter g args) w)
  (hcmp:∀ W,w.grownBy W (some blk)→∀ x∈d,∀ y∈d,Calls Tryz.prog g #[u,enc x,enc y] W fun e w'=>(∃ z:Int,e=.returned (.int .i64 z)∧(z<0 ↔ key x<key y))∧Ext W w') :
  Calls Tryz.prog 104 #[.slice (some ⟨blk,0,none⟩) d.length cap,.func (.func g) #[u] #[]] w fun e w'=>e=.returned (.tuple #[])∧∃ d',InR 41 w B blk cap enc d w' d'∧d'.Pairwise fun x y=>key x≤key y:=by
 have hi:=fun W (hE:Ext w W)=>zlw enc key g u B blk cap d d w W ⟨List.Perm.refl _,hE.own hR,zfr (zfp _ _) hE⟩ (by omega) h1 eg hcmp;have h2:∀ W (lim:Int),Ext w W→Calls Tryz.prog 160 #[.slice (some ⟨blk,0,none⟩) d.length cap,.int .i64 0,.int .i64 d.length,.int .i64 lim,.func (.func g) #[u] #[]] W fun e w'=>e=.returned (.tuple #[])∧∃ d',InR 41 w B blk cap enc d w' d'∧d'.Pairwise fun x y=>key x≤key y:=by
  intro W lim hE;have Hi:=hid (hi W hE);generalize hn:d.length=n at *;clear hi hR hcmp hn hE;have t1:(n:Int)≤12:=by omega
  go_enter Tryz.func160,Tryz.ntmps160
  go_wp2_with fail
  refine wp_loop_rounds 1 ?_;rw [rounds_succ];go_wp2_with fail
  refine Hi.out.mono ?_;rintro e w1 ⟨rfl,hd⟩;have Hd:=hid hd;clear hd;go_wp2
  (try simp only [Exit.inBlock,Exit.then]);refine bodyPost_ret (results_none rfl _ _ _) rfl ?_;exact ⟨rfl,Hd.out⟩
 generalize hn:d.length=n at *;have H2:=hid h2;clear hi hR hcmp hn h2;go_enter Tryz.func104,Tryz.ntmps104
 have hln:=fun W=>zgt n (by omega) W;have Hln:=hid hln;clear hln;have hw:IntKind.u64.wrap (n:Int)=(n:Int):=by rw [IntKind.wrap_u64];omega
 go_wp2_with fail
 refine (Hln.out _).mono ?_;rintro e w1 ⟨rfl,rfl⟩;go_wp2_with fail
 refine (H2.out w _ (Ext.refl w)).mono ?_;rintro e w1 ⟨rfl,hd⟩;have Hd:=hid hd;clear hd;go_wp2
 go_end0
 exact ⟨rfl,Hd.out⟩
end
section
open Go.RowKit Go.Lib Go.Shelf
attribute [local go_sem] Oper.semAt_some
theorem zly (v:Value)(p:List Int)(rs:List Qw)(k:Int)(w:World)(he:Env w)(hv:ScV w v p rs)(h:Wd p (rs.map Qw.x))(hk0:-1000≤k)(hk1:k≤1000) :
  Calls Tryz.prog 14 #[v,.int .i64 k] w fun e w'=>∃ g,e=.returned (.tuple #[.slice (some ⟨g,0,none⟩) p.length p.length,.int .i64 0])∧zfx w' w.heap.size (.slice (some ⟨g,0,none⟩) p.length p.length) (nt p (rs.map Qw.x) k)∧Ext w w':=by
 have hpos:=h.pos;rw [List.length_map] at hpos;obtain ⟨n,hn⟩:∃ n,rs.length=n+1:=⟨rs.length - 1,by omega⟩;obtain ⟨r,hr⟩:∃ r,rs[n]?=some r:=⟨_,List.getElem?_eq_getElem (by omega)⟩;have hrx:r.x=ov (p.length - 1):=by
  have:=h.last;rw [List.length_map,hn,Nat.add_sub_cancel,List.getElem?_map,hr] at this;exact Option.some.inj this
 have hnq:=h.noteQ hn k;have hq:=h.nt_quick k hk0 hk1;have hd:=zh7 (a:=k) (b:=(n:Int)+1) (m:=1000) (by omega) hk0 hk1 (by omega);have:=zkq v p rs n k r w he hv h.right hn hr (by omega) (by omega) ((zj7 (k:=5) (by show _<100000;omega) (by omega)).mono (by omega)) (by rw [hrx];exact zjB (by omega) (by omega)) (by rw [hnq];exact hq.1);rw [hnq] at this;exact this
def zlz (w:World)(b:Nat)(u v s:Value):Prop:=w.heap[b]?=some (.cells #[u,v,s] 161 (0,0))
section
variable {w w' : World} {b : Nat} {u v s : Value}
theorem zlz.new (w:World)(u v s:Value):zlz (w.alloc (.cells #[u,v,s] 161)) w.heap.size u v s:=World.alloc_heap_new w _
theorem zlz.ext (hx:Ext w w')(h:zlz w b u v s):zlz w' b u v s:=hx.heap h
theorem zlz.c0 (h:zlz w b u v s):w.cell? ⟨b,0,none⟩=some u:=by unfold World.cell?;dsimp only;rw [h];rfl
theorem zlz.c1 (h:zlz w b u v s):w.cell? ⟨b,1,none⟩=some v:=by unfold World.cell?;dsimp only;rw [h];rfl
theorem zlz.c2 (h:zlz w b u v s):w.cell? ⟨b,2,none⟩=some s:=by unfold World.cell?;dsimp only;rw [h];rfl
theorem zlz.fz (h:zlz w b u v s)(k:Nat):w.frozen? ⟨b,k,none⟩=false:=frozen_of_row w b k #[u,v,s] _ h
theorem zlz.put2 (h:zlz w b u v s)(x:Value):zlz (w.setCell ⟨b,2,none⟩ x) b u v x:=heap_setCell_same w b 2 _ _ x h
end
theorem QwM.setV {W:World}{b B:Nat}{v:Value}{rs:List Qw}(h:QwM W b B v rs){c:Nat}{cs:Array Value}(hc:W.heap[c]?=some (.cells cs 161 (0,0)))(k:Nat)(u:Value):QwM (W.setCell ⟨c,k,none⟩ u) b B v rs :=
 ⟨zgd hc h.1 (by decide) k u,fun r hr=>zgd hc (h.2 r hr) (by decide) k u⟩
def NvR (b:Nat)(W6:World)(bs:Nat)(vp vn:Value)(xs:List (List Rat))(wr:World):Prop:=∃ (vs:Value)(nts:List Qw),zlz wr bs vp vn vs∧QwM wr b W6.heap.size vs nts∧nts.map Qw.x=xs∧Ext W6 wr
theorem NvR.more {b:Nat}{W6 W V:World}{bs:Nat}{vp vn vs v7 u:Value}{x:List Rat}{nts:List Qw}{xs:List (List Rat)}{o:Obj}(hbs:W6.heap.size≤bs)(hb:zlz W bs vp vn vs)(hq:QwM W b W6.heap.size vs nts)(hm:nts.map Qw.x=xs)(hE:Ext W6 W)(ho:zfx W b u x)
  (hown:V.ownsRow W6.heap.size 41 1 v7 (nts.length+1) (qwc nts++[u])) (hgrow:(W.alloc o).grownBy V vs.ownBlock):NvR b W6 bs vp vn (xs++[x]) (V.setCell ⟨bs,2,none⟩ v7):=by
 have h1:=QwM.more2 (r:=⟨_,u,zf1 ho.rd⟩) hE (Nat.le_refl _) hq ho hown hgrow;have hbV:zlz V bs vp vn vs:=zga (((Ext.refl W).alloc o).heap hb) (World.ownsRow.alloc hq.1 o) (by decide) hgrow;exact ⟨v7,_,hbV.put2 v7,h1.1.setV hbV 2 v7,by rw [List.map_append,hm];rfl,h1.2.setCell hbs v7⟩
def zl0 (p:List Int)(N:List (List Rat)):List (List Rat):=(List.range (2 * N.length+1)).map fun (i:Nat)=>nt p N (i:Int)
theorem zl1 (p:List Int)(N:List (List Rat)):(zl0 p N).length=2 * N.length+1:=by unfold zl0;simp
theorem zl2 {p:List Int}{N:List (List Rat)}{i:Nat}(hi:i<2 * N.length+1):(zl0 p N)[i]?=some (nt p N (i:Int)):=by
 unfold zl0;rw [List.getElem?_map,List.getElem?_range hi];rfl
def Vw (w:World)(u:Value)(p:List Int)(rs:List Qw):Prop:=∃ b vp vn vs nts,u=.pointer (some ⟨b,0,none⟩)∧zlz w b vp vn vs∧Sl w vp (zaq p)∧RdM w vn rs∧RdM w vs nts∧nts.map Qw.x=zl0 p (rs.map Qw.x)
theorem Vw.ext {w w':World}{u:Value}{p:List Int}{rs:List Qw}(h:Vw w u p rs)(hx:Ext w w'):Vw w' u p rs:=by
 obtain ⟨b,vp,vn,vs,nts,e,h1,h2,h3,h4,h5⟩:=h;exact ⟨b,vp,vn,vs,nts,e,h1.ext hx,hx.sl h2,hx.rdM h3,hx.rdM h4,h5⟩
theorem zl3 (v:Value)(p:List Int)(rs:List Qw)(w:World)(he:Env w)(hv:ScV w v p rs)(h:Wd p (rs.map Qw.x)) :
  Calls Tryz.prog 98 #[v] w fun e w'=>∃ u,e=.returned (.tuple #[u,.int .i64 0])∧Vw w' u p rs∧Ext w w':=by
 obtain ⟨j0,hj,hy0,hy1,hy2⟩:=info_parts zfz;have hck:=fun W (hE:Ext w W)=>ziz v p rs W (he.ext hE) (hv.ext hE) h.right;have hnt:=fun (k:Int)(h0:-1000≤k)(h1:k≤1000) W (hE:Ext w W)=>zly v p rs k W (he.ext hE) (hv.ext hE) h h0 h1;have hfew:=h.few;have hL:(rs.map Qw.x).length=rs.length:=List.length_map ..;rw [hL] at hfew;have hmd:∀ i,i<2 * rs.length+1→(zl0 p (rs.map Qw.x)).take (i+1)=(zl0 p (rs.map Qw.x)).take i++[nt p (rs.map Qw.x) (i:Int)]:=fun i hi=>by
  have:=zl2 (p:=p) (N:=rs.map Qw.x) (i:=i) (by rw [hL];exact hi);rw [List.take_add_one,this];rfl
 have hmf:(zl0 p (rs.map Qw.x)).take (2 * rs.length+1)=zl0 p (rs.map Qw.x):=List.take_of_length_le (by rw [zl1,hL];exact Nat.le_refl _);have hml:(zl0 p (rs.map Qw.x)).length=2 * rs.length+1:=by rw [zl1,hL]
 obtain ⟨vp,vn,rfl,hp,hs,hmr⟩:=hv;obtain ⟨ap,cp,rfl,_,_,_⟩:=hp.parts;obtain ⟨an,cn,rfl,_,_,_⟩:=hs.parts;rw [zas] at *;rw [zf0] at *;generalize hn:rs.length=n at *;have hE0:Ext w (w.alloc (.cells #[.slice ap p.length cp,.slice an n cn] 28)):=(Ext.refl w).alloc _;have b1:=zic.new 28 w (.slice ap p.length cp) (.slice an n cn);have Hck:=hid hck;have Hnt:=hid hnt;have Hmd:=hid hmd;have Hmf:=hid hmf;have Hml:=hid hml;have HE0:=hid hE0;have B1:=hid b1;have Hp:=hid hp;have Hs:=hid (And.intro hs hmr);have Hn:=hid hn;clear hck hnt hmd hmf hml hE0 b1 hp hs hmr hn h he hL;have q0:=B1.out.c0;have q1:=B1.out.c1;go_enter Tryz.func98,Tryz.ntmps98
 go_wp2_with fail
 refine (Hck.out _ HE0.out).mono ?_;rintro e w6 ⟨rfl,hx6⟩;have q0:=(B1.out.ext hx6).c0;have q1:=(B1.out.ext hx6).c1;have Hx6:=hid hx6;clear hx6;have Hb7:=hid (zlz.new w6 (.slice ap p.length cp) (.slice an n cn) (.slice none 0 0));have H6x:Hid (Ext w6 (w6.alloc (.cells #[.slice ap p.length cp,.slice an n cn,.slice none 0 0] 161))):=hid ((Ext.refl w6).alloc _);have s0:=(B1.out.ext (Hx6.out.trans H6x.out)).c0;have s1:=(B1.out.ext (Hx6.out.trans H6x.out)).c1;go_wp2_with fail
 have hw0:IntKind.i64.wrap (IntKind.i64.wrap (2 * (n:Int))+1)=2 * (n:Int)+1:=by rw [IntWalk.i64_in (2 * (n:Int)) (by omega),IntWalk.i64_in _ (by omega)]
 go_loopw [22] (fun v22 wr=>∃ i:Nat,v22=.int .i64 (i:Int)∧i≤2 * n+1∧NvR w6.heap.size w6 w6.heap.size (.slice ap p.length cp) (.slice an n cn) ((zl0 p (rs.map Qw.x)).take i) wr) (fun v22 _=>2 * n+2 - (zam v22).toNat)
 case atStart=>exact ⟨0,rfl,Nat.zero_le _,.slice none 0 0,[],Hb7.out,QwM.nil _ _ _,rfl,H6x.out⟩
 case round =>
  obtain ⟨i,rfl,hi,⟨vs,nts,hbn,hqn,hmn,hEn⟩⟩:=hrel;have hE6:=Hx6.out.trans hEn;have hEw:=HE0.out.trans hE6;have q0:=(B1.out.ext hE6).c0;have q1:=(B1.out.ext hE6).c1;by_cases hin:i<2 * n+1
  ·have hik:(i:Int)<2 * (n:Int)+1:=(by omega);have hnk:=Hnt.out (i:Int) (by omega) (by omega) wr hEw;have Hbn:=hid hbn;have Hqn:=hid hqn;have Hmn:=hid hmn;have HEn:=hid hEn;have HE6:=hid hE6;have HEw:=hid hEw;have Hnk:=hid hnk;clear hbn hqn hmn hEn hE6 hEw hnk;go_wp2_with fail
   refine Hnk.out.mono ?_;rintro e w8 ⟨g8,rfl,ho8,hx8⟩;obtain ⟨avs,cvs,rfl⟩:=zfj Hqn.out.1;have hnl:nts.length=i:=by
    have:=congrArg List.length Hmn.out;rw [List.length_map,List.length_take,Hml.out] at this;omega
   have hbk:=Hbn.out.ext hx8;rw [hnl] at hbk;have hqk:=hx8.qwM Hqn.out;rw [hnl] at hqk;have hqo:=hx8.own Hqn.out.1;rw [hnl] at hqo;have hEk:=HEn.out.trans hx8;have hbase:=hEk.size;have hok:=ho8.mono HEn.out.size;have hm3:i+1≤maxLen:=(by unfold maxLen;omega);have hm4:(i+1) * 24≤140737488355328:=(by omega);have r2:=hbk.c2;have Hbk:=hid hbk;have Hqk:=hid hqk;have Hnl:=hid hnl;have HEk:=hid hEk;have Hok:=hid hok;clear hbk hqk hnl hEk hok ho8 hx8 q0 q1;go_wp2_with (at_builtin;refine wpList_append_own _ rfl _ _ 26 rfl w6.heap.size 41 j0 (.slice none 0 0) 1 24 Tryz.underlying26 hj hy0 hy1 hy2 rfl (by decide) _ _ _ rfl (hqo.alloc _) ⟨w8.heap.size,0,none⟩ 1 1 [.slice (some ⟨g8,0,none⟩) p.length p.length] rfl rfl (cell_one_new _ _ _) (by simp [Value.oneCell']) hm3 hm4 (by rw [World.size_alloc];omega) ?_;intro v7 V7 hown7 hgrow7 _;have hbV:zlz V7 w6.heap.size (.slice ap p.length cp) (.slice an n cn) (.slice avs i cvs):=zga (((Ext.refl w8).alloc _).heap Hbk.out) (hqo.alloc (.cells #[.slice (some ⟨g8,0,none⟩) p.length p.length] 41)) (by decide) hgrow7;have d1:=hbV.c2;have e1:=hbV.fz 2;obtain ⟨a7,c7,rfl⟩:=zfj hown7)
   have hR:=NvR.more (W6:=w6) (W:=w8) (v7:=.slice a7 (i+1) c7) (Nat.le_refl _) Hbk.out Hqk.out Hmn.out HEk.out Hok.out (by rw [Hnl.out];exact hown7) hgrow7;rw [← Hmd.out i hin] at hR;have HR:=hid hR;clear hR d1 e1 r2 hgrow7 hown7 hbV;generalize V7.setCell ⟨w6.heap.size,2,none⟩ (.slice a7 (i+1) c7)=V2 at *;go_roundw
   case rel=>exact ⟨i+1,by go_num,by omega,HR.out⟩
   case measure=>simp [zam];omega
  ·obtain rfl:i=2 * n+1:=by omega
   have hik:¬ ((2 * n+1:Nat):Int)<2 * (n:Int)+1:=(by omega);have hmn2:=hmn.trans Hmf.out;have hfin:Vw wr (.pointer (some ⟨w6.heap.size,0,none⟩)) p rs:=by
    refine ⟨_,_,_,_,nts,rfl,hbn,hEw.sl Hp.out,?_,hqn.rd,hmn2⟩;have:=hEw.rdM Hs.out;exact this
   have Hfin:=hid hfin;have HEw:=hid hEw;clear hfin hEw hmn2 hmn hbn hqn hEn hE6;go_wp2_with fail
   exact bodyPost_ret (v:=.tuple #[.pointer (some ⟨w6.heap.size,0,none⟩),.int .i64 0]) (by simp [results,Tryz.results98,go_sem]) rfl ⟨_,rfl,Hfin.out,HEw.out⟩
theorem zl4 {r:Rat}(h1:r.num.natAbs≤30000)(h2:r.den≤1000):Sn r:=⟨h1,h2⟩
theorem zl5 : Sn 0:=by unfold Sn;decide
theorem zl6 {n:Nat}{p:List Int}{x:List Rat}{c:Int}(hp:Pr p x.length)(h:Nic n x)(hc:0≤c)(hc2:c≤500)(h1:-((c * 67108864:Int):Rat)≤sF p x)(h2:sF p x≤((c * 67108864:Int):Rat)):∀ r∈x,Sn r:=by
 rcases h with ⟨_,hb⟩ | ⟨hn,hn9,ho⟩
 ·obtain ⟨a,tl,rfl⟩:∃ a tl,x=a::tl:=by
   rcases hp with ⟨_,hl⟩ | ⟨_,hl⟩ <;> (cases x with | nil=>cases hl | cons a tl=>exact ⟨a,tl,rfl⟩)
  have hA:=zi8 hp hb h1 h2;match tl,hb with
  | [b],⟨A,B,ha,hb2,g1,g2⟩ =>
   obtain ⟨ha1,ha2⟩:=zeA ha
   intro r hr
   simp only [List.mem_cons,List.not_mem_nil,or_false] at hr
   rcases hr with rfl | rfl
   ·exact zl4 (by omega) (by omega)
   ·rcases zeB hb2 with ⟨e1,e2⟩ | ⟨e1,e2⟩
    ·exact zl4 (by omega) (by omega)
    ·exact zl4 (by omega) (by omega)
  | [b,d],⟨A,B,C,ha,hb2,hd,g1,g2,g3,g4⟩ =>
   obtain ⟨ha1,ha2⟩:=zeA ha
   obtain ⟨hd1,hd2⟩:=zeA hd
   intro r hr
   simp only [List.mem_cons,List.not_mem_nil,or_false] at hr
   rcases hr with rfl | rfl | rfl
   ·exact zl4 (by omega) (by omega)
   ·rcases zeB hb2 with ⟨e1,e2⟩ | ⟨e1,e2⟩
    ·exact zl4 (by omega) (by omega)
    ·exact zl4 (by omega) (by omega)
   ·exact zl4 (by omega) (by omega)
 ·rcases hp with ⟨rfl,hl⟩ | ⟨rfl,hl⟩
  ·match x,hl,ho with
   | [a,b],_,⟨hb,A,ha⟩ =>
    subst hb
    have hbd:=zi9 (s:=sF [2,3] [a,0]) hn hn9 ha (by simp only [sF,lgs.1];grind) h1 h2
    intro r hr
    simp only [List.mem_cons,List.not_mem_nil,or_false] at hr
    rcases hr with rfl | rfl
    ·exact zl4 (by omega) (by omega)
    ·exact zl5
  ·match x,hl,ho with
   | [a,b,d],_,⟨hb,hd,A,ha⟩ =>
    subst hb
    subst hd
    have hbd:=zi9 (s:=sF [2,3,5] [a,0,0]) hn hn9 ha (by simp only [sF,lgs.1];grind) h1 h2
    intro r hr
    simp only [List.mem_cons,List.not_mem_nil,or_false] at hr
    rcases hr with rfl | rfl | rfl
    ·exact zl4 (by omega) (by omega)
    ·exact zl5
    ·exact zl5
theorem Lw.sn {p:List Int}{c:Int}{l:List (List Rat)}(h:Lw p c l)(hc:c≤500){x:List Rat}(hx:x∈l):∀ r∈x,Sn r:=by
 obtain ⟨n,hn⟩:=h.nic;exact zl6 (by rw [h.len x hx];exact h.pr) (hn x hx) h.c0 hc (h.bd x hx).1 (h.bd x hx).2
def LcR (W:World)(vb:Value)(o:List Rat)(p:List Int)(l:List (List Rat))(k:Nat)(v:Value)(wr:World):Prop:=∃ out:List Qw,wr.ownsRow W.heap.size 41 1 v (out.length+1) (vb::qwc out)∧(∀ r∈out,zfx wr W.heap.size r.u r.x)∧o::out.map Qw.x=ziY p [o] (l.take k)∧out.length≤k∧Ext W wr
theorem LcR.skip {W wr w':World}{vb:Value}{o:List Rat}{p:List Int}{l:List (List Rat)}{k:Nat}{v:Value}{x:List Rat}{out:List Qw}(hq:wr.ownsRow W.heap.size 41 1 v (out.length+1) (vb::qwc out))(he:∀ r∈out,zfx wr W.heap.size r.u r.x)(hm:o::out.map Qw.x=ziY p [o] (l.take k))(hl:out.length≤k)(hE:Ext W wr)(hx:Ext wr w')(hr:l[k]?=some x)(hs:rst p x=zer p.length∨rst p x∈o::out.map Qw.x):LcR W vb o p l (k+1) v w' :=
 ⟨out,hx.own hq,fun r hr=>hx.ownQ (he r hr),by rw [zja hr,ziX,if_pos (by rw [← hm];exact hs)];exact hm,by omega,hE.trans hx⟩
theorem LcR.more {W wr V:World}{vb:Value}{o:List Rat}{p:List Int}{l:List (List Rat)}{k:Nat}{v v7 u:Value}{x:List Rat}{out:List Qw}{ob:Obj}(hE:Ext W wr)(hq:wr.ownsRow W.heap.size 41 1 v (out.length+1) (vb::qwc out))(he:∀ r∈out,zfx wr W.heap.size r.u r.x)(hm:o::out.map Qw.x=ziY p [o] (l.take k))(hl:out.length≤k)(hr:l[k]?=some x)(hs:¬ (rst p x=zer p.length∨rst p x∈o::out.map Qw.x))(ho:zfx wr W.heap.size u (rst p x))
  (hown:V.ownsRow W.heap.size 41 1 v7 (out.length+1+1) ((vb::qwc out)++[u])) (hgrow:(wr.alloc ob).grownBy V v.ownBlock):LcR W vb o p l (k+1) v7 V:=by
 have hal:=World.ownsRow.alloc hq ob;have hkeep:∀ s:Qw,zfx wr W.heap.size s.u s.x→zfx V W.heap.size s.u s.x:=fun s hs=>World.ownsRow.kept (World.ownsRow.alloc hs ob) hgrow (zfm (World.ownsRow.alloc hs ob) hal (by decide));refine ⟨out++[⟨rst p x,u,zf1 ho.rd⟩],?_,fun s hs=>?_,?_,by rw [List.length_append];simp;omega,(hE.alloc ob).grown hgrow fun k hk=>(World.ownsRow.lt hal k hk).1⟩
 ·rw [List.length_append,List.length_singleton,zjx];exact hown
 ·rcases List.mem_append.1 hs with g | g
  ·exact hkeep s (he s g)
  ·rw [List.mem_singleton] at g;subst g;exact hkeep ⟨rst p x,u,zf1 ho.rd⟩ ho
 ·rw [zja hr,ziX,if_neg (by rw [← hm];exact hs),List.map_append,← List.cons_append,hm];rfl
structure I3 where
 a:Int
 b:Int
 c:Int
def I3.at (x:I3):Nat→Int
 | 0=>x.a
 | 1=>x.b
 | _=>x.c
def I3.ok (x:I3):Prop:=∀ i,-128≤x.at i∧x.at i≤127
def I3.v (x:I3):Value:=.agg #[.int .i8 x.a,.int .i8 x.b,.int .i8 x.c]
def dnm (x:I3)(i:Nat):Nat:=if i=1∧x.b<0 then 2 else 1
def zl7 (x:I3)(i:Nat):Rat:=mkRat ((x.at i).tmod 9) (dnm x i)
def szW (n:Nat)(x:I3):List Rat:=(List.range n).map (zl7 x)
def dfs (p:List Int)(N:List (List Rat))(d:Int):List (List Rat):=(List.range N.length).map fun (i:Nat)=>iv p N (i:Int) d
theorem zl8 (p:List Int)(N:List (List Rat))(d:Int):(dfs p N d).length=N.length:=by unfold dfs;simp
theorem zl9 {p:List Int}{N:List (List Rat)}{d:Int}{i:Nat}(hi:i<N.length):(dfs p N d)[i]?=some (iv p N (i:Int) d):=by
 unfold dfs;rw [List.getElem?_map,List.getElem?_range hi];rfl
theorem zlA {w:World}{av:Option Addr}{nl cv:Nat}{p:List Int}{N:List (List Rat)}{nts:List Qw}(h:RdM w (.slice av nl cv) nts)(hm:nts.map Qw.x=zl0 p N)(hl:∀ k:Int,(nt p N k).length=p.length){i:Nat}(hi:i<2 * N.length+1) :
  ∃ b off ai ci,av=some ⟨b,off,none⟩∧w.cell? ⟨b,off+i,none⟩=some (.slice ai p.length ci)∧Rd w (.slice ai p.length ci) (nt p N (i:Int)):=by
 obtain ⟨a,cap,e,_,_,hc⟩:=h.1.parts;injection e with e1 e2 e3;subst e1;have hx:=zl2 (p:=p) (N:=N) hi;rw [← hm,List.getElem?_map] at hx;obtain ⟨r,hr,hrx⟩:=Option.map_eq_some_iff.1 hx;have hrd:=h.2 r (List.mem_of_getElem? hr);rw [hrx] at hrd;obtain ⟨ai,ci,hu,_,_,_⟩:=hrd.parts;rw [hl] at hu;obtain ⟨b,off,rfl,hcell⟩:=hc i r.u (by unfold qwc;rw [List.getElem?_map,hr];rfl);rw [hu] at hcell hrd;exact ⟨b,off,ai,ci,rfl,hcell,hrd⟩
theorem zlB (u:Value)(p:List Int)(rs:List Qw)(d:Nat)(w:World)(he:Env w)(hu:Vw w u p rs)(h:Wc p (rs.map Qw.x))(hd:d≤rs.length) :
  Calls Tryz.prog 102 #[u,.int .i64 (d:Int)] w fun e w'=>∃ v out,e=.returned (.tuple #[v,.int .i64 0])∧QwM w' w.heap.size w.heap.size v out∧out.map Qw.x=dfs p (rs.map Qw.x) (d:Int)∧Ext w w':=by
 obtain ⟨j0,hj,hy0,hy1,hy2⟩:=info_parts zfz;have hL:(rs.map Qw.x).length=rs.length:=List.length_map ..;have hfew:=h.few;rw [hL] at hfew;have hpe:zfc p=0:=by rcases h.wd.pr with ⟨e,_⟩ | ⟨e,_⟩ <;> rw [e] <;> decide
 obtain ⟨b,vp,vn,vs,nts,rfl,hb,hp,hn,hs,hm⟩:=hu;have hsb:=fun (i:Nat)(hi:i<rs.length) W va vb (hE:Ext w W)(ha:Rd W va (nt p (rs.map Qw.x) (((i+d:Nat)):Int)))(hbb:Rd W vb (nt p (rs.map Qw.x) (i:Int)))=>zhx vp va vb p _ _ W (he.ext hE) (hE.sl hp) ha hbb hpe (h.wd.ntlen _) (h.wd.ntlen _) (h.wd.nt_quick _ (by omega) (by omega)).1 (h.wd.nt_quick _ (by omega) (by omega)).1 (h.wd.nt_sub_quick _ _ (by omega) (by omega) (by omega) (by omega)).1;have hiv:∀ i:Nat,zex (nt p (rs.map Qw.x) ((i+d:Nat):Int)) (nt p (rs.map Qw.x) (i:Int))=iv p (rs.map Qw.x) (i:Int) (d:Int):=fun i=>by unfold iv;rw [show ((i+d:Nat):Int)=(i:Int)+(d:Int) by omega]
 have hmd:∀ i,i<rs.length→(dfs p (rs.map Qw.x) (d:Int)).take (i+1)=(dfs p (rs.map Qw.x) (d:Int)).take i++[iv p (rs.map Qw.x) (i:Int) (d:Int)]:=fun i hi=>by
  have:=zl9 (p:=p) (N:=rs.map Qw.x) (d:=(d:Int)) (i:=i) (by rw [hL];exact hi);rw [List.take_add_one,this];rfl
 have hmf:(dfs p (rs.map Qw.x) (d:Int)).take rs.length=dfs p (rs.map Qw.x) (d:Int):=List.take_of_length_le (by rw [zl8,hL];exact Nat.le_refl _);have hml:(dfs p (rs.map Qw.x) (d:Int)).length=rs.length:=by rw [zl8,hL]
 have hat:=fun (i:Nat)(hi:i<2 * rs.length+1)=>fun av nl cv (hv:RdM w (.slice av nl cv) nts)=>zlA (i:=i) hv hm (fun k=>h.wd.ntlen k) (by rw [hL];exact hi);obtain ⟨ap,cp,rfl,_,_,_⟩:=hp.parts;obtain ⟨an,cn,rfl,_,_,_⟩:=hn.1.parts;obtain ⟨av,cv,rfl,_,hv1,_⟩:=hs.1.parts;have hnts:nts.length=2 * rs.length+1:=by
  have:=congrArg List.length hm;rwa [List.length_map,zl1,hL] at this
 rw [zas,zf0,zf0,hnts] at hb;rw [zf0,hnts] at hs;rw [zf0] at hn;rw [zas] at hp hsb;have hat2:=fun (i:Nat)(hi:i<2 * rs.length+1)=>hat i hi _ _ _ hs;clear hat;generalize hnn:rs.length=n at *;obtain ⟨M,hM⟩:∃ M,M=2 * n+1:=⟨_,rfl⟩;rw [← hM] at hb hat2 hnts;have HM:=hid hM;clear hM;have Hsb:=hid hsb;have Hiv:=hid hiv;have Hmd:=hid hmd;have Hmf:=hid hmf;have Hml:=hid hml;have Hb:=hid hb;have Hat:=hid hat2;clear hsb hiv hmd hmf hml hat2 hm hs hn hp h he hpe hL hnts hnn;have q0:=hb.c0;have q1:=hb.c1;have q2:=hb.c2;clear hb;go_enter Tryz.func102,Tryz.ntmps102
 go_wp2_with fail
 go_loopw [6,16] (fun v6 v16 wr=>∃ i:Nat,v16=.int .i64 (i:Int)∧i≤n∧QsR w ((dfs p (rs.map Qw.x) (d:Int)).take i) v6 wr) (fun _ v16 _=>n - (zam v16).toNat)
 case atStart=>exact ⟨0,rfl,Nat.zero_le _,[],QwM.nil _ _ _,rfl,Ext.refl _⟩
 case round =>
  obtain ⟨i,rfl,hi,⟨out,hq,hm,hE⟩⟩:=hrel;have hol:out.length=i:=by
   have:=congrArg List.length hm;rw [List.length_map,List.length_take,Hml.out] at this;omega
  obtain ⟨a6,c6,rfl⟩:=zfj hq.1;by_cases hin:i<n
  ·have hik:(i:Int)<(n:Int):=(by omega);obtain ⟨j,hjj⟩:∃ j,j=i+d:=⟨_,rfl⟩;obtain ⟨bv,ov,a1,c1,rfl,x1,hr1⟩:=Hat.out j (by have:=HM.out;omega);obtain ⟨_,_,a2,c2,e2,x2,hr2⟩:=Hat.out i (by have:=HM.out;omega)
   cases e2
   have hwi:IntKind.i64.wrap ((i:Int)+(d:Int))=(j:Int):=(by rw [IntWalk.i64_in _ (by omega)];omega);have hid0:(0:Int)≤(j:Int):=(by omega);have hid1:(j:Int)<(M:Int):=(by have:=HM.out;omega);have hi1:(i:Int)<(M:Int):=(by have:=HM.out;omega);have hi0:(0:Int)≤(i:Int):=(by omega);have hS:∀ W,Ext w W→Ext w W∧W.cell? ⟨b,0,none⟩=some (.slice ap p.length cp)∧W.cell? ⟨b,2,none⟩=some (.slice (some ⟨bv,ov,none⟩) M cv)∧W.cell? ⟨bv,ov+j,none⟩=some (.slice a1 p.length c1)∧W.cell? ⟨bv,ov+i,none⟩=some (.slice a2 p.length c2):=fun W hW=>⟨hW,(Hb.out.ext hW).c0,(Hb.out.ext hW).c2,hW.cell x1,hW.cell x2⟩;rw [hjj] at hr1;have hsb:=Hsb.out i hin wr.drew _ _ hE.drew (hE.drew.rd hr1) (hE.drew.rd hr2);obtain ⟨_,d0,d2,d3,d4⟩:=hS _ hE.drew;have hqo:=hq.1;rw [hol] at hqo;have HS:=hid hS;have HSb:=hid hsb;have Hq:=hid hq;have Hm:=hid hm;have HE:=hid hE;have Hol:=hid hol;have Hqo:=hid hqo;clear hS hsb hq hm hE hol hqo hr1 hr2 x1 x2 hjj;rw [Hol.out];go_wp2_with fail
   go_region_held3 (fun w'=>Ext w w'∧w'.cell? ⟨b,0,none⟩=some (.slice ap p.length cp)∧w'.cell? ⟨b,2,none⟩=some (.slice (some ⟨bv,ov,none⟩) M cv)∧w'.cell? ⟨bv,ov+j,none⟩=some (.slice a1 p.length c1)∧w'.cell? ⟨bv,ov+i,none⟩=some (.slice a2 p.length c2))
    (first | (with_reducible assumption) | exact HS.out _ HE.out.drew | exact HS.out _ (HE.out.drew.trans HxA.out))
    (first
     | (go_at_call 38
        refine HSb.out.mono ?_
        rintro e9 VA ⟨g9,rfl,ho9,hxa⟩
        have HxA:=hid hxa
        have Ho9:=hid ho9
        clear hxa ho9))
   have hxab:=(Ext.refl wr).drew.trans HxA.out;have hq3:=hxab.qwM Hq.out;have hqo:=hxab.own Hqo.out;have hE3:=HE.out.trans hxab;have hbase:=hE3.size;have ho3:=Ho9.out.mono HE.out.drew.size;rw [Hiv.out i] at ho3;have hm3:i+1≤maxLen:=(by unfold maxLen;omega);have hm4:(i+1) * 24≤140737488355328:=(by omega);have Hq3:=hid hq3;have HE3:=hid hE3;have Ho3:=hid ho3;clear hq3 hE3 hxab ho3 d0 d2 d3 d4 q0 q2;go_wp2_with (at_builtin;refine wpList_append_own _ rfl _ _ 26 rfl w.heap.size 41 j0 (.slice none 0 0) 1 24 Tryz.underlying26 hj hy0 hy1 hy2 rfl (by decide) _ _ _ rfl (hqo.alloc _) ⟨VA.heap.size,0,none⟩ 1 1 [.slice (some ⟨g9,0,none⟩) p.length p.length] rfl rfl (cell_one_new _ _ _) (by simp [Value.oneCell']) hm3 hm4 (by rw [World.size_alloc];omega) ?_;intro v7 V7 hown7 hgrow7 _)
   go_roundw
   case rel=>exact ⟨i+1,by go_num,by omega,by rw [Hmd.out i hin];exact QsR.more HE3.out Hq3.out Hm.out Ho3.out (by rw [Hol.out];exact hown7) (by rw [Hol.out];exact hgrow7)⟩
   case measure=>simp [zam];omega
  ·obtain rfl:i=n:=by omega
   have hik:¬ (i:Int)<(i:Int):=(by omega);have hm2:=hm.trans Hmf.out;rw [hol];have Hq:=hid hq;have HE:=hid hE;have Hm:=hid hm2;have Hol:=hid hol;clear hq hE hm hm2 hol q0 q2;go_wp2_with fail
   exact bodyPost_ret (v:=.tuple #[.slice a6 i c6,.int .i64 0]) (by simp [results,Tryz.results102,go_sem]) rfl ⟨_,rfl,out,by have:=Hq.out;rw [Hol.out] at this;exact this,Hm.out,HE.out⟩
theorem zlC (u va vb:Value)(p:List Int)(rs:List Qw)(x y:List Rat)(w:World)(he:Env w)(hu:Vw w u p rs)(hp:Pr p p.length)(ha:Rd w va x)(hb:Rd w vb y)(hx:x.length=p.length)(hy:y.length=p.length)(hxf:∀ q∈x,Ft 30 q)(hyf:∀ q∈y,Ft 30 q)(hq:zh3 p (zex x y)) :
  Calls Tryz.prog 101 #[u,va,vb] w fun e w'=>e=.returned (.int .i64 (ze6 (tms p (dn (zex x y)) (zex x y))))∧Ext w w':=by
 have hpe:zfc p=0∧p.length≤100:=by rcases hp with ⟨e,_⟩ | ⟨e,_⟩ <;> rw [e] <;> decide
 obtain ⟨b,vp,vn,vs,nts,rfl,hbx,hpp,_,_,_⟩:=hu;have hc:=zh5 vp va vb p x y w he hpp ha hb hpe.1 hpe.2 hx hy hxf hyf hq;obtain ⟨ap,cp,rfl,_,_,_⟩:=hpp.parts;obtain ⟨a1,c1,rfl,_,_,_⟩:=ha.parts;obtain ⟨a2,c2,rfl,_,_,_⟩:=hb.parts;generalize ze6 (tms p (dn (zex x y)) (zex x y))=z at *;have q0:=hbx.c0;have Hc:=hid hc;clear hc hbx hpp ha hb hx hy hxf hyf hq hpe hp he;go_enter Tryz.func101,Tryz.ntmps101
 go_wp2_with fail
 refine Hc.out.mono ?_;rintro e w2 ⟨rfl,hx2⟩;have Hx2:=hid hx2;clear hx2;go_wp2_with fail
 go_ret
 exact ⟨rfl,Hx2.out⟩
end
end Go.Proofs.YtebabancfnmfjaaGreatDoor
