/- Plain: classes of modes, inversion, moments of symmetry; strict scales are the proper ones that are constant. Walk: slices.insertionSortCmpFunc and SortFunc at sizes, with a bound method as the compare. Walk: scale.Note of a right scale. Walks: class.look: the view of a scale: its notes up to two periods. Walks: schismaref03's trim, Int. -/
import Derived.Test.YtebabancfnmfjaaGreatDoorPq19
import Derived.Test.YtebabancfnmfjaaGreatDoorPq17
import Derived.Shelf.RegionOpenPlain
import Derived.Shelf.Abstract
import Derived.Shelf.SlicesE.Kit
import Derived.Deep.RegionHeld3
import Derived.Test.YtebabancfnmfjaaGreatDoorPq16
import Derived.Test.YtebabancfnmfjaaGreatDoorPq18
import Derived.Test.YtebabancfnmfjaaGreatDoorPq07
set_option maxRecDepth 100000
set_option maxHeartbeats 4000000
namespace Go.Proofs.YtebabancfnmfjaaGreatDoor
section
section
variable {p : List Int} {N : List (List Rat)} (h : Wc p N)
include h
theorem Wc.mode (m:Int):Wc p (md p N m):=by
 refine ⟨h.wd.mode m,?_,by rw [ziD];exact h.few⟩;obtain ⟨n,hn⟩:=h.iv_nic;have key:∀ x∈zer p.length::md p N m,∃ k:Int,x=zew (nt p N k) (nt p N m):=fun x hx=>by
  rcases List.mem_cons.1 hx with rfl | hx
  ·exact ⟨m,by rw [zix,h.wd.ntlen]⟩
  ·unfold md at hx;obtain ⟨k,_,rfl⟩:=List.mem_map.1 hx;exact ⟨k,rfl⟩
 refine ⟨n,fun x hx y hy=>?_⟩;obtain ⟨k,rfl⟩:=key x hx;obtain ⟨l,rfl⟩:=key y hy;rw [ziy (by rw [h.wd.ntlen,h.wd.ntlen]) (by rw [h.wd.ntlen,h.wd.ntlen])];have:=hn l (k - l);unfold iv at this;rwa [show l+(k - l)=k by omega] at this
theorem Wc.iv_md (m i d:Int):iv p (md p N m) i d=iv p N (m+i) d:=by
 unfold iv;rw [h.wd.nt_md,h.wd.nt_md,ziy (by rw [h.wd.ntlen,h.wd.ntlen]) (by rw [h.wd.ntlen,h.wd.ntlen]),show m+(i+d)=m+i+d by omega]
theorem Wc.cls_md (m d:Int):cls p (md p N m) d=cls p N d:=by
 refine zib ((h.mode m).cls_srt d) (h.cls_srt d) fun x=>?_;rw [(h.mode m).cls_mem,h.cls_mem];constructor
 ·rintro ⟨i,e⟩;exact ⟨m+i,by rw [e,h.iv_md]⟩
 ·rintro ⟨i,e⟩;exact ⟨i - m,by rw [e,h.iv_md,show m+(i - m)=i by omega]⟩
def Pro (p:List Int)(N:List (List Rat)):Prop:=∀ d:Nat,d<N.length→∀ x∈cls p N (d:Int),∀ y∈cls p N ((d+1:Nat):Int),sF p x≤sF p y
def Str (p:List Int)(N:List (List Rat)):Prop:=∀ d:Nat,d<N.length→∀ x∈cls p N (d:Int),∀ y∈cls p N ((d+1:Nat):Int),sF p x<sF p y
def Cst (p:List Int)(N:List (List Rat)):Prop:=∀ d u:Nat,d<u→u≤N.length→∀ x∈cls p N (d:Int),x ∉ cls p N (u:Int)
end
end
section
open Go.RowKit Go.Lib Go.Shelf
theorem zjV {α:Type}(enc:α→Value)(key:α→Rat)(g:Nat)(u:Value)(B blk cap:Nat)(d0 d:List α)(W0 w:World)(hR:InR 41 W0 B blk cap enc d0 w d)(hl:d0.length≤1000)(h1:OneCell enc)
  (eg:∀ args w,(callFunc g args).run Tryz.prog w=.ok (.enter g args) w)
  (hcmp:∀ W,W0.grownBy W (some blk)→∀ x∈d0,∀ y∈d0,Calls Tryz.prog g #[u,enc x,enc y] W fun e w'=>(∃ z:Int,e=.returned (.int .i64 z)∧(z<0 ↔ key x<key y))∧Ext W w') :
  Calls Tryz.prog 219 #[.slice (some ⟨blk,0,none⟩) d0.length cap,.int .i64 0,.int .i64 d0.length,.func (.func g) #[u] #[]] w fun e w'=>e=.returned (.tuple #[])∧∃ d',InR 41 W0 B blk cap enc d0 w' d'∧d'.Pairwise fun x y=>key x≤key y:=by
 have mixed:Tryz.prog.follows .mixedOrders=true:=by kernel_rfl
 have hcl0:=h1.cells;simp only [Value.cells] at hcl0;have hst:=h1.store Tryz.prog;generalize hn:d0.length=n at *;have HR:=hid hR;have Hcmp:=hid hcmp;have Hn:=hid hn;clear hR hcmp hn;go_enter Tryz.func219,Tryz.ntmps219
 go_wp2_with fail
 go_loopw [8] (fun vi wr=>∃ (i:Nat)(dk:List α),vi=.int .i64 i∧1≤i∧(i≤n∨i=1)∧Hid (STo key dk i)∧Hid (InR 41 W0 B blk cap enc d0 wr dk)) (fun vi _=>n+1 - (zal vi).toNat)
 case atStart=>exact ⟨1,d,rfl,Nat.le_refl _,.inr rfl,hid (zhT d),HR⟩
 case round =>
  clear HR;obtain ⟨i,dk,rfl,hi1,hin,HS,HR⟩:=hrel;by_cases hlt:i<n
  ·have hltz:(i:Int)<(n:Int):=(by omega);go_wp2_with fail
   obtain ⟨wa,hwa⟩:∃ wa,wa=wr:=⟨_,rfl⟩;subst hwa;go_loopw [9] (fun vj wr=>∃ (j:Nat)(dj:List α),vj=.int .i64 j∧j≤i∧Hid (SAt key dj i j)∧Hid (InR 41 W0 B blk cap enc d0 wr dj)) (fun vj _=>(zal vj).toNat)
   case atStart=>exact ⟨i,dk,rfl,Nat.le_refl _,hid (zhU HS.out),HR⟩
   case round =>
    clear HR;obtain ⟨j,dj,rfl,hji,HA,HR⟩:=hrel;by_cases hja:0<j
    ·obtain ⟨jp,hjp⟩:∃ q,q+1=j:=⟨j - 1,by omega⟩;have hjl:dj.length=n:=HR.out.len.trans Hn.out;obtain ⟨x,hx⟩:∃ x,dj[jp+1]?=some x:=⟨_,List.getElem?_eq_getElem (by omega)⟩;obtain ⟨y,hy⟩:∃ y,dj[jp]?=some y:=⟨_,List.getElem?_eq_getElem (by omega)⟩;obtain ⟨iN,hiN⟩:∃ q,q=j:=⟨_,rfl⟩;obtain ⟨jN,hjN⟩:∃ q,q=jp:=⟨_,rfl⟩;have c1:=HR.out.cell hx;have c2:=HR.out.cell hy;rw [hjp,← hiN] at c1;rw [← hjN] at c2;have hcm:=fun W (hE:Ext wr W)=>Hcmp.out W (zfq HR.out.only hE) x (HR.out.mem hx) y (HR.out.mem hy);have hsw:=fun W (hE:Ext wr W)=>(HR.out.ext hE).swap hx hy;have hcf:=fun W (hE:Ext wr W)=>(⟨(HR.out.ext hE).cell hx,(HR.out.ext hE).cell hy,(HR.out.ext hE).frozen (jp+1),(HR.out.ext hE).frozen jp⟩:_∧_∧_∧_);have hex:=fun W (hE:Ext wr W)=>HR.out.ext hE;have hij:jN<iN:=(by omega);rw [hjp,← hiN,← hjN] at hcf;have hsw2:=fun W (hE:Ext wr W)=>(show InR 41 W0 B blk cap enc d0 ((W.setCell ⟨blk,iN,none⟩ (enc y)).setCell ⟨blk,jN,none⟩ (enc x)) ((dj.set (jp+1) y).set jp x) by rw [hiN,hjN,← hjp];exact hsw W hE);have zjp:(j:Int)=(jp:Int)+1:=(by omega);have hjad:decide ((jp:Int)+1 > (0:Int))=true:=decide_eq_true (by omega);have hjaz:(0:Int)<(jp:Int)+1:=(by omega);have ea:((jp:Int)+1).toNat=iN:=(by omega);have pa:(0:Int)≤(jp:Int)+1:=(by omega);have ba:(jp:Int)+1<(n:Int):=(by omega);have ra:IntKind.i64.wrap ((jp:Int)+1)=(jp:Int)+1:=(by rw [IntKind.wrap_i64];omega);have ec:((jp:Int)).toNat=jN:=(by omega);have pc:(0:Int)≤(jp:Int):=(by omega);have bc:(jp:Int)<(n:Int):=(by omega);have rc:IntKind.i64.wrap ((jp:Int))=(jp:Int):=(by rw [IntKind.wrap_i64];omega);have Hx:=hid hx;have Hy:=hid hy;have Hcm:=hid hcm;have Hsw:=hid hsw2;have Hcf:=hid hcf;have Hex:=hid hex;have HiN:=hid hiN;have HjN:=hid hjN;clear hx hy hcm hsw hsw2 hcf hex hjl hiN hjN HR;by_cases hxy:key x<key y
     ·have hxy2:key x≤key y:=Rat.le_of_lt hxy;have Hxy:=hid hxy;have Hxy2:=hid hxy2;clear hxy hxy2;go_wp2_with fail
      go_region_held3 (fun w'=>Ext wr w'∧w'.cell? ⟨blk,iN,none⟩=some (enc x)∧w'.cell? ⟨blk,jN,none⟩=some (enc y))
       (first | (with_reducible assumption) | exact ⟨(Ext.refl wr).drew,c1,c2⟩)
       (first | (go_at_fn g;refine (Hcm.out _ (And.left (by assumption))).mono ?_;rintro e9 VA ⟨⟨z,rfl,hz⟩,hxa⟩;have hEA:=((Ext.refl wr).drew).trans hxa;have hS2:Ext wr VA∧VA.cell? ⟨blk,iN,none⟩=some (enc x)∧VA.cell? ⟨blk,jN,none⟩=some (enc y):=⟨hEA,hEA.cell c1,hEA.cell c2⟩;have hz1:z<0:=hz.2 Hxy.out;have hz2:decide (z<0)=true:=decide_eq_true hz1;have HEA:=hid hEA;clear hxa hEA hz))
      all_goals
       clear hS2 c1 c2;obtain ⟨k1,k2,k3,k4⟩:=Hcf.out VA HEA.out;have S3:=hid (Hsw.out VA HEA.out);have c3:∃ u,(VA.setCell ⟨blk,iN,none⟩ (enc y)).cell? ⟨blk,jN,none⟩=some u:=by
        rw [World.cell?_setCell_other _ _ _ _ (by intro e';simp only [Addr.mk.injEq] at e';omega)];exact ⟨_,k2⟩
       obtain ⟨u3,c3⟩:=c3;go_wp2_with fail
       go_big_region_o
       have S4:=hid (S3.out.ext ((Ext.refl _).drew));have HA2:=hid (zhY (show SAt key dj i (jp+1) by rw [hjp];exact HA.out) Hx.out Hy.out Hxy2.out);clear c3 k1 k2 k3 k4 S3;generalize ((VA.setCell ⟨blk,iN,none⟩ (enc y)).setCell ⟨blk,jN,none⟩ (enc x)).drew=w3 at S4 ⊢;clear ea ec;go_wp2_with fail
       go_roundw
       case rel=>exact ⟨jp,(dj.set (jp+1) y).set jp x,by first | rfl | go_num | (congr 1;omega),by omega,HA2,S4⟩
       case measure=>simp [zal];omega
     ·have Hxy:=hid (Rat.not_lt.1 hxy);have hxy2:=hid hxy;clear hxy;go_wp2_with fail
      go_region_held3 (fun w'=>Ext wr w'∧w'.cell? ⟨blk,iN,none⟩=some (enc x)∧w'.cell? ⟨blk,jN,none⟩=some (enc y))
       (first | (with_reducible assumption) | exact ⟨(Ext.refl wr).drew,c1,c2⟩)
       (first | (go_at_fn g;refine (Hcm.out _ (And.left (by assumption))).mono ?_;rintro e9 VA ⟨⟨z,rfl,hz⟩,hxa⟩;have hEA:=((Ext.refl wr).drew).trans hxa;have hS2:Ext wr VA∧VA.cell? ⟨blk,iN,none⟩=some (enc x)∧VA.cell? ⟨blk,jN,none⟩=some (enc y):=⟨hEA,hEA.cell c1,hEA.cell c2⟩;have hz1:¬ z<0:=fun h=>hxy2.out (hz.1 h);have hz2:decide (z<0)=false:=decide_eq_false hz1;have HEA:=hid hEA;clear hxa hEA hz))
      all_goals
       clear hS2 c1 c2;have S4:=hid (Hex.out VA HEA.out);have HS2:=hid (zhW (show SAt key dj i (jp+1) by rw [hjp];exact HA.out) Hx.out Hy.out Hxy.out);clear ea ec;go_wp2_with fail
       go_roundw
       case rel=>exact ⟨i+1,dj,by go_num,by omega,.inl (by omega),HS2,S4⟩
       case measure=>simp [zal];omega
    ·obtain rfl:j=0:=by omega
     have hjaz:decide (((0:Nat):Int) > (0:Int))=false:=(by decide);have hjaz':¬ ((0:Nat):Int) > (0:Int):=(by decide);have HS2:=hid (zhV HA.out);go_wp2_with fail
     go_big_region_o
     have S4:=hid (HR.out.ext ((Ext.refl _).drew));clear HR;generalize wr.drew=w3 at S4 ⊢;go_wp2_with fail
     go_roundw
     case rel=>exact ⟨i+1,dj,by go_num,by omega,.inl (by omega),HS2,S4⟩
     case measure=>simp [zal];omega
  ·have hkk:¬ (i:Int)<(n:Int):=(by omega);go_wp2
   go_end0
   refine ⟨rfl,dk,HR.out,?_⟩;have hS:STo key dk dk.length:=by
    rw [HR.out.len,Hn.out];intro a b x y h1 h2;exact HS.out a b x y h1 (by omega)
   exact zia hS
theorem zjW {α:Type}(enc:α→Value)(key:α→Rat)(g:Nat)(u:Value)(B blk cap:Nat)(d:List α)(w:World)(hR:w.ownsRow B 41 1 (.slice (some ⟨blk,0,none⟩) d.length cap) d.length (d.map enc))(hl:d.length≤12)(h1:OneCell enc)
  (eg:∀ args w,(callFunc g args).run Tryz.prog w=.ok (.enter g args) w)
  (hcmp:∀ W,w.grownBy W (some blk)→∀ x∈d,∀ y∈d,Calls Tryz.prog g #[u,enc x,enc y] W fun e w'=>(∃ z:Int,e=.returned (.int .i64 z)∧(z<0 ↔ key x<key y))∧Ext W w') :
  Calls Tryz.prog 104 #[.slice (some ⟨blk,0,none⟩) d.length cap,.func (.func g) #[u] #[]] w fun e w'=>e=.returned (.tuple #[])∧∃ d',InR 41 w B blk cap enc d w' d'∧d'.Pairwise fun x y=>key x≤key y:=by
 have hi:=fun W (hE:Ext w W)=>zjV enc key g u B blk cap d d w W ⟨List.Perm.refl _,hE.own hR,zfq (zfo _ _) hE⟩ (by omega) h1 eg hcmp;have h2:∀ W (lim:Int),Ext w W→Calls Tryz.prog 160 #[.slice (some ⟨blk,0,none⟩) d.length cap,.int .i64 0,.int .i64 d.length,.int .i64 lim,.func (.func g) #[u] #[]] W fun e w'=>e=.returned (.tuple #[])∧∃ d',InR 41 w B blk cap enc d w' d'∧d'.Pairwise fun x y=>key x≤key y:=by
  intro W lim hE;have Hi:=hid (hi W hE);generalize hn:d.length=n at *;clear hi hR hcmp hn hE;have t1:(n:Int)≤12:=by omega
  go_enter Tryz.func160,Tryz.ntmps160
  go_wp2_with fail
  refine wp_loop_rounds 1 ?_;rw [rounds_succ];go_wp2_with fail
  refine Hi.out.mono ?_;rintro e w1 ⟨rfl,hd⟩;have Hd:=hid hd;clear hd;go_wp2
  (try simp only [Exit.inBlock,Exit.then]);refine bodyPost_ret (results_none rfl _ _ _) rfl ?_;exact ⟨rfl,Hd.out⟩
 generalize hn:d.length=n at *;have H2:=hid h2;clear hi hR hcmp hn h2;go_enter Tryz.func104,Tryz.ntmps104
 have hln:=fun W=>zgq n (by omega) W;have Hln:=hid hln;clear hln;have hw:IntKind.u64.wrap (n:Int)=(n:Int):=by rw [IntKind.wrap_u64];omega
 go_wp2_with fail
 refine (Hln.out _).mono ?_;rintro e w1 ⟨rfl,rfl⟩;go_wp2_with fail
 refine (H2.out w _ (Ext.refl w)).mono ?_;rintro e w1 ⟨rfl,hd⟩;have Hd:=hid hd;clear hd;go_wp2
 go_end0
 exact ⟨rfl,Hd.out⟩
end
section
open Go.RowKit Go.Lib
attribute [local go_sem] Oper.semAt_some
theorem zjX (v:Value)(p:List Int)(rs:List Qw)(n:Nat)(k:Int)(r:Qw)(w:World)(he:Env w)(hv:ScV w v p rs)(h:zij p rs)(hn:rs.length=n+1)(hr:rs[n]?=some r)(hk0:-1000000≤k)(hk1:k≤1000000)
  (hq:Ft 400 ((k / ((n:Int)+1):Int):Rat)) (hf1:∀ q∈zex r.x ((k / ((n:Int)+1):Int):Rat),Ft 30 q) (hf2:∀ q∈noteQ rs n k,Ft 30 q) :
  Calls Tryz.prog 14 #[v,.int .i64 k] w fun e w'=>∃ g,e=.returned (.tuple #[.slice (some ⟨g,0,none⟩) p.length p.length,.int .i64 0])∧zfw w' w.heap.size (.slice (some ⟨g,0,none⟩) p.length p.length) (noteQ rs n k)∧Ext w w':=by
 have h1:=fun W (hE:Ext w W)=>zik v p rs W (he.ext hE) (hv.ext hE) h;have h2:=fun W (hE:Ext w W)=>ziF v p rs n k r W (he.ext hE) (hv.ext hE) h hn hr (by omega) (by omega) hq hf1 hf2;obtain ⟨vp,vn,rfl,hp,hs,hm⟩:=hv;obtain ⟨ap,cp,rfl,_,_,_⟩:=hp.parts;obtain ⟨an,cn,rfl,_,_,_⟩:=hs.parts;generalize (zap p).length=n1 at *;generalize (qwc rs).length=n2 at *;have bx:(w.alloc (.cells #[.slice ap n1 cp,.slice an n2 cn] 28)).heap[w.heap.size]?=some (.cells #[.slice ap n1 cp,.slice an n2 cn] 28 (0,0)):=World.alloc_heap_new w _;have hE0:Ext w (w.alloc (.cells #[.slice ap n1 cp,.slice an n2 cn] 28)):=(Ext.refl w).alloc _;have hbox:∀ W,Ext (w.alloc (.cells #[.slice ap n1 cp,.slice an n2 cn] 28)) W→W.cell? ⟨w.heap.size,0,none⟩=some (.slice ap n1 cp)∧W.cell? ⟨w.heap.size,1,none⟩=some (.slice an n2 cn):=fun W hE=>by
  have hb:=hE.heap bx;unfold World.cell?;dsimp only;rw [hb];exact ⟨rfl,rfl⟩
 clear hp hs hm he h bx hq hf1 hf2 hn hr;have H1:=hid h1;have H2:=hid h2;have HE0:=hid hE0;have Hbox:=hid hbox;clear h1 h2 hE0 hbox;go_enter Tryz.func14,Tryz.ntmps14
 go_wp2_with fail
 refine (H1.out _ HE0.out).mono ?_;rintro e w1 ⟨rfl,hx1⟩;obtain ⟨q0,q1⟩:=Hbox.out w1 hx1;have Hx1:=hid (HE0.out.trans hx1);clear hx1;go_wp2_with fail
 refine (H2.out w1 Hx1.out).mono ?_;rintro e w2 ⟨g,rfl,ho,hx2⟩;have Ho:=hid (ho.mono Hx1.out.size);have Hx2:=hid (Hx1.out.trans hx2);clear ho hx2 q0 q1;go_wp2
 go_ret2
 exact ⟨g,rfl,Ho.out,Hx2.out⟩
end
section
open Go.RowKit Go.Lib Go.Shelf
attribute [local go_sem] Oper.semAt_some
theorem zjY (v:Value)(p:List Int)(rs:List Qw)(k:Int)(w:World)(he:Env w)(hv:ScV w v p rs)(h:Wd p (rs.map Qw.x))(hk0:-1000≤k)(hk1:k≤1000) :
  Calls Tryz.prog 14 #[v,.int .i64 k] w fun e w'=>∃ g,e=.returned (.tuple #[.slice (some ⟨g,0,none⟩) p.length p.length,.int .i64 0])∧zfw w' w.heap.size (.slice (some ⟨g,0,none⟩) p.length p.length) (nt p (rs.map Qw.x) k)∧Ext w w':=by
 have hpos:=h.pos;rw [List.length_map] at hpos;obtain ⟨n,hn⟩:∃ n,rs.length=n+1:=⟨rs.length - 1,by omega⟩;obtain ⟨r,hr⟩:∃ r,rs[n]?=some r:=⟨_,List.getElem?_eq_getElem (by omega)⟩;have hrx:r.x=ov (p.length - 1):=by
  have:=h.last;rw [List.length_map,hn,Nat.add_sub_cancel,List.getElem?_map,hr] at this;exact Option.some.inj this
 have hnq:=h.noteQ hn k;have hq:=h.nt_quick k hk0 hk1;have hd:=zh4 (a:=k) (b:=(n:Int)+1) (m:=1000) (by omega) hk0 hk1 (by omega);have:=zjX v p rs n k r w he hv h.right hn hr (by omega) (by omega) ((zjh (k:=5) (by show _<100000;omega) (by omega)).mono (by omega)) (by rw [hrx];exact zjj (by omega) (by omega)) (by rw [hnq];exact hq.1);rw [hnq] at this;exact this
def zjZ (w:World)(b:Nat)(u v s:Value):Prop:=w.heap[b]?=some (.cells #[u,v,s] 161 (0,0))
section
variable {w w' : World} {b : Nat} {u v s : Value}
theorem zjZ.new (w:World)(u v s:Value):zjZ (w.alloc (.cells #[u,v,s] 161)) w.heap.size u v s:=World.alloc_heap_new w _
theorem zjZ.ext (hx:Ext w w')(h:zjZ w b u v s):zjZ w' b u v s:=hx.heap h
theorem zjZ.c0 (h:zjZ w b u v s):w.cell? ⟨b,0,none⟩=some u:=by unfold World.cell?;dsimp only;rw [h];rfl
theorem zjZ.c1 (h:zjZ w b u v s):w.cell? ⟨b,1,none⟩=some v:=by unfold World.cell?;dsimp only;rw [h];rfl
theorem zjZ.c2 (h:zjZ w b u v s):w.cell? ⟨b,2,none⟩=some s:=by unfold World.cell?;dsimp only;rw [h];rfl
theorem zjZ.fz (h:zjZ w b u v s)(k:Nat):w.frozen? ⟨b,k,none⟩=false:=frozen_of_row w b k #[u,v,s] _ h
theorem zjZ.put2 (h:zjZ w b u v s)(x:Value):zjZ (w.setCell ⟨b,2,none⟩ x) b u v x:=heap_setCell_same w b 2 _ _ x h
end
theorem QwM.setV {W:World}{b B:Nat}{v:Value}{rs:List Qw}(h:QwM W b B v rs){c:Nat}{cs:Array Value}(hc:W.heap[c]?=some (.cells cs 161 (0,0)))(k:Nat)(u:Value):QwM (W.setCell ⟨c,k,none⟩ u) b B v rs :=
 ⟨zga hc h.1 (by decide) k u,fun r hr=>zga hc (h.2 r hr) (by decide) k u⟩
def NvR (b:Nat)(W6:World)(bs:Nat)(vp vn:Value)(xs:List (List Rat))(wr:World):Prop:=∃ (vs:Value)(nts:List Qw),zjZ wr bs vp vn vs∧QwM wr b W6.heap.size vs nts∧nts.map Qw.x=xs∧Ext W6 wr
theorem NvR.more {b:Nat}{W6 W V:World}{bs:Nat}{vp vn vs v7 u:Value}{x:List Rat}{nts:List Qw}{xs:List (List Rat)}{o:Obj}(hbs:W6.heap.size≤bs)(hb:zjZ W bs vp vn vs)(hq:QwM W b W6.heap.size vs nts)(hm:nts.map Qw.x=xs)(hE:Ext W6 W)(ho:zfw W b u x)
  (hown:V.ownsRow W6.heap.size 41 1 v7 (nts.length+1) (qwc nts++[u])) (hgrow:(W.alloc o).grownBy V vs.ownBlock):NvR b W6 bs vp vn (xs++[x]) (V.setCell ⟨bs,2,none⟩ v7):=by
 have h1:=QwM.more2 (r:=⟨_,u,zf0 ho.rd⟩) hE (Nat.le_refl _) hq ho hown hgrow;have hbV:zjZ V bs vp vn vs:=zfX (((Ext.refl W).alloc o).heap hb) (World.ownsRow.alloc hq.1 o) (by decide) hgrow;exact ⟨v7,_,hbV.put2 v7,h1.1.setV hbV 2 v7,by rw [List.map_append,hm];rfl,h1.2.setCell hbs v7⟩
def zka (p:List Int)(N:List (List Rat)):List (List Rat):=(List.range (2 * N.length+1)).map fun (i:Nat)=>nt p N (i:Int)
theorem zkb (p:List Int)(N:List (List Rat)):(zka p N).length=2 * N.length+1:=by unfold zka;simp
theorem zkc {p:List Int}{N:List (List Rat)}{i:Nat}(hi:i<2 * N.length+1):(zka p N)[i]?=some (nt p N (i:Int)):=by
 unfold zka;rw [List.getElem?_map,List.getElem?_range hi];rfl
def Vw (w:World)(u:Value)(p:List Int)(rs:List Qw):Prop:=∃ b vp vn vs nts,u=.pointer (some ⟨b,0,none⟩)∧zjZ w b vp vn vs∧Sl w vp (zap p)∧RdM w vn rs∧RdM w vs nts∧nts.map Qw.x=zka p (rs.map Qw.x)
theorem Vw.ext {w w':World}{u:Value}{p:List Int}{rs:List Qw}(h:Vw w u p rs)(hx:Ext w w'):Vw w' u p rs:=by
 obtain ⟨b,vp,vn,vs,nts,e,h1,h2,h3,h4,h5⟩:=h;exact ⟨b,vp,vn,vs,nts,e,h1.ext hx,hx.sl h2,hx.rdM h3,hx.rdM h4,h5⟩
theorem zkd (v:Value)(p:List Int)(rs:List Qw)(w:World)(he:Env w)(hv:ScV w v p rs)(h:Wd p (rs.map Qw.x)) :
  Calls Tryz.prog 98 #[v] w fun e w'=>∃ u,e=.returned (.tuple #[u,.int .i64 0])∧Vw w' u p rs∧Ext w w':=by
 obtain ⟨j0,hj,hy0,hy1,hy2⟩:=info_parts zfy;have hck:=fun W (hE:Ext w W)=>zik v p rs W (he.ext hE) (hv.ext hE) h.right;have hnt:=fun (k:Int)(h0:-1000≤k)(h1:k≤1000) W (hE:Ext w W)=>zjY v p rs k W (he.ext hE) (hv.ext hE) h h0 h1;have hfew:=h.few;have hL:(rs.map Qw.x).length=rs.length:=List.length_map ..;rw [hL] at hfew;have hmd:∀ i,i<2 * rs.length+1→(zka p (rs.map Qw.x)).take (i+1)=(zka p (rs.map Qw.x)).take i++[nt p (rs.map Qw.x) (i:Int)]:=fun i hi=>by
  have:=zkc (p:=p) (N:=rs.map Qw.x) (i:=i) (by rw [hL];exact hi);rw [List.take_add_one,this];rfl
 have hmf:(zka p (rs.map Qw.x)).take (2 * rs.length+1)=zka p (rs.map Qw.x):=List.take_of_length_le (by rw [zkb,hL];exact Nat.le_refl _);have hml:(zka p (rs.map Qw.x)).length=2 * rs.length+1:=by rw [zkb,hL]
 obtain ⟨vp,vn,rfl,hp,hs,hmr⟩:=hv;obtain ⟨ap,cp,rfl,_,_,_⟩:=hp.parts;obtain ⟨an,cn,rfl,_,_,_⟩:=hs.parts;rw [zar] at *;rw [zfz] at *;generalize hn:rs.length=n at *;have hE0:Ext w (w.alloc (.cells #[.slice ap p.length cp,.slice an n cn] 28)):=(Ext.refl w).alloc _;have b1:=zjl.new 28 w (.slice ap p.length cp) (.slice an n cn);have Hck:=hid hck;have Hnt:=hid hnt;have Hmd:=hid hmd;have Hmf:=hid hmf;have Hml:=hid hml;have HE0:=hid hE0;have B1:=hid b1;have Hp:=hid hp;have Hs:=hid (And.intro hs hmr);have Hn:=hid hn;clear hck hnt hmd hmf hml hE0 b1 hp hs hmr hn h he hL;have q0:=B1.out.c0;have q1:=B1.out.c1;go_enter Tryz.func98,Tryz.ntmps98
 go_wp2_with fail
 refine (Hck.out _ HE0.out).mono ?_;rintro e w6 ⟨rfl,hx6⟩;have q0:=(B1.out.ext hx6).c0;have q1:=(B1.out.ext hx6).c1;have Hx6:=hid hx6;clear hx6;have Hb7:=hid (zjZ.new w6 (.slice ap p.length cp) (.slice an n cn) (.slice none 0 0));have H6x:Hid (Ext w6 (w6.alloc (.cells #[.slice ap p.length cp,.slice an n cn,.slice none 0 0] 161))):=hid ((Ext.refl w6).alloc _);have s0:=(B1.out.ext (Hx6.out.trans H6x.out)).c0;have s1:=(B1.out.ext (Hx6.out.trans H6x.out)).c1;go_wp2_with fail
 have hw0:IntKind.i64.wrap (IntKind.i64.wrap (2 * (n:Int))+1)=2 * (n:Int)+1:=by rw [IntWalk.i64_in (2 * (n:Int)) (by omega),IntWalk.i64_in _ (by omega)]
 go_loopw [22] (fun v22 wr=>∃ i:Nat,v22=.int .i64 (i:Int)∧i≤2 * n+1∧NvR w6.heap.size w6 w6.heap.size (.slice ap p.length cp) (.slice an n cn) ((zka p (rs.map Qw.x)).take i) wr) (fun v22 _=>2 * n+2 - (zal v22).toNat)
 case atStart=>exact ⟨0,rfl,Nat.zero_le _,.slice none 0 0,[],Hb7.out,QwM.nil _ _ _,rfl,H6x.out⟩
 case round =>
  obtain ⟨i,rfl,hi,⟨vs,nts,hbn,hqn,hmn,hEn⟩⟩:=hrel;have hE6:=Hx6.out.trans hEn;have hEw:=HE0.out.trans hE6;have q0:=(B1.out.ext hE6).c0;have q1:=(B1.out.ext hE6).c1;by_cases hin:i<2 * n+1
  ·have hik:(i:Int)<2 * (n:Int)+1:=(by omega);have hnk:=Hnt.out (i:Int) (by omega) (by omega) wr hEw;have Hbn:=hid hbn;have Hqn:=hid hqn;have Hmn:=hid hmn;have HEn:=hid hEn;have HE6:=hid hE6;have HEw:=hid hEw;have Hnk:=hid hnk;clear hbn hqn hmn hEn hE6 hEw hnk;go_wp2_with fail
   refine Hnk.out.mono ?_;rintro e w8 ⟨g8,rfl,ho8,hx8⟩;obtain ⟨avs,cvs,rfl⟩:=zfi Hqn.out.1;have hnl:nts.length=i:=by
    have:=congrArg List.length Hmn.out;rw [List.length_map,List.length_take,Hml.out] at this;omega
   have hbk:=Hbn.out.ext hx8;rw [hnl] at hbk;have hqk:=hx8.qwM Hqn.out;rw [hnl] at hqk;have hqo:=hx8.own Hqn.out.1;rw [hnl] at hqo;have hEk:=HEn.out.trans hx8;have hbase:=hEk.size;have hok:=ho8.mono HEn.out.size;have hm3:i+1≤maxLen:=(by unfold maxLen;omega);have hm4:(i+1) * 24≤140737488355328:=(by omega);have r2:=hbk.c2;have Hbk:=hid hbk;have Hqk:=hid hqk;have Hnl:=hid hnl;have HEk:=hid hEk;have Hok:=hid hok;clear hbk hqk hnl hEk hok ho8 hx8 q0 q1;go_wp2_with (at_builtin;refine wpList_append_own _ rfl _ _ 26 rfl w6.heap.size 41 j0 (.slice none 0 0) 1 24 Tryz.underlying26 hj hy0 hy1 hy2 rfl (by decide) _ _ _ rfl (hqo.alloc _) ⟨w8.heap.size,0,none⟩ 1 1 [.slice (some ⟨g8,0,none⟩) p.length p.length] rfl rfl (cell_one_new _ _ _) (by simp [Value.oneCell']) hm3 hm4 (by rw [World.size_alloc];omega) ?_;intro v7 V7 hown7 hgrow7 _;have hbV:zjZ V7 w6.heap.size (.slice ap p.length cp) (.slice an n cn) (.slice avs i cvs):=zfX (((Ext.refl w8).alloc _).heap Hbk.out) (hqo.alloc (.cells #[.slice (some ⟨g8,0,none⟩) p.length p.length] 41)) (by decide) hgrow7;have d1:=hbV.c2;have e1:=hbV.fz 2;obtain ⟨a7,c7,rfl⟩:=zfi hown7)
   have hR:=NvR.more (W6:=w6) (W:=w8) (v7:=.slice a7 (i+1) c7) (Nat.le_refl _) Hbk.out Hqk.out Hmn.out HEk.out Hok.out (by rw [Hnl.out];exact hown7) hgrow7;rw [← Hmd.out i hin] at hR;have HR:=hid hR;clear hR d1 e1 r2 hgrow7 hown7 hbV;generalize V7.setCell ⟨w6.heap.size,2,none⟩ (.slice a7 (i+1) c7)=V2 at *;go_roundw
   case rel=>exact ⟨i+1,by go_num,by omega,HR.out⟩
   case measure=>simp [zal];omega
  ·obtain rfl:i=2 * n+1:=by omega
   have hik:¬ ((2 * n+1:Nat):Int)<2 * (n:Int)+1:=(by omega);have hmn2:=hmn.trans Hmf.out;have hfin:Vw wr (.pointer (some ⟨w6.heap.size,0,none⟩)) p rs:=by
    refine ⟨_,_,_,_,nts,rfl,hbn,hEw.sl Hp.out,?_,hqn.rd,hmn2⟩;have:=hEw.rdM Hs.out;exact this
   have Hfin:=hid hfin;have HEw:=hid hEw;clear hfin hEw hmn2 hmn hbn hqn hEn hE6;go_wp2_with fail
   exact bodyPost_ret (v:=.tuple #[.pointer (some ⟨w6.heap.size,0,none⟩),.int .i64 0]) (by simp [results,Tryz.results98,go_sem]) rfl ⟨_,rfl,Hfin.out,HEw.out⟩
end
section
open Go.RowKit Go.Lib
theorem zke (n:Int)(w:World)(he:Env w)(h0:-9223372036854775808≤n)(h1:n≤9223372036854775807) :
  Calls Tryz.prog 264 #[.int .i64 n] w fun e w'=>e=.returned (.string (I n))∧Ext w w':=by
 have hi:=zaE n h0 h1 w he;generalize I n=s at *;clear he;have Hi:=hid hi;clear hi;go_enter Tryz.func264,Tryz.ntmps264
 go_wp2_with fail
 refine (Hi.out).mono ?_;rintro e w1 ⟨rfl,hx1⟩;have Hx1:=hid hx1;clear hx1;go_wp2
 go_ret
 exact ⟨rfl,Hx1.out⟩
def zkf (w:World)(b:Nat):Nat:=match w.cell? ⟨b,1,none⟩ with | some (.slice _ n _)=>n | _=>0
theorem zkg (u:Value)(b:Bool)(ds:List Int)(w:World)(hu:Sl w u (zap ds))(hl:ds.length≤1000) :
  Calls Tryz.prog 262 #[.agg #[.bool b,u]] w fun e w'=>∃ (u':Value)(k:Nat),e=.returned (.agg #[.bool (b && decide (0<k)),u'])∧k≤ds.length∧(∀ j,k≤j→j<ds.length→ds[j]?=some 0)∧(∀ j,k=j+1→ds[j]? ≠ some 0)∧Sl w' u' (zap (ds.take k))∧Ext w w':=by
 have htk:∀ k,k≤ds.length→∀ a c,u=.slice a ds.length c→∀ W,Ext w W→Sl W (.slice a k c) (zap (ds.take k)):=fun k hk a c e W hE=>by
  have hs:=hE.sl hu;have hlen:(zap (ds.take k)).length=k:=by rw [zar,List.length_take];omega
  rcases hs with ⟨a',cap,e',hm,h0⟩ | ⟨b',off,cap,e',h1,h2,hc⟩
  ·rw [e] at e';injection e' with e1 e2 e3;have:k=0:=(by omega);subst this;exact .inl ⟨a,c,rfl,by omega,by simp [zap]⟩
  ·rw [e] at e';injection e' with e1 e2 e3;refine .inr ⟨b',off,c,by rw [hlen,e1],by rw [hlen];rw [zar] at h1;omega,by omega,fun i x hx=>hc i x ?_⟩;have hi:i<k:=(by have:=(List.getElem?_eq_some_iff.1 hx).1;omega);unfold zap at hx ⊢;rw [List.getElem?_map,List.getElem?_take,if_pos hi] at hx;rw [List.getElem?_map];exact hx
 obtain ⟨a,c,rfl,hcm,hcl,hc⟩:=hu.parts;rw [zar] at htk hcl ⊢;have hcell:∀ j d,ds[j]?=some d→∃ b' off,a=some ⟨b',off,none⟩∧w.cell? ⟨b',off+j,none⟩=some (.int .i64 d):=fun j d hd=>hc j _ (by unfold zap;rw [List.getElem?_map,hd];rfl);have hE0:Ext w ((w.alloc (.cells #[.bool b,.slice a ds.length c] 243)).alloc (.cells #[.bool false,.slice none 0 0] 243)):=((Ext.refl _).alloc _).alloc _;have b1:=(zjl.new 243 w (.bool b) (.slice a ds.length c)).ext ((Ext.refl _).alloc (.cells #[.bool false,.slice none 0 0] 243));have b2:=zjl.new 243 (w.alloc (.cells #[.bool b,.slice a ds.length c] 243)) (.bool false) (.slice none 0 0);rw [World.size_alloc] at b2;have htk2:=fun k hk W hE=>htk k hk a c rfl W hE;clear hu hc htk;generalize hn:ds.length=n at *;have Hn:=hid hn;clear hn;have hw0:=Nat.lt_succ_self w.heap.size;have Hcell:=hid hcell;have HE0:=hid hE0;have Htk2:=hid htk2;have B1:=hid b1;have B2:=hid b2;clear hcell hE0 htk2 b1 b2;go_enter Tryz.func262,Tryz.ntmps262
 go_wp2_with fail
 go_loopw [3] (fun _ wr=>∃ k:Nat,k≤n∧zjl 243 wr w.heap.size (.bool b) (.slice a k c)∧K0 243 w wr (w.heap.size+1)∧∀ j,k≤j→j<n→ds[j]?=some 0) (fun _ wr=>zkf wr w.heap.size)
 case atStart=>exact ⟨n,Nat.le_refl _,B1.out,⟨HE0.out,_,_,B2.out⟩,fun j h1 h2=>by omega⟩
 case round =>
  obtain ⟨k,hk,hb,hK,hz⟩:=hrel;have q0:=hb.c0;have q1:=hb.c1;have f0:=hb.fz 0;have f1:=hb.fz 1;have hme:zkf wr w.heap.size=k:=by unfold zkf;rw [q1]
  have Hb:=hid hb;have HK:=hid hK;have Hz:=hid hz;have Hme:=hid hme;clear hb hK hz hme;by_cases hk0:0<k
  ·obtain ⟨j,hkj⟩:∃ j,k=j+1:=⟨k - 1,by omega⟩;obtain ⟨d,hd⟩:∃ d,ds[j]?=some d:=⟨_,List.getElem?_eq_getElem (by rw [Hn.out];omega)⟩;obtain ⟨b',off,rfl,hc1⟩:=Hcell.out j d hd;have hc2:=HK.out.x.cell hc1;have hwj:IntKind.i64.wrap ((k:Int) - 1)=(j:Int):=(by rw [IntKind.wrap_i64];omega);have hj0:(0:Int)≤(j:Int):=(by omega);have hj1:(j:Int)<(k:Int):=(by omega);have hj2:¬ (k:Int)<(j:Int):=(by omega);have hkz:(0:Int)<(k:Int):=(by omega);have hkd:decide ((k:Int) > 0)=true:=decide_eq_true (by omega);have Hd:=hid hd;clear hd hc1;have hjc:(j:Int)≤(c:Int):=(by omega);by_cases hd0:d=0
   ·subst hd0;have hS:=Hb.out.put1 (.slice (some ⟨b',off,none⟩) j c);have hKS:=HK.out.set (b:=w.heap.size) (Nat.le_refl _) (by omega) 1 (.slice (some ⟨b',off,none⟩) j c);have HS:=hid hS;have HKS:=hid hKS;have Hkj:=hid hkj;clear hS hKS hkj;go_wp2_with fail
    go_roundw
    case rel=>exact ⟨j,by have:=Hkj.out;omega,HS.out,HKS.out,fun i h1 h2=>by
     have:=Hkj.out;rcases (by omega:i=j∨k≤i) with e | e
     ·rw [e];exact Hd.out
     ·exact Hz.out i e h2⟩
    case measure =>
     have h1:zkf (wr.setCell ⟨w.heap.size,1,none⟩ (.slice (some ⟨b',off,none⟩) j c)) w.heap.size=j:=(by unfold zkf;rw [HS.out.c1]);have:=Hkj.out;rw [h1,Hme.out];omega
   ·have hdn:decide (d=0)=false:=decide_eq_false hd0;have hdd:(d == 0)=false:=(by simpa using hd0);have Hd0:=hid hd0;have Hkj:=hid hkj;clear hkj
    cases b with
    | true =>
     have hS:=Hb.out.put0 (.bool true)
     have hKS:=HK.out.set (b:=w.heap.size) (Nat.le_refl _) (by omega) 0 (.bool true)
     have hsl:=Htk2.out k hk _ hKS.x
     have s0:=hS.c0
     have s1:=hS.c1
     have k0:=hKS.res.c0;have k1:=hKS.res.c1;have z0:=hKS.res.fz 0;have z1:=hKS.res.fz 1
     obtain ⟨hb5,hx5⟩:=hKS.fin (by omega) (.bool true) (.slice (some ⟨b',off,none⟩) k c)
     have hsl2:=Htk2.out k hk _ hx5
     have Hb5:=hid hb5;have Hx5:=hid hx5;have Hsl2:=hid hsl2
     clear hS hKS hsl hb5 hx5 hsl2
     go_wp2_with fail
     have hd0':=Hb5.out.c0
     have hd1':=Hb5.out.c1
     exact bodyPost_ret (v:=.agg #[.bool true,.slice (some ⟨b',off,none⟩) k c]) (by simp [results,Tryz.results262,go_sem,hd0',hd1']) rfl ⟨_,k,by rw [decide_eq_true hk0],hk,fun i h1 h2=>Hz.out i h1 h2,fun i e=>by rw [show i=j by have:=Hkj.out;omega,Hd.out];exact fun e=>Hd0.out (Option.some.inj e),Hsl2.out,Hx5.out⟩
    | false =>
     have hS:=Hb.out.put0 (.bool false)
     have hKS:=HK.out.set (b:=w.heap.size) (Nat.le_refl _) (by omega) 0 (.bool false)
     have hsl:=Htk2.out k hk _ hKS.x
     have s0:=hS.c0
     have s1:=hS.c1
     have k0:=hKS.res.c0;have k1:=hKS.res.c1;have z0:=hKS.res.fz 0;have z1:=hKS.res.fz 1
     obtain ⟨hb5,hx5⟩:=hKS.fin (by omega) (.bool false) (.slice (some ⟨b',off,none⟩) k c)
     have hsl2:=Htk2.out k hk _ hx5
     have Hb5:=hid hb5;have Hx5:=hid hx5;have Hsl2:=hid hsl2
     clear hS hKS hsl hb5 hx5 hsl2
     go_wp2_with fail
     have hd0':=Hb5.out.c0
     have hd1':=Hb5.out.c1
     exact bodyPost_ret (v:=.agg #[.bool false,.slice (some ⟨b',off,none⟩) k c]) (by simp [results,Tryz.results262,go_sem,hd0',hd1']) rfl ⟨_,rfl,k,hk,fun i h1 h2=>Hz.out i h1 h2,fun i e=>by rw [show i=j by have:=Hkj.out;omega,Hd.out];exact fun e=>Hd0.out (Option.some.inj e),Hsl2.out,Hx5.out⟩
  ·obtain rfl:k=0:=by omega
   have hkd:decide (((0:Nat):Int) > 0)=false:=by decide
   cases b with
   | true =>
    have hS:=Hb.out.put0 (.bool false)
    have hKS:=HK.out.set (b:=w.heap.size) (Nat.le_refl _) (by omega) 0 (.bool false)
    have hsl:=Htk2.out 0 hk _ hKS.x
    have s0:=hS.c0
    have s1:=hS.c1
    have k0:=hKS.res.c0;have k1:=hKS.res.c1;have z0:=hKS.res.fz 0;have z1:=hKS.res.fz 1
    obtain ⟨hb5,hx5⟩:=hKS.fin (by omega) (.bool false) (.slice a 0 c)
    have hsl2:=Htk2.out 0 hk _ hx5
    have Hb5:=hid hb5;have Hx5:=hid hx5;have Hsl2:=hid hsl2
    clear hS hKS hsl hb5 hx5 hsl2
    go_wp2_with fail
    have hd0':=Hb5.out.c0
    have hd1':=Hb5.out.c1
    exact bodyPost_ret (v:=.agg #[.bool false,.slice a 0 c]) (by simp [results,Tryz.results262,go_sem,hd0',hd1']) rfl ⟨_,0,rfl,Nat.zero_le _,fun i h1 h2=>Hz.out i h1 h2,fun i e=>by omega,Hsl2.out,Hx5.out⟩
   | false =>
    have hS:=Hb.out.put0 (.bool false)
    have hKS:=HK.out.set (b:=w.heap.size) (Nat.le_refl _) (by omega) 0 (.bool false)
    have hsl:=Htk2.out 0 hk _ hKS.x
    have s0:=hS.c0
    have s1:=hS.c1
    have k0:=hKS.res.c0;have k1:=hKS.res.c1;have z0:=hKS.res.fz 0;have z1:=hKS.res.fz 1
    obtain ⟨hb5,hx5⟩:=hKS.fin (by omega) (.bool false) (.slice a 0 c)
    have hsl2:=Htk2.out 0 hk _ hx5
    have Hb5:=hid hb5;have Hx5:=hid hx5;have Hsl2:=hid hsl2
    clear hS hKS hsl hb5 hx5 hsl2
    go_wp2_with fail
    have hd0':=Hb5.out.c0
    have hd1':=Hb5.out.c1
    exact bodyPost_ret (v:=.agg #[.bool false,.slice a 0 c]) (by simp [results,Tryz.results262,go_sem,hd0',hd1']) rfl ⟨_,0,rfl,Nat.zero_le _,fun i h1 h2=>Hz.out i h1 h2,fun i e=>by omega,Hsl2.out,Hx5.out⟩
end
end Go.Proofs.YtebabancfnmfjaaGreatDoor
