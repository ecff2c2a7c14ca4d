/- No run of the machine lets the count of draws fall: so every contract of a call may say that, too. Walk: slices.SortFunc at any number of sizes, with a compare that makes memory: the library's law, its count of draws by Calls.drawn. -/
import Derived.Calls
import Derived.Test.YtoehmpbipbbffaaGreatDoorPa17
import Derived.Test.YtoehmpbipbbffaaGreatDoorShelfL
import Derived.Shelf.SlSortCmp.Whole1
import Derived.Lib.OwnBridge
import Derived.Lib.QuietBelow
set_option maxRecDepth 100000
set_option maxHeartbeats 1000000
namespace Go.Proofs.YtoehmpbipbbffaaGreatDoor
section
open Go
def rdr {α:Type}:Result α→Nat
 | .ok _ w=>w.drawn
 | .halt _ w=>w.drawn
theorem zph {α:Type}(a:Ask α):∀ w:World,w.drawn≤(w.ask a).2.drawn:=by
 induction a with
 | done a=>intro w;exact Nat.le_refl _
 | ask what range k ih =>
  intro w
  unfold World.ask
  dsimp only
  split
  ·exact ih _ w
  ·exact Nat.le_trans (Nat.le_succ _) (ih _ { w with drawn:=w.drawn+1 })
theorem zpi (c:Sys)(w:World):w.drawn≤(w.sys c).2.drawn:=by
 have h:=zph (Kernel.perform c w.os) w;unfold World.sys;generalize w.ask (Kernel.perform c w.os)=r at h;split
 ·exact Nat.le_refl _
 ·exact h
theorem zpj {p:Program}{w w':World}{t:Addr}{u:TypeId}{k:Addr}{v:Value}{b:Bool}{l:List Addr}(h:w.viewStore p t u k v b=.ok (w',l)):w'.drawn=w.drawn:=by
 unfold World.viewStore at h;simp only [bind,Except.bind,pure,Except.pure] at h;repeat' split at h
 all_goals
  cases h
  try rfl
theorem zpk {p:Program}{w w':World}{a:Addr}{v:Value}{b:Bool}{l:List Addr}(h:w.farStore p a v b=.ok (w',l)):w'.drawn=w.drawn:=by
 unfold World.farStore at h;split at h
 ·split at h
  ·rename_i hv;injection h with h;rw [h] at hv;exact zpj hv
  ·cases h
 ·cases h
theorem zpl {α:Type}(p:Program)(s:Sem α):∀ w:World,w.drawn≤rdr (s.run p w):=by
 induction s with
 | pure a=>intro w;exact Nat.le_refl _
 | load m a k ih =>
  intro w
  unfold Sem.run
  split
  ·exact ih _ w
  ·split
   ·exact ih _ w
   ·exact Nat.le_refl _
 | store m a v k ih =>
  intro w
  cases v
  case agg=>exact Nat.le_refl _
  case tuple=>exact Nat.le_refl _
  all_goals
   simp only [Sem.run]
   split
   ·split
    ·exact Nat.le_refl _
    ·exact ih (w.setCell a _)
   ·split
    ·rename_i hf
     rw [← zpk hf]
     exact ih _
    ·exact Nat.le_refl _
 | new o k ih=>intro w;unfold Sem.run;exact ih _ { w with heap:=w.heap.push o }
 | shape r k ih=>intro w;unfold Sem.run;exact ih _ w
 | freeze a n k ih =>
  intro w
  unfold Sem.run
  have h:=ih (w.freeze a n)
  have e:(w.freeze a n).drawn=w.drawn:=by unfold World.freeze;split <;> rfl
  rw [e] at h
  exact h
 | frozen a k ih=>intro w;unfold Sem.run;exact ih _ w
 | getObj r k ih =>
  intro w
  unfold Sem.run
  split
  ·exact Nat.le_refl _
  ·exact ih _ w
  ·exact Nat.le_refl _
 | setObj r o k ih =>
  intro w
  unfold Sem.run
  split
  ·exact Nat.le_refl _
  ·exact ih { w with heap:=w.heap.setIfInBounds r o }
  ·exact Nat.le_refl _
 | choose q k ih =>
  intro w
  unfold Sem.run
  split
  ·exact ih _ w
  ·exact Nat.le_trans (Nat.le_succ _) (ih _ { w with drawn:=w.drawn+1 })
 | sys c k ih=>intro w;unfold Sem.run;exact Nat.le_trans (zpi c w) (ih _ _)
 | program k ih=>intro w;unfold Sem.run;exact ih _ w
 | mark m k ih=>intro w;unfold Sem.run;exact ih w
 | halt h=>intro w;exact Nat.le_refl _
theorem zpm {α:Type}(p:Program)(s:Sem α):∀ (w:World)(es:Array Event),w.drawn≤rdr (s.runT p w es).1:=by
 induction s with
 | pure a=>intro w es;exact Nat.le_refl _
 | load m a k ih =>
  intro w es
  unfold Sem.runT
  split
  ·exact ih _ w _
  ·split
   ·exact ih _ w _
   ·exact Nat.le_refl _
 | store m a v k ih =>
  intro w es
  cases v
  case agg=>exact Nat.le_refl _
  case tuple=>exact Nat.le_refl _
  all_goals
   simp only [Sem.runT]
   split
   ·split
    ·exact Nat.le_refl _
    ·exact ih (w.setCell a _) _
   ·split
    ·rename_i hf
     rw [← zpk hf]
     exact ih _ _
    ·exact Nat.le_refl _
 | new o k ih=>intro w es;unfold Sem.runT;exact ih _ { w with heap:=w.heap.push o } _
 | shape r k ih=>intro w es;unfold Sem.runT;exact ih _ w _
 | freeze a n k ih =>
  intro w es
  unfold Sem.runT
  have h:=ih (w.freeze a n) es
  have e:(w.freeze a n).drawn=w.drawn:=by unfold World.freeze;split <;> rfl
  rw [e] at h
  exact h
 | frozen a k ih=>intro w es;unfold Sem.runT;exact ih _ w _
 | getObj r k ih =>
  intro w es
  unfold Sem.runT
  split
  ·exact Nat.le_refl _
  ·exact ih _ w _
  ·exact Nat.le_refl _
 | setObj r o k ih =>
  intro w es
  unfold Sem.runT
  split
  ·exact Nat.le_refl _
  ·exact ih { w with heap:=w.heap.setIfInBounds r o } _
  ·exact Nat.le_refl _
 | choose q k ih =>
  intro w es
  unfold Sem.runT
  split
  ·exact ih _ w _
  ·exact Nat.le_trans (Nat.le_succ _) (ih _ { w with drawn:=w.drawn+1 } _)
 | sys c k ih=>intro w es;unfold Sem.runT;exact Nat.le_trans (zpi c w) (ih _ _ _)
 | program k ih=>intro w es;unfold Sem.runT;exact ih _ w _
 | mark m k ih=>intro w es;unfold Sem.runT;exact ih w _
 | halt h=>intro w es;exact Nat.le_refl _
theorem zpn {α:Type}{p:Program}{s:Sem α}{w w':World}{v:α}(h:s.run p w=.ok v w'):w.drawn≤w'.drawn:=by
 have:=zpl p s w;rw [h] at this;exact this
theorem zpo {α:Type}{p:Program}{s:Sem α}{w w':World}{e:Halt}(h:s.run p w=.halt e w'):w.drawn≤w'.drawn:=by
 have:=zpl p s w;rw [h] at this;exact this
theorem zpp {α:Type}{p:Program}{s:Sem α}{w w':World}{v:α}{es es':Array Event}(h:s.runT p w es=(.ok v w',es')):w.drawn≤w'.drawn:=by
 have:=zpm p s w es;rw [h] at this;exact this
theorem zpq {α:Type}{p:Program}{s:Sem α}{w w':World}{e:Halt}{es es':Array Event}(h:s.runT p w es=(.halt e w',es')):w.drawn≤w'.drawn:=by
 have:=zpm p s w es;rw [h] at this;exact this
def gdr : GStep→Nat
 | .go _ w _=>w.drawn
 | .comm _ _ _ _ w _=>w.drawn
 | .spawn _ _ w _=>w.drawn
 | .count _ w _=>w.drawn
 | .timer _ _ w _=>w.drawn
 | .alone _ _ w _=>w.drawn
 | .newcoro _ _ _ w _=>w.drawn
 | .coroswitch _ _ _ w _=>w.drawn
 | .collect _ w _=>w.drawn
 | .watch _ w _=>w.drawn
 | .ended _ w _=>w.drawn
theorem zpr (es:Array Event)(s:GStep):gdr (GStep.after es s)=gdr s:=by cases s <;> rfl
theorem zps (w:World)(fd:Nat)(text:ByteArray)(o:Outcome):w.drawn≤gdr (endWith w fd text o):=by
 have h:=zpi (.write fd text) w;unfold endWith;dsimp only;generalize w.sys (.write fd text)=r at h;obtain ⟨x,w1⟩:=r;dsimp only at h ⊢;split
 ·rename_i heq;injection heq with _ e;subst e;split <;> exact h
 ·rename_i heq;injection heq with _ e;subst e;exact h
 ·rename_i heq;injection heq with _ e;subst e;exact h
theorem zpt (p:Program)(fr:Frame)(cs:List Frame)(d:Option Dying)(m:String)(w:World):w.drawn≤gdr (endFatal p fr cs d m w):=by
 unfold endFatal;dsimp only;split
 ·exact zpn (by assumption)
 ·exact zpo (by assumption)
 ·exact zpo (by assumption)
theorem zpu (p:Program)(main:Bool)(fr:Frame)(cs:List Frame)(d:Option Dying)(v:Value)(w:World):w.drawn≤gdr (doReturn p main fr cs d v w):=by
 unfold doReturn;repeat' split
 all_goals exact Nat.le_refl _
theorem zpv (p:Program)(fr:Frame)(cs:List Frame)(dy:Option Dying)(d:Deferred)(w:World):w.drawn≤gdr (callDeferred p fr cs dy d w):=by
 have hif:∀ (c:Prop)[Decidable c](a b:GStep),w.drawn≤gdr a→w.drawn≤gdr b→w.drawn≤gdr (if c then a else b):=fun c _ a b h1 h2=>by split <;> assumption
 unfold callDeferred;refine hif _ _ _ (Nat.le_refl _) ?_
 ·clear hif;dsimp only;have h:=zpm p (invoke d.target d.args) w #[];generalize (invoke d.target d.args).runT p w #[]=r at h ⊢;obtain ⟨r,es⟩:=r;dsimp only at h ⊢;rw [zpr];repeat' split
  all_goals first | exact h | exact Nat.le_trans h (zpt ..)
theorem zpw (p:Program)(fr:Frame)(v:Value)(w:World):w.drawn≤gdr (endPrinting p fr v w):=by
 unfold endPrinting;dsimp only;split
 ·exact Nat.le_refl _
 ·exact Nat.le_refl _
theorem zpx (p:Program)(main:Bool)(fr:Frame)(cs:List Frame)(dy:Option Dying)(w:World):w.drawn≤gdr (unwind p main fr cs dy w):=by
 unfold unwind;split
 ·rename_i block _ ds _;have h:=zpm p (Instr.takeDeferred block) w #[];dsimp only;generalize (Instr.takeDeferred block).runT p w #[]=r at h ⊢;obtain ⟨r,es⟩:=r;dsimp only at h ⊢;rw [zpr]
  cases r <;> exact h
 ·exact zpv ..
 ·split
  ·exact Nat.le_refl _
  ·split
   ·exact Nat.le_refl _
   ·split
    ·exact Nat.le_refl _
    ·split
     ·split
      ·exact Nat.le_refl _
      ·rename_i chain _ _ _ _ _;have h:=zpl p (reportChain chain false) w;generalize (reportChain chain false).run p w=r at h ⊢;repeat' split
       all_goals exact h
     ·split
      ·exact zpw ..
      ·exact Nat.le_refl _
  ·split
   ·exact zpu ..
   ·rename_i fn _;have h:=zpm p (results fn fr.tmps) w #[];dsimp only;generalize (results fn fr.tmps).runT p w #[]=r at h ⊢;obtain ⟨r,es⟩:=r;dsimp only at h ⊢;rw [zpr];repeat' split
    ·exact Nat.le_trans h (zpu ..)
    ·exact h
    ·exact h
theorem zpy (p:Program)(fr:Frame)(d:Dying)(f:Fatal)(w:World):w.drawn≤gdr (writeOn p fr d f w):=by
 unfold writeOn;dsimp only;split
 ·exact Nat.le_refl _
 ·split
  ·exact zpp (by assumption)
  ·exact zpq (by assumption)
  ·exact zpq (by assumption)
  ·exact zpq (by assumption)
theorem zpz (p:Program)(fr:Frame)(d:Dying)(w:World):w.drawn≤gdr (die p fr d w):=by
 unfold die;split
 ·exact zpy ..
 ·split
  ·split
   ·exact Nat.le_refl _
   ·exact zps ..
  ·dsimp only;split
   ·exact Nat.le_refl _
   ·split
    ·exact zpn (by assumption)
    ·exact zpo (by assumption)
   ·rename_i t recv name _;have h:=zpm p (invoke (.fn (.method name) #[]) #[.iface t recv]) w #[];generalize (invoke (.fn (.method name) #[]) #[.iface t recv]).runT p w #[]=r at h ⊢;obtain ⟨r,es⟩:=r;dsimp only at h ⊢;rw [zpr];repeat' split
    all_goals first | exact h | exact Nat.le_trans h (zpw ..) | exact Nat.le_refl _
   ·exact Nat.le_refl _
theorem zp0 (p:Program)(fr:Frame)(cs:List Frame)(dy:Option Dying)(g:Nat)(w:World):w.drawn≤gdr (early p fr cs dy g w):=by
 have hn:∀ w1:World,w.drawn≤w1.drawn→w.drawn≤gdr (match w1.heap[g]? with
  | some (.pending c elem)=>GStep.go { frame:=fr,callers:=cs,status:=.running,dying:=dy } { w1 with heap:=w1.heap.setIfInBounds g (.cells c elem) }
  | _ => .ended (.stuck "early: the variable does not wait" (fr.pos p)) w1) := fun w1 h => by
  split <;> exact h
 unfold early;dsimp only;repeat' split
 all_goals first
  | exact Nat.le_refl _
  | exact hn _ (Nat.le_refl _)
  | (have h3:=zpn ‹Sem.run p (choose (Question.early g)) w=Result.ok _ _›
     exact h3)
  | (have h3:=zpo ‹Sem.run p (choose (Question.early g)) w=Result.halt _ _›
     exact h3)
theorem zp1 (p:Program)(listen:Bool)(fr:Frame)(cs:List Frame)(dy:Option Dying)(s:Sem Next)(w:World):w.drawn≤gdr (stepG.apply p listen fr cs dy s w):=by
 unfold stepG.apply;have h1:=zpl p s w;have h2:=zpm p s w #[];have h:w.drawn≤rdr (if listen then s.runT p w #[] else (s.run p w,#[])).1:=by split <;> assumption
 dsimp only;generalize (if listen then s.runT p w #[] else (s.run p w,#[]))=r at h ⊢;obtain ⟨r,es⟩:=r;dsimp only at h ⊢;rw [zpr];clear h1 h2
 cases r with
 | ok n w1 =>
  have h:w.drawn≤w1.drawn:=h
  cases n <;> ((try dsimp only);repeat' split) <;> exact h
 | halt e w1 =>
  have h:w.drawn≤w1.drawn:=h
  cases e
  case unsupported u=>cases u <;> first | exact h | exact Nat.le_trans h (zp0 ..)
  all_goals first | exact h | exact Nat.le_trans h (zpt ..)
theorem zp2 (p:Program)(listen:Bool)(fr:Frame)(cs:List Frame)(dy:Option Dying)(w:World):w.drawn≤gdr (stepG.oper p listen fr cs dy w):=by
 unfold stepG.oper;repeat' split
 all_goals first | exact Nat.le_refl _ | exact zp1 ..
theorem zp3 {α:Type}(o:Option α)(a:GStep)(f:α→GStep)(d:Nat)(h1:d≤gdr a)(h2:∀ x,d≤gdr (f x)):d≤gdr (o.elim a f):=by
 cases o
 ·exact h1
 ·exact h2 _
theorem zp4 (p:Program)(main:Bool)(listen:Bool)(fr:Frame)(cs:List Frame)(dy:Option Dying)(w:World):w.drawn≤gdr (stepG.exec p main listen fr cs dy w):=by
 have hl:∀ jump:Option Code,w.drawn≤gdr (match fr.roundOf with
  | none => if jump matches none | some .ret then GStep.go { frame := { fr with mode := .returning }, callers := cs, status := .running, dying := dy } w else .ended (.stuck "exit, goto: no such block or label" (fr.pos p)) w
  | some l =>
   match (Instr.endRound l jump).runT p w #[] with
   | (r,es)=>GStep.after (seen p fr.fn es) (match r with
     | .ok v w=>doReturn p main fr cs dy v w
     | .halt _ w => .ended (.stuck "range over a function: no such loop" (fr.pos p)) w)) := fun jump => by
  split
  ·split <;> exact Nat.le_refl _
  ·rename_i l _
   have h:=zpm p (Instr.endRound l jump) w #[]
   generalize (Instr.endRound l jump).runT p w #[]=r at h ⊢
   obtain ⟨r,es⟩:=r
   dsimp only at h ⊢
   rw [zpr]
   cases r
   ·exact Nat.le_trans h (zpu ..)
   ·exact h
 unfold stepG.exec;dsimp only;split
 ·exact hl none
 ·exact hl (some .ret)
 ·exact Nat.le_refl _
 ·exact Nat.le_refl _
 ·exact Nat.le_refl _
 ·exact Nat.le_refl _
 ·exact Nat.le_refl _
 ·split <;> exact Nat.le_refl _
 ·exact Nat.le_refl _
 ·exact Nat.le_refl _
 ·exact Nat.le_refl _
 ·exact Nat.le_refl _
 ·exact zp3 _ _ _ _ (hl (some (.exit _))) fun _=>Nat.le_refl _
 ·exact zp3 _ _ _ _ (hl (some (.goto _))) fun _=>Nat.le_refl _
 ·rename_i f params assign body k _;have h:=zpm p (Instr.enterLoop fr.fn fr.tmps params assign body fr.roundOf) w #[];generalize (Instr.enterLoop fr.fn fr.tmps params assign body fr.roundOf).runT p w #[]=r at h ⊢;obtain ⟨r,es⟩:=r;dsimp only at h ⊢;rw [zpr];split
  ·exact Nat.le_trans h (zp1 ..)
  ·exact h
 ·exact Nat.le_refl _
 ·exact zp1 ..
 ·rename_i l k _;have h:=zpm p (Instr.endLoop l) w #[];generalize (Instr.endLoop l).runT p w #[]=r at h ⊢;obtain ⟨r,es⟩:=r;dsimp only at h ⊢;rw [zpr];split <;> exact h
 ·exact Nat.le_refl _
 ·exact zp1 ..
 ·exact zp3 _ _ _ _ (Nat.le_refl _) fun _=>zp1 ..
 ·rename_i id ops draw k _;split
  ·exact Nat.le_refl _
  ·have h:=zpl p (choose (.order fr.fn id)) w;generalize (choose (.order fr.fn id)).run p w=r at h ⊢;split <;> exact h
 ·exact Nat.le_refl _
 ·split
  ·exact zp2 ..
  ·exact Nat.le_refl _
theorem zp5 (p:Program)(main:Bool)(g:Goroutine)(w:World)(listen:Bool):w.drawn≤gdr (stepG p main g w listen):=by
 unfold stepG;dsimp only;split
 ·exact zpz ..
 ·exact zp4 ..
 ·exact zpx ..
def sle (d:Nat):Stepped→Prop
 | .next m=>d≤m.world.drawn
 | .ended _ _=>True
theorem sle.mono {d e:Nat}{s:Stepped}(h:d≤e)(k:sle e s):sle d s:=by
 cases s
 ·exact Nat.le_trans h k
 ·trivial
theorem zp6 (p:Program)(gs:Array Goroutine)(rest:Rest)(w:World):sle w.drawn (look p gs rest w):=by
 unfold look;split
 ·dsimp only;split
  ·trivial
  ·split
   ·trivial
   ·split
    ·rename_i h;have h3:=zpn h;exact h3
    ·trivial
    ·trivial
 ·trivial
theorem zp7 (p:Program)(rest:Rest)(gs:Array Goroutine)(i:Nat)(g:Goroutine)(cases_:Array CommCase)(blocking:Bool)(shape:CommShape)(w:World):sle w.drawn (communicate p rest gs i g cases_ blocking shape w).1:=by
 unfold communicate;dsimp only;split
 ·trivial
 ·split
  ·split
   ·split
    ·rename_i w1 h;have e:w1.drawn=w.drawn:=by
      unfold waitingAt at h;split at h
      ·split at h
       ·injection h with h;rw [← h]
       ·cases h
      ·injection h with h;rw [← h]
     exact Nat.le_of_eq e.symm
    ·trivial
   ·exact Nat.le_refl _
  ·split
   ·trivial
   ·rename_i h;have h3:=zpn h;split
    ·split
     ·rename_i h5;have h6:=zpo h5;exact Nat.le_trans h3 h6
     ·trivial
    ·exact h3
    ·exact h3
    ·split
     ·exact h3
     ·split
      ·rename_i h4;have h6:=zpn h4;exact Nat.le_trans h3 h6
      ·trivial
    ·exact h3
    ·exact h3
    ·trivial
theorem zp8 (m:Machine)(k:Nat)(t:Timer)(a b:Nat):(retime m k t a b).2.world.drawn=m.world.drawn:=by
 unfold retime;dsimp only;split
 ·unfold drain;split <;> rfl
 ·rfl
theorem zp9 {m m':Machine}{op:TimerOp}{v:Value}(h:timerOp m op=.ok (v,m')):m'.world.drawn=m.world.drawn:=by
 have hn:∀ (m1:Machine)(var:Addr)(f:Nat→Timer→Value × Machine),(∀ k t,(f k t).2.world.drawn=m1.world.drawn)→∀ r,timerOp.named m1 var f=.ok r→r.2.world.drawn=m1.world.drawn:=fun m1 var f hf r h=>by
  unfold timerOp.named at h;split at h
  ·injection h with h;rw [← h];exact hf _ _
  ·cases h
 unfold timerOp at h;split at h
 ·split at h
  ·injection h with h;injection h with _ h;rw [← h];rfl
  ·split at h
   ·split at h
    ·cases h
    ·injection h with h;injection h with _ h;rw [← h]
   ·cases h
 ·exact hn _ _ _ (fun _ _=>zp8 ..) _ h
 ·split at h
  ·rename_i m1 ho;have e:m1.world.drawn=m.world.drawn:=by
    unfold timerOp.opened at ho;split at ho
    ·split at ho
     ·injection ho with ho;rw [← ho]
     ·cases ho
    ·injection ho with ho;rw [← ho]
   have h2:=hn m _ _ (fun _ _=>(zp8 ..).trans e) _ h;exact h2
  ·cases h
 ·injection h with h;injection h with _ h;rw [← h];rfl
theorem zpA (p:Program)(m:Machine)(i:Nat)(listen:Bool):sle m.world.drawn (runT p m i listen).1:=by
 unfold runT;dsimp only;have h:=zp5 p (i == 0) (m.gs.swapAt! i { (default:Goroutine) with status:=.finished }).1 m.world listen;generalize stepG p (i == 0) (m.gs.swapAt! i { (default:Goroutine) with status:=.finished }).1 m.world listen=s at h ⊢
 cases s
 case ended=>trivial
 case comm=>exact sle.mono h (zp7 ..)
 case go=>exact h
 case spawn=>exact h
 case count =>
  dsimp only;split
  ·trivial
  ·exact h
 case alone=>exact h
 case collect=>exact sle.mono h (zp6 ..)
 case watch=>exact h
 case newcoro=>exact h
 case coroswitch =>
  dsimp only;split
  ·exact h
  ·exact h
  ·trivial
 case timer =>
  dsimp only;split
  ·rename_i ho;have:=zp9 ho;exact Nat.le_trans h (Nat.le_of_eq this.symm)
  ·exact h
  ·trivial
  ·trivial
def mle (d:Nat):Move→Prop
 | .goroutine m _=>d≤m.world.drawn
 | .machine s _=>sle d s
theorem zpB (p:Program)(m:Machine)(k:Nat):sle m.world.drawn (serve p m k):=by
 unfold serve;split
 ·trivial
 ·exact Nat.le_refl _
 ·dsimp only;split
  ·trivial
  ·exact Nat.le_refl _
theorem zpC (p:Program)(m:Machine):mle m.world.drawn (askOn p m):=by
 have hp:∀ m1:Machine,m.world.drawn≤m1.world.drawn→mle m.world.drawn (match (choose (.sched (runnable m.gs m.world.os.mono).length)).run p m1.world with
   | .halt _ w => .machine (.ended (.stuck "sched" "") w)
   | .ok k world =>
    if (runnable m.gs m.world.os.mono).length≤1 then .goroutine { m1 with world } ((runnable m.gs m.world.os.mono).getD k 0) else
    match (choose (.extern "sched.slice" 65536)).run p world with
    | .halt _ w => .machine (.ended (.stuck "sched.slice" "") w)
    | .ok n world=>.goroutine { m1 with world,rest:={ m1.rest with slice:=if n=0 then none else some ((runnable m.gs m.world.os.mono).getD k 0,n) } } ((runnable m.gs m.world.os.mono).getD k 0)):=fun m1 h=>by
  split
  ·trivial
  ·rename_i heq;have h1:=zpn heq;split
   ·exact Nat.le_trans h h1
   ·split
    ·trivial
    ·rename_i heq2;have h2:=zpn heq2;exact Nat.le_trans h (Nat.le_trans h1 h2)
 unfold askOn;dsimp only
 have h1 := zpl p (if (due m.rest.timers m.world.os.mono).isEmpty then pure 0 else choose (.extern "timer.serve" ((due m.rest.timers m.world.os.mono).length + (if (runnable m.gs m.world.os.mono).isEmpty && (ahead m false).isNone then 0 else 1))) : Sem Nat) m.world
 split
 ·trivial
 ·rename_i k w1 heq;rw [heq] at h1;have h1:m.world.drawn≤w1.drawn:=h1;split
  ·exact sle.mono h1 (zpB ..)
  ·split
   ·split
    ·exact h1
    ·split
     ·exact h1
     ·split <;> trivial
   ·split
    ·exact hp { m with world:=w1 } h1
    ·split
     ·trivial
     ·rename_i w2 heq2;have h3:=zpn heq2;exact hp { m with world:=w2 } (Nat.le_trans h1 h3)
     ·rename_i w2 heq2;have h3:=zpn heq2;exact Nat.le_trans h1 h3
     ·rename_i k2 w2 heq2;have h3:=zpn heq2;exact hp (Machine.advanceTo { m with world:=w2 } _) (Nat.le_trans h1 h3)
theorem zpD (p:Program)(m:Machine):mle m.world.drawn (ask p m):=by
 unfold ask;split
 ·have h := zpl p (choose (.extern "collector.look" 2)) m.world
  split
  ·trivial
  ·rename_i w1 heq;rw [heq] at h;have h4:=zp6 p m.gs m.rest w1;split
   ·rename_i m2 heq2;rw [heq2] at h4;have h5:=zpC p m2;revert h5;generalize askOn p m2=s;intro h5
    cases s
    ·exact Nat.le_trans h (Nat.le_trans h4 h5)
    ·exact sle.mono (Nat.le_trans h h4) h5
   ·exact sle.mono h h4
  ·rename_i w1 _ heq;rw [heq] at h;have h5:=zpC p { m with world:=w1 };revert h5;generalize askOn p { m with world:=w1 }=s;intro h5
   cases s
   ·exact Nat.le_trans h h5
   ·exact sle.mono h h5
 ·exact zpC p m
theorem zpE (p:Program)(m:Machine):mle m.world.drawn (move p m):=by
 unfold move;split
 ·split
  ·exact Nat.le_refl _
  ·trivial
 ·split
  ·split
   ·exact Nat.le_refl _
   ·exact zpD p { m with rest:={ m.rest with slice:=none } }
  ·exact zpD p m
theorem zpF (p:Program)(m:Machine):sle m.world.drawn (step p m):=by
 unfold step stepT;have h:=zpE p m;split
 ·rename_i m1 i heq;rw [heq] at h;exact sle.mono h (zpA ..)
 ·rename_i s _ heq;rw [heq] at h;exact h
theorem zpG {p:Program}{m m':Machine}(h:Steps p m m'):m.world.drawn≤m'.world.drawn:=by
 obtain ⟨n,hn⟩:=h;induction n generalizing m with
 | zero=>injection hn with hn;rw [hn];exact Nat.le_refl _
 | succ n ih =>
  have h:=zpF p m
  unfold runN at hn
  cases hs:step p m with
  | next m1 =>
   rw [hs] at hn h
   exact Nat.le_trans h (ih hn)
  | ended o w=>rw [hs] at hn;cases hn
theorem Calls.drawn {P:Program}{f:FuncId}{args:Array Value}{w:World}{R:Ending→World→Prop}(h:Calls P f args w R) :
  Calls P f args w fun e w'=>R e w'∧((∃ v,e=.returned v)→w.drawn≤w'.drawn):=by
 intro cs;obtain ⟨e,w',fr,hr,hc,hf,hl⟩:=h cs;refine ⟨e,w',fr,⟨hr,?_⟩,hc,hf,hl⟩;rintro ⟨v,rfl⟩;exact zpG hc
end
section
open Go.RowKit Go.Lib Go.Shelf Go.Sort
theorem zpH {β:Type}[Inhabited β](enc:β→Value)(w:World)(blk m:Nat)(dk:Array β)(os:Array Obj):w.grownBy (sortWorld enc w blk 0 m dk os) (some blk):=by
 unfold sortWorld;refine ⟨rfl,rfl,rfl,by simp [grow,putRow,mapBlock,Sort.ahead],fun k hk hne=>?_⟩;have hkb:blk ≠ k:=fun e=>hne (by rw [e]);show (grow (putRow enc (Sort.ahead w m) blk 0 dk) os).heap[k]?=w.heap[k]?;rw [heap_grow_old _ _ (by simpa [putRow,mapBlock,Sort.ahead] using hk)];simp [putRow,mapBlock,Sort.ahead,Array.getElem?_modify,hkb]
theorem zpI (w:World)(os:Array Obj):Ext w (grow w os):=⟨rfl,rfl,rfl,by rw [size_grow];omega,fun k hk=>heap_grow_old w os hk⟩
theorem zpJ {W w':World}(h:Ext W w')(hd:W.drawn≤w'.drawn):∃ q os,w'=grow (W.drewN q) os:=by
 obtain ⟨p,hp⟩:=regrown_of_below h;refine ⟨p.d - W.drawn,p.os,?_⟩;have e:w'.drawn=p.d:=by rw [hp];rfl
 have e2:W.drewN (p.d - W.drawn)=redrawn W p.d:=by
  unfold World.drewN redrawn;rw [show W.drawn+(p.d - W.drawn)=p.d by omega]
 rw [e2];exact hp
theorem zpK {α:Type}(enc:α→Value)(key:α→Rat)(cf:α→α→Int)(g:Nat)(cb:Array Value)(B blk cap:Nat)(d:List α)(w:World)(hR:w.ownsRow B 32 1 (.slice (some ⟨blk,0,none⟩) d.length cap) d.length (d.map enc))(hl:d.length≤1000)(h1:OneCell enc)(hne:d ≠ [])
  (eg:∀ args w,(callFunc g args).run Tryz.prog w=.ok (.enter g args) w) (hcf:∀ x∈d,∀ y∈d,(cf x y<0 ↔ key x<key y))
  (hcmp:∀ W,w.grownBy W (some blk)→∀ x∈d,∀ y∈d,Calls Tryz.prog g (#[enc x,enc y]++cb) W fun e w'=>e=.returned (.int .i64 (cf x y))∧Ext W w') :
  Calls Tryz.prog 31 #[.slice (some ⟨blk,0,none⟩) d.length cap,.func (.func g) #[] cb] w fun e w'=>e=.returned (.tuple #[])∧∃ d',InR 32 w B blk cap enc d w' d'∧d'.Pairwise fun x y=>key x≤key y:=by
 obtain ⟨x0,hx0⟩:∃ x,x∈d:=by
  cases d with
  | nil=>exact absurd rfl hne
  | cons a t=>exact ⟨a,List.mem_cons_self ..⟩
 let β:={ x:α // x∈d };have:Inhabited β:=⟨⟨x0,hx0⟩⟩;obtain ⟨d2,hd2⟩:∃ d2:List β,d2=d.attach:=⟨_,rfl⟩;have hval:d2.map Subtype.val=d:=by rw [hd2];exact List.attach_map_subtype_val d
 have hmap:d2.map (fun b:β=>enc b.1)=d.map enc:=by
  rw [show (fun b:β=>enc b.1)=enc ∘ Subtype.val from rfl,← List.map_map,hval]
 have hlen:d2.length=d.length:=by rw [← hval,List.length_map]
 have hR2:=hR;rw [← hmap] at hR2;obtain ⟨g',cap',e,_,hlt,_,_,_,hH⟩:=holds_of_ownsRow (enc:=fun b:β=>enc b.1) (zs:=d2) hR2 (by intro h;cases h);injection e with e1 _ e3;injection e1 with e1;injection e1 with e1;subst e1;have hsz:d2.toArray.size=d.length:=by rw [List.size_toArray,hlen]
 have hO:SWO (ltOf fun a b:β=>cf a.1 b.1):=by
  have k:∀ a b:β,ltOf (fun a b:β=>cf a.1 b.1) a b=decide (key a.1<key b.1):=fun a b=>decide_eq_decide.2 (hcf a.1 a.2 b.1 b.2);refine ⟨fun x=>?_,fun x y z=>?_,fun x y z=>?_⟩
  ·rw [k];exact decide_eq_false Rat.lt_irrefl
  ·rw [k,k,k];intro h1 h2;have h1:=of_decide_eq_true h1;have h2:=of_decide_eq_true h2;exact decide_eq_true (by grind)
  ·rw [k,k,k];intro h1 h2;have h1:=of_decide_eq_false h1;have h2:=of_decide_eq_false h2;exact decide_eq_false (by grind)
 have hC:CmpLays1 Tryz.prog g cb (fun b:β=>enc b.1) (fun a b:β=>cf a.1 b.1) blk 0 d2.toArray.size w:=fun m os dk _ x y =>
  (Calls.drawn (hcmp _ (zpH _ w blk m dk os) x.1 x.2 y.1 y.2)).mono fun e w' ⟨⟨he,hx⟩,hd⟩=>⟨he,zpJ hx (hd ⟨_,he⟩)⟩
 have h:=Any.slices_SortFunc Tryz.lSortQ (fun b:β=>enc b.1) (fun b=>h1 b.1) (fun a b:β=>cf a.1 b.1) hO g cb blk 0 cap d2.toArray w eg hC hH hlt (by rw [hsz];omega);rw [hsz] at h;refine h.mono fun e w' ⟨he,d',n,os,hp,hs,hw⟩=>⟨he,d'.toList.map Subtype.val,⟨?_,?_,?_⟩,?_⟩
 ·have h3:=hp.2.2;have h4:d'.size=d.length:=by rw [hp.1,hsz]
  rw [show d'.extract 0 d.length=d' by rw [← h4];exact Array.extract_size,show d2.toArray.extract 0 d.length=d2.toArray by rw [← hsz];exact Array.extract_size] at h3;have h5:=h3.map Subtype.val;rw [show (d2.toArray.toList.map Subtype.val)=d from hval] at h5;exact h5
 ·have h4:d'.toList.length=d.length:=by rw [Array.length_toList,hp.1,hsz]
  have ho:=ownsRow_putRow (enc:=fun b:β=>enc b.1) (q:=n) (k:=d.length) (zs:=d2) (ys:=d'.toList) hR2 h4 (Nat.le_refl _);rw [List.take_of_length_le (Nat.le_of_eq h4)] at ho;have h6:(d'.toList.map Subtype.val).map enc=d'.toList.map (fun b:β=>enc b.1):=by rw [List.map_map];rfl
  rw [h6,hw];unfold sortWorld;exact (zpI _ os).own ho
 ·rw [hw];exact zpH _ w blk n d' os
 ·rw [List.pairwise_map,List.pairwise_iff_getElem];intro i j hi hj hij;have h4:d'.size=d.length:=by rw [hp.1,hsz]
  rw [Array.length_toList] at hi hj;have h5:=hs i j (Nat.zero_le _) hij (by omega);have h6:ltOf (fun a b:β=>cf a.1 b.1) d'[j]! d'[i]! = decide (key d'[j]!.1<key d'[i]!.1):=decide_eq_decide.2 (hcf _ d'[j]!.2 _ d'[i]!.2);rw [h6] at h5;have h7:=of_decide_eq_false h5;rw [getElem!_pos d' j hj,getElem!_pos d' i hi] at h7;rw [Array.getElem_toList,Array.getElem_toList];grind
end
end Go.Proofs.YtoehmpbipbbffaaGreatDoor
