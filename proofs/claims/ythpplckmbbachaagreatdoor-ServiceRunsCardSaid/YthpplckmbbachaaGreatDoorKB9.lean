/- Lemmas, no conditions. -/
import Derived.Test.YthpplckmbbachaaGreatDoorKB1
import Derived.Shelf.SlGeneric
import Derived.Shelf.SlLaysF
import Derived.Shelf.SlSortCmp.WholeK
import Derived.Ground.SlsfProg
import Derived.Test.YthpplckmbbachaaGreatDoorProg
import Derived.Calls
import Derived.StepT
set_option linter.unusedSimpArgs false
set_option linter.unusedVariables false
namespace Go.Proofs
open Go.Shelf
def Tryz.w8:Go.Shelf.Ren:=⟨fun|6=>539|15=>182|14=>545|28=>257|29=>258|20=>546|21=>547|22=>548|23=>549|24=>550|25=>551|26=>552|27=>553|46=>554|47=>341|48=>342|49=>555|50=>556|57=>557|n=>n,fun|22=>23|24=>142|25=>519|3=>3|39=>268|0=>0|53=>313|55=>315|4=>4|46=>306|45=>305|50=>263|5=>5|9=>9|66=>369|70=>373|76=>414|77=>392|n=>n,fun|n=>n⟩
theorem Tryz.WB:Go.Proofs.SlLaysF0.n6 Tryz.prog Tryz.w8:= {
 mixed:=by kernel_rfl
 f6:=⟨Tryz.f539.name,aH,Tryz.func539.trans (congrArg some aD)⟩
 f14:=⟨Tryz.f545.name,aH,Tryz.func545.trans (congrArg some aD)⟩
 f15:=Tryz.func182.trans (congrArg some aD)
 f20:=⟨Tryz.f546.name,aH,Tryz.func546.trans (congrArg some aD)⟩
 f21:=⟨Tryz.f547.name,aH,Tryz.func547.trans (congrArg some aD)⟩
 f22:=⟨Tryz.f548.name,aH,Tryz.func548.trans (congrArg some aD)⟩
 f23:=⟨Tryz.f549.name,aH,Tryz.func549.trans (congrArg some aD)⟩
 f24:=⟨Tryz.f550.name,aH,Tryz.func550.trans (congrArg some aD)⟩
 f25:=⟨Tryz.f551.name,aH,Tryz.func551.trans (congrArg some aD)⟩
 f26:=⟨Tryz.f552.name,aH,Tryz.func552.trans (congrArg some aD)⟩
 f27:=⟨Tryz.f553.name,aH,Tryz.func553.trans (congrArg some aD)⟩
 f28:=Tryz.func257.trans (congrArg some aD)
 f29:=Tryz.func258.trans (congrArg some aD)
 f46:=⟨Tryz.f554.name,aH,Tryz.func554.trans (congrArg some aD)⟩
 f47:=Tryz.func341.trans (congrArg some aD)
 f48:=Tryz.func342.trans (congrArg some aD)
 f49:=⟨Tryz.f555.name,aH,Tryz.func555.trans (congrArg some aD)⟩
 f50:=⟨Tryz.f556.name,aH,Tryz.func556.trans (congrArg some aD)⟩
 f57:=⟨Tryz.f557.name,aH,Tryz.func557.trans (congrArg some aD)⟩
 t0:=Tryz.underlying0
 a0:=Tryz.isAgg0
 z0:=Tryz.sizeOf0
 v0:=Tryz.zeroValue0
 t3:=Tryz.underlying3
 a3:=Tryz.isAgg3
 z3:=Tryz.sizeOf3
 v3:=Tryz.zeroValue3
 t4:=Tryz.underlying4
 a4:=Tryz.isAgg4
 z4:=Tryz.sizeOf4
 v4:=Tryz.zeroValue4
 t5:=Tryz.underlying5
 a5:=Tryz.isAgg5
 z5:=Tryz.sizeOf5
 v5:=Tryz.zeroValue5
 t9:=Tryz.underlying9
 a9:=Tryz.isAgg9
 z9:=Tryz.sizeOf9
 v9:=Tryz.zeroValue9
 t22:=Tryz.underlying23
 a22:=Tryz.isAgg23
 z22:=Tryz.sizeOf23
 v22:=Tryz.zeroValue23
 t25:=Tryz.underlying519
 a25:=Tryz.isAgg519
 z25:=Tryz.sizeOf519
 v25:=Tryz.zeroValue519
 t39:=Tryz.underlying268
 a39:=Tryz.isAgg268
 z39:=Tryz.sizeOf268
 v39:=Tryz.zeroValue268
 t45:=Tryz.underlying305
 a45:=Tryz.isAgg305
 z45:=Tryz.sizeOf305
 v45:=Tryz.zeroValue305
 t46:=Tryz.underlying306
 a46:=Tryz.isAgg306
 z46:=Tryz.sizeOf306
 v46:=Tryz.zeroValue306
 t50:=Tryz.underlying263
 a50:=Tryz.isAgg263
 z50:=Tryz.sizeOf263
 v50:=Tryz.zeroValue263
 t53:=Tryz.underlying313
 a53:=Tryz.isAgg313
 z53:=Tryz.sizeOf313
 v53:=Tryz.zeroValue313
 t55:=Tryz.underlying315
 a55:=Tryz.isAgg315
 z55:=Tryz.sizeOf315
 v55:=Tryz.zeroValue315
 t66:=Tryz.underlying369
 a66:=Tryz.isAgg369
 z66:=Tryz.sizeOf369
 v66:=Tryz.zeroValue369
 t70:=Tryz.underlying373
 a70:=Tryz.isAgg373
 z70:=Tryz.sizeOf373
 v70:=Tryz.zeroValue373
 t76:=Tryz.underlying414
 a76:=Tryz.isAgg414
 z76:=Tryz.sizeOf414
 v76:=Tryz.zeroValue414
 t77:=Tryz.underlying392
 a77:=Tryz.isAgg392
 z77:=Tryz.sizeOf392
 v77:=Tryz.zeroValue392 }
def Tryz.TC:Go.Shelf.Ren:=⟨fun|6=>288|15=>182|14=>362|28=>257|29=>258|20=>409|21=>410|22=>411|23=>412|24=>413|25=>414|26=>415|27=>416|46=>447|47=>341|48=>342|49=>448|50=>449|57=>476|n=>n,fun|22=>40|24=>3|25=>328|3=>3|39=>268|0=>0|53=>313|55=>315|4=>4|46=>306|45=>305|50=>263|5=>5|9=>9|66=>369|70=>373|76=>414|77=>392|n=>n,fun|n=>n⟩
theorem Tryz.aez:Go.Proofs.SlLaysF.n6 Tryz.prog Tryz.TC:= {
 mixed:=by kernel_rfl
 f6:=⟨Tryz.f288.name,aH,Tryz.func288.trans (congrArg some aD)⟩
 f14:=⟨Tryz.f362.name,aH,Tryz.func362.trans (congrArg some aD)⟩
 f15:=Tryz.func182.trans (congrArg some aD)
 f20:=⟨Tryz.f409.name,aH,Tryz.func409.trans (congrArg some aD)⟩
 f21:=⟨Tryz.f410.name,aH,Tryz.func410.trans (congrArg some aD)⟩
 f22:=⟨Tryz.f411.name,aH,Tryz.func411.trans (congrArg some aD)⟩
 f23:=⟨Tryz.f412.name,aH,Tryz.func412.trans (congrArg some aD)⟩
 f24:=⟨Tryz.f413.name,aH,Tryz.func413.trans (congrArg some aD)⟩
 f25:=⟨Tryz.f414.name,aH,Tryz.func414.trans (congrArg some aD)⟩
 f26:=⟨Tryz.f415.name,aH,Tryz.func415.trans (congrArg some aD)⟩
 f27:=⟨Tryz.f416.name,aH,Tryz.func416.trans (congrArg some aD)⟩
 f28:=Tryz.func257.trans (congrArg some aD)
 f29:=Tryz.func258.trans (congrArg some aD)
 f46:=⟨Tryz.f447.name,aH,Tryz.func447.trans (congrArg some aD)⟩
 f47:=Tryz.func341.trans (congrArg some aD)
 f48:=Tryz.func342.trans (congrArg some aD)
 f49:=⟨Tryz.f448.name,aH,Tryz.func448.trans (congrArg some aD)⟩
 f50:=⟨Tryz.f449.name,aH,Tryz.func449.trans (congrArg some aD)⟩
 f57:=⟨Tryz.f476.name,aH,Tryz.func476.trans (congrArg some aD)⟩
 t0:=Tryz.underlying0
 a0:=Tryz.isAgg0
 z0:=Tryz.sizeOf0
 v0:=Tryz.zeroValue0
 t3:=Tryz.underlying3
 a3:=Tryz.isAgg3
 z3:=Tryz.sizeOf3
 v3:=Tryz.zeroValue3
 t4:=Tryz.underlying4
 a4:=Tryz.isAgg4
 z4:=Tryz.sizeOf4
 v4:=Tryz.zeroValue4
 t5:=Tryz.underlying5
 a5:=Tryz.isAgg5
 z5:=Tryz.sizeOf5
 v5:=Tryz.zeroValue5
 t9:=Tryz.underlying9
 a9:=Tryz.isAgg9
 z9:=Tryz.sizeOf9
 v9:=Tryz.zeroValue9
 t22:=Tryz.underlying40
 a22:=Tryz.isAgg40
 z22:=Tryz.sizeOf40
 v22:=Tryz.zeroValue40
 a24:=Tryz.isAgg3
 z24:=Tryz.sizeOf3
 t25:=Tryz.underlying328
 a25:=Tryz.isAgg328
 z25:=Tryz.sizeOf328
 v25:=Tryz.zeroValue328
 t39:=Tryz.underlying268
 a39:=Tryz.isAgg268
 z39:=Tryz.sizeOf268
 v39:=Tryz.zeroValue268
 t45:=Tryz.underlying305
 a45:=Tryz.isAgg305
 z45:=Tryz.sizeOf305
 v45:=Tryz.zeroValue305
 t46:=Tryz.underlying306
 a46:=Tryz.isAgg306
 z46:=Tryz.sizeOf306
 v46:=Tryz.zeroValue306
 t50:=Tryz.underlying263
 a50:=Tryz.isAgg263
 z50:=Tryz.sizeOf263
 v50:=Tryz.zeroValue263
 t53:=Tryz.underlying313
 a53:=Tryz.isAgg313
 z53:=Tryz.sizeOf313
 v53:=Tryz.zeroValue313
 t55:=Tryz.underlying315
 a55:=Tryz.isAgg315
 z55:=Tryz.sizeOf315
 v55:=Tryz.zeroValue315
 t66:=Tryz.underlying369
 a66:=Tryz.isAgg369
 z66:=Tryz.sizeOf369
 v66:=Tryz.zeroValue369
 t70:=Tryz.underlying373
 a70:=Tryz.isAgg373
 z70:=Tryz.sizeOf373
 v70:=Tryz.zeroValue373
 t76:=Tryz.underlying414
 a76:=Tryz.isAgg414
 z76:=Tryz.sizeOf414
 v76:=Tryz.zeroValue414
 t77:=Tryz.underlying392
 a77:=Tryz.isAgg392
 z77:=Tryz.sizeOf392
 v77:=Tryz.zeroValue392 }
end Go.Proofs
namespace Go.aI
open Go
theorem zT{α} : ∀(x:Ask α) (w:World),w.drawn<=(w.ask x).2.drawn
 | .done a,w=>Nat.le_refl _
 | .ask what range k,w=>by
  unfold World.ask;simp only[];split
  ·exact zT (k 0) w
  ·have:=zT (k ((Question.extern what range).cut (w.tape w.drawn (Question.extern what range)))) { w with drawn:=w.drawn+1 };simp only at this;omega
theorem Tt(w:World)(c):w.drawn<=(w.sys c).2.drawn:=by
 grind [zT,World.sys]
theorem BG{p}{w w':World}{at_ u k v a l}(h:w.viewStore p at_ u k v a= .ok (w',l)):w'.drawn=w.drawn:=by
 unfold World.viewStore at h;simp only[bind,Except.bind,pure,Except.pure,throw,throwThe,MonadExceptOf.throw] at h;repeat' first
  |(cases h;done)
  |(simp only[Except.ok.injEq,Prod.mk.injEq] at h;grind)
  |split at h
theorem Fi{p}{w w':World}{a v b l}(h:w.farStore p a v b= .ok (w',l)):w'.drawn=w.drawn:=by
 grind [World.farStore,BG]
def dOf{α:Type} :Result α->Nat
 | .ok _ w=>w.drawn
 | .halt _ w=>w.drawn
theorem yT{α}(p)(e:Sem α): ∀w,w.drawn<=dOf (e.run p w):=by
 induction e with
 |pure a=>intro w;exact Nat.le_refl _
 |load m a k ih=>
  intro w;simp only[Sem.run];split
  ·grind
  ·split
   ·grind
   ·exact Nat.le_refl _
 |store m a v k ih=>
  intro w;have fin:w.drawn<=dOf (match w.cell? a with
    | some _ => if w.frozen? a then .halt (.unsupported (.unsafePointer "a write to bytes that a string shares")) w else k.run p (w.setCell a v)
    |none=>match w.farStore p a v (m== .atomic) with
     | .ok (w,_)=>k.run p w
     | .error h=> .halt h w):=by
   split
   ·split
    ·exact Nat.le_refl _
    ·exact ih (w.setCell a v)
   ·split
    ·grind [Fi]
    ·exact Nat.le_refl _
  cases v<;>simp only[Sem.run]<;>first|exact Nat.le_refl _|exact fin
 |new o k ih=>intro w;exact ih w.heap.size { w with heap:=w.heap.push o }
 |shape r k ih=>grind [Sem.run]
 |freeze a n k ih=>
  grind [Sem.run,World.freeze]
 |frozen a k ih=>grind [Sem.run]
 |getObj r k ih=>
  intro w;unfold Sem.run;split
  ·exact Nat.le_refl _
  ·grind
  ·exact Nat.le_refl _
 |setObj r o k ih=>
  intro w;unfold Sem.run;split
  ·exact Nat.le_refl _
  ·grind
  ·exact Nat.le_refl _
 |choose q k ih=>
  grind [Sem.run]
 |sys c k ih=>
  grind [Sem.run,Tt]
 |program k ih=>grind [Sem.run]
 |mark m k ih=>grind [Sem.run]
 |halt h=>intro w;exact Nat.le_refl _
def gd(n:Nat):GStep->Prop
 | .go _ w _| .comm _ _ _ _ w _| .spawn _ _ w _| .count _ w _| .timer _ _ w _| .alone _ _ w _| .newcoro _ _ _ w _| .coroswitch _ _ _ w _| .collect _ w _| .watch _ w _=>n<=w.drawn
 | .ended .. =>True
theorem nK{n es s}(h:gd n s):gd n (GStep.after es s):=by cases s<;>exact h
theorem X9{n fr l m b w}(h:n<=w.drawn):gd n (dieOf fr l m b w):=h
theorem sH{n fr m w}(h:n<=w.drawn):gd n (endThrow fr m w):=h
theorem sI{n p fr v w}(h:n<=w.drawn):gd n (endPrinting p fr v w):=by
 unfold endPrinting;simp only[];split
 ·exact h
 ·trivial
theorem Qj{n w fd t o} :gd n (endWith w fd t o):=by
 unfold endWith;simp only[];split
 ·split<;>trivial
 ·trivial
 ·trivial
theorem fA{α p}{e:Sem α}{w r}(h:e.run p w=r){n}(hn:n<=w.drawn):n<=dOf r:=by
 grind [yT]
theorem A6{n p fr cs d m w}(h:n<=w.drawn):gd n (endFatal p fr cs d m w):=by
 unfold endFatal;simp only[];split
 ·rename_i heq;exact X9 (fA heq h)
 ·trivial
 ·trivial
theorem Qi{n p fr d f w}(h:n<=w.drawn):gd n (writeOn p fr d f w):=by
 unfold writeOn;simp only[];split
 ·trivial
 ·simp only[Sem.runT_eq];split
  ·rename_i heq;simp only[Prod.mk.injEq] at heq;exact fA heq.1 h
  ·rename_i heq;simp only[Prod.mk.injEq] at heq;exact fA heq.1 h
  ·trivial
  ·trivial
theorem adD{n p fr d w}(h:n<=w.drawn):gd n (die p fr d w):=by
 unfold die;split
 ·exact Qi h
 ·split
  ·split
   ·exact h
   ·exact Qj
  ·simp only[];split
   ·exact h
   ·split
    ·rename_i heq;exact fA heq h
    ·trivial
   ·simp only[Sem.runT_eq];refine nK ?_;split
    ·rename_i heq;exact fA heq h
    ·rename_i heq;exact fA heq h
    ·trivial
    ·rename_i heq;exact sI (fA heq h)
    ·trivial
   ·trivial
theorem oA{n p main fr cs d v w}(h:n<=w.drawn):gd n (doReturn p main fr cs d v w):=by
 unfold doReturn;repeat' first
  |exact h
  |trivial
  |split
theorem X7{n:Nat}{c:Prop}[Decidable c]{a b:GStep}(h1:gd n a)(h2:gd n b):gd n (if c then a else b):=by
 grind
theorem Cv{n p fr cs dy d w}(h:n<=w.drawn):gd n (callDeferred p fr cs dy d w):=by
 unfold callDeferred;refine X7 trivial ?_;simp only[Sem.runT_eq];refine nK ?_;have hr:n<=dOf ((invoke d.target d.args).run p w):=Nat.le_trans h (yT p _ w);generalize(invoke d.target d.args).run p w=r at*
 cases r with
 |ok a w1=>
  cases a with
  |coroswitch c ex=>cases ex<;>first|exact hr|trivial
  |alone on v=>cases on<;>first|exact hr|trivial
  |_=>
   (try simp only[])<;>(repeat' first
    |exact hr
    |trivial
    |split)
 |halt a w1=>
  cases a<;>(try simp only[])<;>(repeat' first
   |exact hr
   |trivial
   |exact A6 hr
   |exact sH hr
   |split)
theorem Us{n p main fr cs d w}(h:n<=w.drawn):gd n (unwind p main fr cs d w):=by
 unfold unwind;split
 ·simp only[Sem.runT_eq];refine nK ?_;split
  ·rename_i heq;exact fA heq h
  ·trivial
 ·exact Cv h
 ·split
  ·trivial
  ·split
   ·trivial
   ·split
    ·exact h
    ·split
     ·split
      ·exact h
      ·split
       ·rename_i heq;exact fA heq h
       ·trivial
       ·trivial
     ·split
      ·exact sI h
      ·trivial
  ·split
   ·exact oA h
   ·simp only[Sem.runT_eq];refine nK ?_;split
    ·rename_i heq;exact oA (fA heq h)
    ·trivial
    ·trivial
theorem X8{n p fr cs d g w}(h:n<=w.drawn):gd n (early p fr cs d g w):=by
 have ny: ∀w:World,n<=w.drawn->gd n (match w.heap[g]? with
  |some (.pending c elem)=> .go { frame:=fr,callers:=cs,status:= .running,dying:=d } { w with heap:=w.heap.setIfInBounds g (.cells c elem) }
  | _ => .ended (.stuck "early: the variable does not wait" (fr.pos p)) w) := by
  intro w hw;split
  ·exact hw
  ·trivial
 unfold early;simp only[];repeat' first
  |exact h
  |trivial
  |exact ny w h
  |(rename_i heq;exact ny _ (fA heq h))
  |(rename_i heq;exact fA heq h)
  |split
theorem NO{n p b fr cs dy s w}(h:n<=w.drawn):gd n (stepG.apply p b fr cs dy s w):=by
 unfold stepG.apply;have e:(if b=true then s.runT p w #[] else(s.run p w,#[]))=(s.run p w,if b=true then s.events p w #[] else #[]):=by
  split<;>simp[Sem.runT_eq]
 simp only[e];refine nK ?_;have hr:n<=dOf (s.run p w):=Nat.le_trans h (yT p _ w);generalize s.run p w=r at*
 cases r with
 |ok a w1=>
  cases a<;>(try simp only[])<;>(repeat' first
   |exact hr
   |trivial
   |exact sH hr
   |split)
 |halt a w1=>
  cases a with
  |unsupported u=>
   cases u<;>(try simp only[])<;>first|exact X8 hr|trivial
  |_=>
   first
    |exact hr
    |trivial
    |exact A6 hr
    |exact sH hr
theorem aar{n}{β:Type}{o:Option β}{a f}(h1:gd n a)(h2: ∀x,gd n (f x)):gd n (o.elim a f):=by
 cases o<;>grind
theorem aap{n p b fr cs dy w}(h:n<=w.drawn):gd n (stepG.oper p b fr cs dy w):=by
 unfold stepG.oper;split
 ·trivial
 grind [NO]
theorem aaq{n p main b fr cs dy w}(h:n<=w.drawn):gd n (stepG.exec p main b fr cs dy w):=by
 have leave: ∀jump:Option Code,gd n (match fr.roundOf with
   | none => if (jump matches none | some .ret) then GStep.go { frame := { fr with mode := .returning }, callers := cs, status := .running, dying := dy } w else GStep.ended (.stuck "exit, goto: no such block or label" (fr.pos p)) w
   |some l=>
    GStep.after (seen p fr.fn ((Instr.endRound l jump).events p w #[])) (match(Instr.endRound l jump).run p w with
    | .ok v w=>doReturn p main fr cs dy v w
    | .halt _ w => GStep.ended (.stuck "range over a function: no such loop" (fr.pos p)) w)) := by
  intro jump;split
  ·exact X7 h trivial
  ·refine nK ?_;split
   ·rename_i heq;exact oA (fA heq h)
   ·trivial
 unfold stepG.exec;simp only[Sem.runT_eq];repeat' first
  |exact h
  |trivial
  |exact leave _
  |exact aap h
  |(refine NO ?_)
  |(refine oA ?_)
  |(refine nK ?_)
  |(refine aar ?_ fun _=> ?_)
  |(rename_i heq;exact fA heq h)
  |split
theorem X6{n p main b g w}(h:n<=w.drawn):gd n (stepG p main g w b):=by
 unfold stepG;grind [adD,aaq,Us]
def sd(n:Nat):Stepped->Prop
 | .next m=>n<=m.world.drawn
 | .ended .. =>True
theorem Gf{rest cs w w'}(h:waitingAt rest cs w=some w'):w'.drawn=w.drawn:=by
 grind [waitingAt]
theorem DR{n p rest gs i g cs b sh w}(h:n<=w.drawn):sd n (communicate p rest gs i g cs b sh w).1:=by
 unfold communicate;simp only[];repeat' first
  |trivial
  |(show n<=World.drawn _;assumption)
  |(show n<=World.drawn _;rename_i heq;rw[Gf heq];grind)
  |(rename_i heq;have hle:=fA heq K5;clear heq;simp only[dOf] at hle)
  |split
theorem Ry{n p rest gs w}(h:n<=w.drawn):sd n (look p gs rest w):=by
 unfold look;simp only[];repeat' first
  |exact h
  |trivial
  |(rename_i heq;exact fA heq h)
  |split
theorem Om(w c):(drain w c).2.drawn=w.drawn:=by grind [drain]
theorem xh(m k t a b):(retime m k t a b).2.world.drawn=m.world.drawn:=by
 grind [retime,Om]
theorem AP{m m' var f v d}(hf: ∀k t,(f k t).2.world.drawn=d)(h:timerOp.named m var f= .ok (v,m')):m'.world.drawn=d:=by
 grind [timerOp.named]
theorem JJ{m m1 var}(h:timerOp.opened m var=some m1):m1.world.drawn=m.world.drawn:=by
 grind [timerOp.opened]
theorem Lm{m m' op v}(h:timerOp m op= .ok (v,m')):m'.world.drawn=m.world.drawn:=by
 unfold timerOp at h;simp only[] at h;repeat' first
  |(cases h;done)
  |(simp only[Except.ok.injEq,Prod.mk.injEq] at h;obtain⟨_,rfl⟩:=h;rfl)
  |exact AP (fun k t=>xh _ _ _ _ _) h
  |(rename_i heq;have:=AP (fun k t=>xh _ _ _ _ _) h;grind [JJ])
  |split at h
theorem ZS{n p m i b}(h:n<=m.world.drawn):sd n (runT p m i b).1:=by
 simp only[runT];generalize m.gs.swapAt! i { (default:Goroutine) with status:= .finished } =gg
 have hg:=X6 (n:=n) (p:=p) (main:=i==0) (b:=b) (g:=gg.1) h;generalize stepG p (i==0) gg.1 m.world b=s at*
 cases s with
 |comm g cs bl sh w es=>exact DR hg
 |collect g w es=>exact Ry hg
 |timer g op w es=>
  simp only[];split
  ·rename_i heq;show n<=World.drawn _;rw[Lm heq];exact hg
  ·exact hg
  ·trivial
  ·trivial
 |coroswitch g c ex w es=>
  simp only[];split
  ·exact hg
  ·exact hg
  ·trivial
 |count g w es=>
  simp only[];split
  ·trivial
  ·exact hg
 |ended o w es=>trivial
 |_=>exact hg
theorem WK{n p m k}(h:n<=m.world.drawn):sd n (serve p m k):=by
 unfold serve;simp only[];repeat' first
  |exact h
  |trivial
  |split
def md(n:Nat):Move->Prop
 | .goroutine m _=>n<=m.world.drawn
 | .machine s _=>sd n s
theorem EN{n p m}(h:n<=m.world.drawn):md n (askOn p m):=by
 unfold askOn;simp only[];repeat' first
  |trivial
  |(show n<=World.drawn _;assumption)
  |exact WK K5
  |(rename_i heq;have hle:=fA heq K5;clear heq;simp only[dOf] at hle)
  |split
theorem Xs{n p m}(h:n<=m.world.drawn):md n (ask p m):=by
 unfold ask;split
 ·split
  ·trivial
  ·rename_i w heq;have hl:=Ry (p:=p) (rest:=m.rest) (gs:=m.gs) (fA heq h);split
   ·rename_i m1 hm;rw[hm] at hl;exact EN hl
   ·rename_i e he;exact hl
  ·rename_i w1 hne heq;exact EN (fA heq h)
 ·exact EN h
theorem aad{n p m}(h:n<=m.world.drawn):md n (move p m):=by
 unfold move;split
 ·split
  ·exact h
  ·trivial
 ·split
  ·split
   ·exact h
   ·exact Xs h
  ·exact Xs h
theorem PG{p m m'}(h:step p m= .next m'):m.world.drawn<=m'.world.drawn:=by
 have hm:=aad (p:=p) (Nat.le_refl m.world.drawn);unfold step stepT at h;generalize move p m=mv at*
 cases mv with
 |goroutine m1 i=>
  have:=ZS (p:=p) (i:=i) (b:=true) hm;simp only[] at h;rw[h] at this;exact this
 |machine s ops=>
  simp only[] at h;have hm:sd _ s:=hm;rw[h] at hm;exact hm
theorem Lz{p m m'}(h:Steps p m m'):m.world.drawn<=m'.world.drawn:=by
 obtain⟨k,hk⟩:=h;induction k generalizing m with
 |zero=>grind [runN]
 |succ k ih=>
  simp only[runN] at hk;split at hk
  ·rename_i m1 h1;exact Nat.le_trans (PG h1) (ih hk)
  grind
theorem OJ{p f args w v}{Q:World->Prop}(h:Calls p f args w fun e w'=>e= .returned v/\Q w'):Calls p f args w fun e w'=>e= .returned v/\Q w'/\w.drawn<=w'.drawn:=by
 intro cs;obtain⟨e,w',fr,⟨rfl,hQ⟩,h2,h3⟩:=h cs;exact⟨_,w',fr,⟨rfl,hQ,Lz (show Steps p _ _ from h2)⟩,h2,h3⟩
end Go.aI
