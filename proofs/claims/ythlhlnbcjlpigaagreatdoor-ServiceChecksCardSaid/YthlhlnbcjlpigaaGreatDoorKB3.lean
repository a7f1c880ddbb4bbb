/- Contracts and lemmas, joined out of smaller texts by a program; no conditions. -/
import Derived.WalkKit
import Derived.Calls
import Derived.StepT
set_option linter.unusedSimpArgs false
set_option linter.unusedVariables false
namespace Go.bY
def yD(y:Int):Bool:=(y%4==0)&&((y%100 !=0)||(y%400==0))
def qy(y m:Int):Int:=if m=2 then(if yD y=true then 29 else 28) else if m=4\/m=6\/m=9\/m=11 then 30 else 31
def Gf(y m:Int):Int:=if y<1600\/4470<y\/m<1\/12<m then 0 else qy y m
def pY(y:Int):Int:=365*(y-1600)+(y-1600+3)/4-(y-1600+99)/100+(y-1600+399)/400
def DX(y m:Int):Int:=
 let l:Int:=if yD y=true then 1 else 0
 if m<=1 then 0 else if m=2 then 31 else if m=3 then 59+l else if m=4 then 90+l else if m=5 then 120+l else if m=6 then 151+l else if m=7 then 181+l
 else if m=8 then 212+l else if m=9 then 243+l else if m=10 then 273+l else if m=11 then 304+l else if m=12 then 334+l else 365+l
theorem XU(y:Int):yD y=true↔y%4=0/\(y%100≠0\/y%400=0):=by simp[yD]
theorem Zf(y:Int):pY (y+1)=pY y+365+(if yD y=true then 1 else 0):=by
 unfold pY;split
 ·rename_i h;rw[XU] at h;omega
 ·rename_i h;rw[XU] at h;have: ¬y%4=0\/(y%100=0/\¬y%400=0):=by
   by_cases h1:y%4=0
   ·right;constructor
    ·apply Classical.byContradiction;intro h2;exact h ⟨h1,.inl h2⟩
    ·intro h2;exact h ⟨h1,.inr h2⟩
   ·exact .inl h1
  omega
theorem rY{a b:Int}(h:a<=b):pY a<=pY b:=by
 unfold pY;omega
theorem beg_strict{a b:Int}(h:a<b):pY a+365<=pY b:=by
 have h1:=Zf a;have h2:=rY (a:=a+1) (b:=b) (by omega);split at h1<;>omega
theorem Pj{y m:Int}(h1:1<=m)(h2:m<=12):DX y (m+1)=DX y m+qy y m:=by
 have:m=1\/m=2\/m=3\/m=4\/m=5\/m=6\/m=7\/m=8\/m=9\/m=10\/m=11\/m=12:=by omega
 unfold DX qy;rcases this with rfl|rfl|rfl|rfl|rfl|rfl|rfl|rfl|rfl|rfl|rfl|rfl<;>by_cases hl:yD y=true<;>simp[hl]
theorem F8(y m:Int):28<=qy y m:=by
 unfold qy;split
 ·split<;>omega
 ·split<;>omega
theorem UU(y m:Int):qy y m<=31:=by
 unfold qy;split
 ·split<;>omega
 ·split<;>omega
theorem GI(y:Int):DX y 1=0:=by simp[DX]
theorem cum_end(y:Int):DX y 13=365+(if yD y=true then 1 else 0):=by simp[DX]
theorem VX(y:Int):pY (y+1)=pY y+DX y 13:=by rw[Zf,cum_end];omega
def H7(d y:Int):Nat->Int
 |0=>y
 |n+1=>if pY (y+1)<=d then H7 d (y+1) n else y
def bn(d:Int):Int:=H7 d 1600 3000
theorem Jk(d:Int): ∀(n:Nat) (y:Int),pY y<=d->d<pY (y+n+1)->pY (H7 d y n)<=d/\d<pY (H7 d y n+1)
 |0,y,h1,h2=>⟨h1,by simpa[H7] using h2⟩
 |n+1,y,h1,h2=>by
  simp only[H7];split
  ·rename_i h;exact Jk d n (y+1) h (by rw[show y+1+(n:Int)+1=y+((n+1:Nat):Int)+1 by omega];exact h2)
  ·exact⟨h1,by omega⟩
theorem beg_far:pY 4600=1095728:=by simp[pY]
theorem lX{d:Int}(h1:0<=d)(h2:d<=1048575):pY (bn d)<=d/\d<pY (bn d+1):=by
 have h3:d<pY (1600+(3000:Nat)+1):=by
  have:=rY (a:=4600) (b:=1600+(3000:Nat)+1) (by decide);rw[beg_far] at this;omega
 exact Jk d 3000 1600 (by simpa[pY] using h1) h3
theorem Wp{d a b:Int}(h1:pY a<=d)(h2:d<pY (a+1))(h3:pY b<=d)(h4:d<pY (b+1)):a=b:=by
 rcases Int.lt_trichotomy a b with h|h|h
 ·have:=rY (a:=a+1) (b:=b) (by omega);omega
 ·exact h
 ·have:=rY (a:=b+1) (b:=a) (by omega);omega
theorem yearOf_eq{d y:Int}(h1:0<=d)(h2:d<=1048575)(h3:pY y<=d)(h4:d<pY (y+1)):bn d=y:=
 Wp (lX h1 h2).1 (lX h1 h2).2 h3 h4
theorem beg_1600:pY 1600=0:=by simp[pY]
theorem Zg:pY 4471=1048612:=by simp[pY]
theorem mF{d:Int}(h1:0<=d)(h2:d<=1048575):1600<=bn d/\bn d<=4470:=by
 have h:=lX h1 h2;constructor
 ·apply Classical.byContradiction;intro hn;have:=rY (a:=bn d+1) (b:=1600) (by omega);rw[beg_1600] at this;omega
 ·apply Classical.byContradiction;intro hn;have:=rY (a:=4471) (b:=bn d) (by omega);rw[Zg] at this;omega
def Ov(y r m:Int):Nat->Int
 |0=>m
 |n+1=>if DX y (m+1)<=r then Ov y r (m+1) n else m
def XG(y r:Int):Int:=Ov y r 1 12
theorem Ou(y r:Int): ∀(n:Nat) (m:Int),1<=m->m+n=13->DX y m<=r->r<DX y 13->1<=Ov y r m n/\Ov y r m n<=12/\DX y (Ov y r m n)<=r/\r<DX y (Ov y r m n+1)
 |0,m,h0,h1,h2,h3=>by
  have:m=13:=by omega
  subst this;omega
 |n+1,m,h0,h1,h2,h3=>by
  simp only[Ov];split
  ·rename_i h;exact Ou y r n (m+1) (by omega) (by omega) h h3
  ·exact⟨h0,by omega,h2,by omega⟩
theorem Ox{y r:Int}(h1:0<=r)(h2:r<DX y 13):1<=XG y r/\XG y r<=12/\DX y (XG y r)<=r/\r<DX y (XG y r+1):=
 Ou y r 12 1 (by omega) (by omega) (by rw[GI];exact h1) h2
theorem GK{y a b:Int}(h:a<=b):DX y a<=DX y b:=by
 unfold DX;by_cases hl:yD y=true<;>simp only[hl,if_true,if_false,Bool.false_eq_true]<;>(repeat' split)<;>omega
theorem UQ{y r a b:Int}(h1:DX y a<=r)(h2:r<DX y (a+1))(h3:DX y b<=r)(h4:r<DX y (b+1)):a=b:=by
 rcases Int.lt_trichotomy a b with h|h|h
 ·have:=GK (y:=y) (a:=a+1) (b:=b) (by omega);omega
 ·exact h
 ·have:=GK (y:=y) (a:=b+1) (b:=a) (by omega);omega
def lN(d:Int):Int:=XG (bn d) (d-pY (bn d))
def Dk(d:Int):Int:=d-pY (bn d)-DX (bn d) (lN d)+1
theorem SY{d:Int}(h1:0<=d)(h2:d<=1048575):1<=lN d/\lN d<=12/\1<=Dk d/\Dk d<=qy (bn d) (lN d)/\d=pY (bn d)+DX (bn d) (lN d)+Dk d-1:=by
 have hy:=lX h1 h2;rw[VX] at hy;have hm:=Ox (y:=bn d) (r:=d-pY (bn d)) (by omega) (by omega);have hc:=Pj (y:=bn d) hm.1 hm.2.1;unfold Dk lN;omega
def ofD(y m k:Int):Int:=pY y+DX y m+k-1
def wE(d n:Int):Int:=
 let y:=bn d+n
 if 4470<y then 1048575 else
  let t:=ofD y (lN d) (min (Dk d) (qy y (lN d)))
  if 1048575<t then 1048575 else t
def yQ(d:Int):Int:=min (pY (bn d+1)-1) 1048575
end Go.bY
namespace Go.aU
open Go
theorem I8{α:Type} : ∀(x:Ask α) (w:World),w.drawn<=(w.ask x).2.drawn
 | .done a,w=>Nat.le_refl _
 | .ask what range k,w=>by
  unfold World.ask;simp only[];split
  ·exact I8 (k 0) w
  ·have:=I8 (k ((Question.extern what range).cut (w.tape w.drawn (Question.extern what range)))) { w with drawn:=w.drawn+1 };simp only at this;omega
theorem sys_drawn(w:World)(c:Sys):w.drawn<=(w.sys c).2.drawn:=by
 have h:=I8 (Kernel.perform c w.os) w;unfold World.sys;generalize w.ask (Kernel.perform c w.os)=r at*
 obtain⟨⟨a,os⟩,w'⟩:=r;cases a<;>first|exact Nat.le_refl _|exact h
theorem J9{p:Program}{w w':World}{at_:Addr}{u:TypeId}{k:Addr}{v:Value}{a:Bool}{l:List Addr}(h:w.viewStore p at_ u k v a= .ok (w',l)):w'.drawn=w.drawn:=by
 unfold World.viewStore at h;simp only[bind,Except.bind,pure,Except.pure,throw,throwThe,MonadExceptOf.throw] at h;repeat' first
  |(cases h;done)
  |(simp only[Except.ok.injEq,Prod.mk.injEq] at h;obtain⟨rfl,_⟩:=h;rfl)
  |split at h
theorem O4{p:Program}{w w':World}{a:Addr}{v:Value}{b:Bool}{l:List Addr}(h:w.farStore p a v b= .ok (w',l)):w'.drawn=w.drawn:=by
 unfold World.farStore at h;split at h
 ·split at h
  ·rename_i r hr;simp only[Except.ok.injEq] at h;subst h;exact J9 hr
  ·cases h
 ·cases h
def dOf{α:Type} :Result α->Nat
 | .ok _ w=>w.drawn
 | .halt _ w=>w.drawn
theorem Ie{α:Type}(p:Program)(e:Sem α): ∀w:World,w.drawn<=dOf (e.run p w):=by
 induction e with
 |pure a=>intro w;exact Nat.le_refl _
 |load m a k ih=>
  intro w;simp only[Sem.run];split
  ·exact ih _ w
  ·split
   ·exact ih _ w
   ·exact Nat.le_refl _
 |store m a v k ih=>
  intro w;have fin:w.drawn<=dOf (match w.cell? a with
    | some _ => if w.frozen? a then .halt (.unsupported (.unsafePointer "a write to bytes that a string shares")) w else k.run p (w.setCell a v)
    |none=>match w.farStore p a v (m== .atomic) with
     | .ok (w,_)=>k.run p w
     | .error h=> .halt h w):=by
   split
   ·split
    ·exact Nat.le_refl _
    ·exact ih (w.setCell a v)
   ·split
    ·rename_i w1 l1 hf;rw[←O4 hf];exact ih w1
    ·exact Nat.le_refl _
  cases v<;>simp only[Sem.run]<;>first|exact Nat.le_refl _|exact fin
 |new o k ih=>intro w;exact ih w.heap.size { w with heap:=w.heap.push o }
 |shape r k ih=>intro w;unfold Sem.run;exact ih _ _
 |freeze a n k ih=>
  intro w;unfold Sem.run;have:=ih (w.freeze a n);have e1:(w.freeze a n).drawn=w.drawn:=by unfold World.freeze;split<;>rfl
  omega
 |frozen a k ih=>intro w;unfold Sem.run;exact ih _ _
 |getObj r k ih=>
  intro w;unfold Sem.run;split
  ·exact Nat.le_refl _
  ·exact ih _ _
  ·exact Nat.le_refl _
 |setObj r o k ih=>
  intro w;unfold Sem.run;split
  ·exact Nat.le_refl _
  ·exact ih { w with heap:=w.heap.setIfInBounds r o }
  ·exact Nat.le_refl _
 |choose q k ih=>
  intro w;unfold Sem.run;split
  ·exact ih _ _
  ·have:=ih (q.cut (w.tape w.drawn q)) { w with drawn:=w.drawn+1 };simp only at this;omega
 |sys c k ih=>
  intro w;unfold Sem.run;exact Nat.le_trans (sys_drawn w c) (ih _ _)
 |program k ih=>intro w;unfold Sem.run;exact ih _ _
 |mark m k ih=>intro w;unfold Sem.run;exact ih _
 |halt h=>intro w;exact Nat.le_refl _
def gd(n:Nat):GStep->Prop
 | .go _ w _| .comm _ _ _ _ w _| .spawn _ _ w _| .count _ w _| .timer _ _ w _| .alone _ _ w _| .newcoro _ _ _ w _| .coroswitch _ _ _ w _| .collect _ w _| .watch _ w _=>n<=w.drawn
 | .ended .. =>True
theorem rO{n:Nat}{es:Array Event}{s:GStep}(h:gd n s):gd n (GStep.after es s):=by cases s<;>exact h
theorem gd_dieOf{n:Nat}{fr:Frame}{l:List ByteArray}{m:String}{b:Bool}{w:World}(h:n<=w.drawn):gd n (dieOf fr l m b w):=h
theorem zS{n:Nat}{fr:Frame}{m:String}{w:World}(h:n<=w.drawn):gd n (endThrow fr m w):=h
theorem zT{n:Nat}{p:Program}{fr:Frame}{v:Value}{w:World}(h:n<=w.drawn):gd n (endPrinting p fr v w):=by
 unfold endPrinting;simp only[];split
 ·exact h
 ·trivial
theorem gd_endWith{n:Nat}{w:World}{fd:Nat}{t:ByteArray}{o:Outcome} :gd n (endWith w fd t o):=by
 unfold endWith;simp only[];split
 ·split<;>trivial
 ·trivial
 ·trivial
theorem jv{α:Type}{p:Program}{e:Sem α}{w:World}{r:Result α}(h:e.run p w=r){n:Nat}(hn:n<=w.drawn):n<=dOf r:=by
 subst h;exact Nat.le_trans hn (Ie p e w)
theorem JL{n:Nat}{p:Program}{fr:Frame}{cs:List Frame}{d:Option Dying}{m:String}{w:World}(h:n<=w.drawn):gd n (endFatal p fr cs d m w):=by
 unfold endFatal;simp only[];split
 ·rename_i heq;exact gd_dieOf (jv heq h)
 ·trivial
 ·trivial
theorem gd_writeOn{n:Nat}{p:Program}{fr:Frame}{d:Dying}{f:Fatal}{w:World}(h:n<=w.drawn):gd n (writeOn p fr d f w):=by
 unfold writeOn;simp only[];split
 ·trivial
 ·simp only[Sem.runT_eq];split
  ·rename_i heq;simp only[Prod.mk.injEq] at heq;exact jv heq.1 h
  ·rename_i heq;simp only[Prod.mk.injEq] at heq;exact jv heq.1 h
  ·trivial
  ·trivial
theorem gd_die{n:Nat}{p:Program}{fr:Frame}{d:Dying}{w:World}(h:n<=w.drawn):gd n (die p fr d w):=by
 unfold die;split
 ·exact gd_writeOn h
 ·split
  ·split
   ·exact h
   ·exact gd_endWith
  ·simp only[];split
   ·exact h
   ·split
    ·rename_i heq;exact jv heq h
    ·trivial
   ·simp only[Sem.runT_eq];refine rO ?_;split
    ·rename_i heq;exact jv heq h
    ·rename_i heq;exact jv heq h
    ·trivial
    ·rename_i heq;exact zT (jv heq h)
    ·trivial
   ·trivial
theorem tN{n:Nat}{p:Program}{main:Bool}{fr:Frame}{cs:List Frame}{d:Option Dying}{v:Value}{w:World}(h:n<=w.drawn):gd n (doReturn p main fr cs d v w):=by
 unfold doReturn;repeat' first
  |exact h
  |trivial
  |split
theorem gd_ite{n:Nat}{c:Prop}[Decidable c]{a b:GStep}(h1:gd n a)(h2:gd n b):gd n (if c then a else b):=by
 by_cases h:c
 ·rw[if_pos h];exact h1
 ·rw[if_neg h];exact h2
theorem KP{n:Nat}{p:Program}{fr:Frame}{cs:List Frame}{dy:Option Dying}{d:Deferred}{w:World}(h:n<=w.drawn):gd n (callDeferred p fr cs dy d w):=by
 unfold callDeferred;refine gd_ite trivial ?_;simp only[Sem.runT_eq];refine rO ?_;have hr:n<=dOf ((invoke d.target d.args).run p w):=Nat.le_trans h (Ie p _ w);generalize(invoke d.target d.args).run p w=r at*
 cases r with
 |ok a w1=>
  cases a with
  |coroswitch c ex=>cases ex<;>first|exact hr|trivial
  |alone on v=>cases on<;>first|exact hr|trivial
  |_=>
   (try simp only[])<;>(repeat' first
    |exact hr
    |trivial
    |split)
 |halt a w1=>
  cases a<;>(try simp only[])<;>(repeat' first
   |exact hr
   |trivial
   |exact JL hr
   |exact zS hr
   |split)
theorem gd_unwind{n:Nat}{p:Program}{main:Bool}{fr:Frame}{cs:List Frame}{d:Option Dying}{w:World}(h:n<=w.drawn):gd n (unwind p main fr cs d w):=by
 unfold unwind;split
 ·simp only[Sem.runT_eq];refine rO ?_;split
  ·rename_i heq;exact jv heq h
  ·trivial
 ·exact KP h
 ·split
  ·trivial
  ·split
   ·trivial
   ·split
    ·exact h
    ·split
     ·split
      ·exact h
      ·split
       ·rename_i heq;exact jv heq h
       ·trivial
       ·trivial
     ·split
      ·exact zT h
      ·trivial
  ·split
   ·exact tN h
   ·simp only[Sem.runT_eq];refine rO ?_;split
    ·rename_i heq;exact tN (jv heq h)
    ·trivial
    ·trivial
theorem gd_early{n:Nat}{p:Program}{fr:Frame}{cs:List Frame}{d:Option Dying}{g:Nat}{w:World}(h:n<=w.drawn):gd n (early p fr cs d g w):=by
 have ny: ∀w:World,n<=w.drawn->gd n (match w.heap[g]? with
  |some (.pending c elem)=> .go { frame:=fr,callers:=cs,status:= .running,dying:=d } { w with heap:=w.heap.setIfInBounds g (.cells c elem) }
  | _ => .ended (.stuck "early: the variable does not wait" (fr.pos p)) w) := by
  intro w hw;split
  ·exact hw
  ·trivial
 unfold early;simp only[];repeat' first
  |exact h
  |trivial
  |exact ny w h
  |(rename_i heq;exact ny _ (jv heq h))
  |(rename_i heq;exact jv heq h)
  |split
theorem Yh{n:Nat}{p:Program}{b:Bool}{fr:Frame}{cs:List Frame}{dy:Option Dying}{s:Sem Next}{w:World}(h:n<=w.drawn):gd n (stepG.apply p b fr cs dy s w):=by
 unfold stepG.apply;have e:(if b=true then s.runT p w #[] else(s.run p w,#[]))=(s.run p w,if b=true then s.events p w #[] else #[]):=by
  split<;>simp[Sem.runT_eq]
 simp only[e];refine rO ?_;have hr:n<=dOf (s.run p w):=Nat.le_trans h (Ie p _ w);generalize s.run p w=r at*
 cases r with
 |ok a w1=>
  cases a<;>(try simp only[])<;>(repeat' first
   |exact hr
   |trivial
   |exact zS hr
   |split)
 |halt a w1=>
  cases a with
  |unsupported u=>
   cases u<;>(try simp only[])<;>first|exact gd_early hr|trivial
  |_=>
   first
    |exact hr
    |trivial
    |exact JL hr
    |exact zS hr
theorem gd_elim{n:Nat}{β:Type}{o:Option β}{a:GStep}{f:β->GStep}(h1:gd n a)(h2: ∀x,gd n (f x)):gd n (o.elim a f):=by
 cases o with
 |none=>exact h1
 |some x=>exact h2 x
theorem gd_oper{n:Nat}{p:Program}{b:Bool}{fr:Frame}{cs:List Frame}{dy:Option Dying}{w:World}(h:n<=w.drawn):gd n (stepG.oper p b fr cs dy w):=by
 unfold stepG.oper;split
 ·trivial
 ·split<;>exact Yh h
theorem gd_exec{n:Nat}{p:Program}{main b:Bool}{fr:Frame}{cs:List Frame}{dy:Option Dying}{w:World}(h:n<=w.drawn):gd n (stepG.exec p main b fr cs dy w):=by
 have leave: ∀jump:Option Code,gd n (match fr.roundOf with
   | none => if (jump matches none | some .ret) then GStep.go { frame := { fr with mode := .returning }, callers := cs, status := .running, dying := dy } w else GStep.ended (.stuck "exit, goto: no such block or label" (fr.pos p)) w
   |some l=>
    GStep.after (seen p fr.fn ((Instr.endRound l jump).events p w #[])) (match(Instr.endRound l jump).run p w with
    | .ok v w=>doReturn p main fr cs dy v w
    | .halt _ w => GStep.ended (.stuck "range over a function: no such loop" (fr.pos p)) w)) := by
  intro jump;split
  ·exact gd_ite h trivial
  ·refine rO ?_;split
   ·rename_i heq;exact tN (jv heq h)
   ·trivial
 unfold stepG.exec;simp only[Sem.runT_eq];repeat' first
  |exact h
  |trivial
  |exact leave _
  |exact gd_oper h
  |(refine Yh ?_)
  |(refine tN ?_)
  |(refine rO ?_)
  |(refine gd_elim ?_ fun _=> ?_)
  |(rename_i heq;exact jv heq h)
  |split
theorem gd_stepG{n:Nat}{p:Program}{main b:Bool}{g:Goroutine}{w:World}(h:n<=w.drawn):gd n (stepG p main g w b):=by
 unfold stepG;simp only[];split
 ·exact gd_die h
 ·exact gd_exec h
 ·exact gd_unwind h
def sd(n:Nat):Stepped->Prop
 | .next m=>n<=m.world.drawn
 | .ended .. =>True
theorem Qe{rest:Go.Rest}{cs:Array CommCase}{w w':World}(h:waitingAt rest cs w=some w'):w'.drawn=w.drawn:=by
 unfold waitingAt at h;split at h
 ·split at h
  ·simp only[Option.some.injEq] at h;subst h;rfl
  ·cases h
 ·simp only[Option.some.injEq] at h;subst h;rfl
theorem MV{n:Nat}{p:Program}{rest:Go.Rest}{gs:Array Goroutine}{i:Nat}{g:Goroutine}{cs:Array CommCase}{b:Bool}{sh:CommShape}{w:World}(h:n<=w.drawn):sd n (communicate p rest gs i g cs b sh w).1:=by
 unfold communicate;simp only[];repeat' first
  |trivial
  |(show n<=World.drawn _;assumption)
  |(show n<=World.drawn _;rename_i heq;rw[Qe heq];assumption)
  |(rename_i heq;have hle:=jv heq (by assumption);clear heq;simp only[dOf] at hle)
  |split
theorem sd_look{n:Nat}{p:Program}{rest:Go.Rest}{gs:Array Goroutine}{w:World}(h:n<=w.drawn):sd n (look p gs rest w):=by
 unfold look;simp only[];repeat' first
  |exact h
  |trivial
  |(rename_i heq;exact jv heq h)
  |split
theorem YM(w:World)(c:Nat):(drain w c).2.drawn=w.drawn:=by unfold drain;split<;>rfl
theorem Fg(m:Machine)(k:Nat)(t:Timer)(a b:Nat):(retime m k t a b).2.world.drawn=m.world.drawn:=by
 unfold retime;cases t.chan with
 |none=>rfl
 |some c=>simp only[];exact YM m.world c
theorem Jz{m m':Machine}{var:Addr}{f:Nat->Timer->Value×Machine}{v:Value}{d:Nat}(hf: ∀k t,(f k t).2.world.drawn=d)(h:timerOp.named m var f= .ok (v,m')):m'.world.drawn=d:=by
 unfold timerOp.named at h;split at h
 ·rename_i k hk;simp only[Except.ok.injEq] at h;have:=hf k (m.rest.timers.getD k default);rw[h] at this;exact this
 ·cases h
theorem UJ{m m1:Machine}{var:Addr}(h:timerOp.opened m var=some m1):m1.world.drawn=m.world.drawn:=by
 unfold timerOp.opened at h;split at h
 ·split at h
  ·simp only[Option.some.injEq] at h;subst h;rfl
  ·cases h
 ·simp only[Option.some.injEq] at h;subst h;rfl
theorem WE{m m':Machine}{op:TimerOp}{v:Value}(h:timerOp m op= .ok (v,m')):m'.world.drawn=m.world.drawn:=by
 unfold timerOp at h;simp only[] at h;repeat' first
  |(cases h;done)
  |(simp only[Except.ok.injEq,Prod.mk.injEq] at h;obtain⟨_,rfl⟩:=h;rfl)
  |exact Jz (fun k t=>Fg _ _ _ _ _) h
  |(rename_i heq;have:=Jz (fun k t=>Fg _ _ _ _ _) h;rw[UJ heq] at this;exact this)
  |split at h
theorem sd_runT{n:Nat}{p:Program}{m:Machine}{i:Nat}{b:Bool}(h:n<=m.world.drawn):sd n (runT p m i b).1:=by
 simp only[runT];generalize m.gs.swapAt! i { (default:Goroutine) with status:= .finished } =gg
 have hg:=gd_stepG (n:=n) (p:=p) (main:=i==0) (b:=b) (g:=gg.1) h;generalize stepG p (i==0) gg.1 m.world b=s at*
 cases s with
 |comm g cs bl sh w es=>exact MV hg
 |collect g w es=>exact sd_look hg
 |timer g op w es=>
  simp only[];split
  ·rename_i heq;show n<=World.drawn _;rw[WE heq];exact hg
  ·exact hg
  ·trivial
  ·trivial
 |coroswitch g c ex w es=>
  simp only[];split
  ·exact hg
  ·exact hg
  ·trivial
 |count g w es=>
  simp only[];split
  ·trivial
  ·exact hg
 |ended o w es=>trivial
 |_=>exact hg
theorem sd_serve{n:Nat}{p:Program}{m:Machine}{k:Nat}(h:n<=m.world.drawn):sd n (serve p m k):=by
 unfold serve;simp only[];repeat' first
  |exact h
  |trivial
  |split
def md(n:Nat):Move->Prop
 | .goroutine m _=>n<=m.world.drawn
 | .machine s _=>sd n s
theorem Oz{n:Nat}{p:Program}{m:Machine}(h:n<=m.world.drawn):md n (askOn p m):=by
 unfold askOn;simp only[];repeat' first
  |trivial
  |(show n<=World.drawn _;assumption)
  |exact sd_serve (by assumption)
  |(rename_i heq;have hle:=jv heq (by assumption);clear heq;simp only[dOf] at hle)
  |split
theorem md_ask{n:Nat}{p:Program}{m:Machine}(h:n<=m.world.drawn):md n (ask p m):=by
 unfold ask;split
 ·split
  ·trivial
  ·rename_i w heq;have hl:=sd_look (p:=p) (rest:=m.rest) (gs:=m.gs) (jv heq h);split
   ·rename_i m1 hm;rw[hm] at hl;exact Oz hl
   ·rename_i e he;exact hl
  ·rename_i w1 hne heq;exact Oz (jv heq h)
 ·exact Oz h
theorem md_move{n:Nat}{p:Program}{m:Machine}(h:n<=m.world.drawn):md n (move p m):=by
 unfold move;split
 ·split
  ·exact h
  ·trivial
 ·split
  ·split
   ·exact h
   ·exact md_ask h
  ·exact md_ask h
theorem ZY{p:Program}{m m':Machine}(h:step p m= .next m'):m.world.drawn<=m'.world.drawn:=by
 have hm:=md_move (p:=p) (Nat.le_refl m.world.drawn);unfold step stepT at h;generalize move p m=mv at*
 cases mv with
 |goroutine m1 i=>
  have:=sd_runT (p:=p) (i:=i) (b:=true) hm;simp only[] at h;rw[h] at this;exact this
 |machine s ops=>
  simp only[] at h;have hm:sd _ s:=hm;rw[h] at hm;exact hm
theorem WU{p:Program}{m m':Machine}(h:Steps p m m'):m.world.drawn<=m'.world.drawn:=by
 obtain⟨k,hk⟩:=h;induction k generalizing m with
 |zero=>simp only[runN,Stepped.next.injEq] at hk;subst hk;exact Nat.le_refl _
 |succ k ih=>
  simp only[runN] at hk;split at hk
  ·rename_i m1 h1;exact Nat.le_trans (ZY h1) (ih hk)
  ·rename_i h1;exact absurd hk (h1 m')
theorem Y5{p:Program}{f:FuncId}{args:Array Value}{w:World}{v:Value}{Q:World->Prop}(h:Calls p f args w fun e w'=>e= .returned v/\Q w'):Calls p f args w fun e w'=>e= .returned v/\Q w'/\w.drawn<=w'.drawn:=by
 intro cs;obtain⟨e,w',fr,⟨rfl,hQ⟩,h2,h3⟩:=h cs;exact⟨_,w',fr,⟨rfl,hQ,WU (show Steps p _ _ from h2)⟩,h2,h3⟩
end Go.aU
