/- Lemmas, no conditions. -/
import Derived.WalkKit
import Derived.Test.YthpplckmbbachaaGreatDoorKB6
import Derived.Test.YthpplckmbbachaaGreatDoorKB8
import Derived.Test.YthpplckmbbachaaGreatDoorKB9
import Derived.Sort.Row
import Derived.Sort.Grow
set_option linter.unusedVariables false
set_option linter.unusedSimpArgs false
namespace Go.bI
def kz(y:Int):Bool:=(y%4==0)&&((y%100 !=0)||(y%400==0))
def iA(y m:Int):Int:=if m=2 then(if kz y=true then 29 else 28) else if m=4\/m=6\/m=9\/m=11 then 30 else 31
def sD(y m:Int):Int:=if y<1600\/4470<y\/m<1\/12<m then 0 else iA y m
def jw(y:Int):Int:=365*(y-1600)+(y-1600+3)/4-(y-1600+99)/100+(y-1600+399)/400
def rF(y m:Int):Int:=
 let l:Int:=if kz y=true then 1 else 0
 if m<=1 then 0 else if m=2 then 31 else if m=3 then 59+l else if m=4 then 90+l else if m=5 then 120+l else if m=6 then 151+l else if m=7 then 181+l
 else if m=8 then 212+l else if m=9 then 243+l else if m=10 then 273+l else if m=11 then 304+l else if m=12 then 334+l else 365+l
theorem aag(y):kz y=(((y%4==0)&&(y%100 !=0))||(y%400==0)):=by
 grind [kz]
theorem XB(y):kz y=true↔y%4=0/\(y%100≠0\/y%400=0):=by simp[kz]
theorem OS(y):jw (y+1)=jw y+365+(if kz y=true then 1 else 0):=by
 unfold jw;grind [XB]
theorem nZ{a b}(h:a<=b):jw a<=jw b:=by
 unfold jw;omega
theorem QP{a b}(h:a<b):jw a+365<=jw b:=by
 have h1:=OS a;have h2:=nZ (a:=a+1) (b:=b) aa;all_goals grind
theorem U7{y}(h:1600<y):365*(y-1600)+(y-1600-1)/4+1-((y-1600-1)/100+1)+(y-1600-1)/400+1=jw y:=by
 unfold jw;omega
theorem pM{y m}(h1:1<=m)(h2:m<=12):rF y (m+1)=rF y m+iA y m:=by
 have:m=1\/m=2\/m=3\/m=4\/m=5\/m=6\/m=7\/m=8\/m=9\/m=10\/m=11\/m=12:=aa;unfold rF iA;rcases this with rfl|rfl|rfl|rfl|rfl|rfl|rfl|rfl|rfl|rfl|rfl|rfl<;>by_cases hl:kz y=true<;>simp[hl]
theorem xQ(y m):28<=iA y m:=by
 grind [iA]
theorem tv(y m):iA y m<=31:=by
 grind [iA]
theorem yb(y):rF y 1=0:=by simp[rF]
theorem SN(y):rF y 13=365+(if kz y=true then 1 else 0):=by simp[rF]
theorem tH(y):jw (y+1)=jw y+rF y 13:=by grind [OS,SN]
def yL(d y:Int):Nat->Int
 |0=>y
 |n+1=>if jw (y+1)<=d then yL d (y+1) n else y
def aV(d:Int):Int:=yL d 1600 3000
theorem AG(d): ∀(n:Nat) (y),jw y<=d->d<jw (y+n+1)->jw (yL d y n)<=d/\d<jw (yL d y n+1)
 |0,y,h1,h2=>⟨h1,by grind [yL]⟩
 |n+1,y,h1,h2=>by
  simp only[yL];split
  ·rename_i h;exact AG d n (y+1) h ai
  grind
theorem abk:jw 4600=1095728:=by simp[jw]
theorem je{d}(h1:0<=d)(h2:d<=1048575):jw (aV d)<=d/\d<jw (aV d+1):=by
 have h3:d<jw (1600+(3000:Nat)+1):=by
  have:=nZ (a:=4600) (b:=1600+(3000:Nat)+1) aH;grind [abk]
 exact AG d 3000 1600 (by grind [jw]) h3
theorem K7{d a b}(h1:jw a<=d)(h2:d<jw (a+1))(h3:jw b<=d)(h4:d<jw (b+1)):a=b:=by
 rcases Int.lt_trichotomy a b with h|h|h
 ·have:=nZ (a:=a+1) (b:=b) aa;omega
 ·exact h
 ·have:=nZ (a:=b+1) (b:=a) aa;omega
theorem Hi{d y}(h1:0<=d)(h2:d<=1048575)(h3:jw y<=d)(h4:d<jw (y+1)):aV d=y:=
 K7 (je h1 h2).1 (je h1 h2).2 h3 h4
theorem OU:jw 1600=0:=by simp[jw]
theorem OT:jw 4471=1048612:=by simp[jw]
theorem eT{d}(h1:0<=d)(h2:d<=1048575):1600<=aV d/\aV d<=4470:=by
 have h:=je h1 h2;constructor
 ·apply Classical.byContradiction;intro hn;have:=nZ (a:=aV d+1) (b:=1600) aa;grind [OU]
 ·apply Classical.byContradiction;intro hn;have:=nZ (a:=4471) (b:=aV d) aa;grind [OT]
def EM(y r m:Int):Nat->Int
 |0=>m
 |n+1=>if rF y (m+1)<=r then EM y r (m+1) n else m
def MU(y r:Int):Int:=EM y r 1 12
theorem EL(y r): ∀(n:Nat) (m:Int),1<=m->m+n=13->rF y m<=r->r<rF y 13->1<=EM y r m n/\EM y r m n<=12/\rF y (EM y r m n)<=r/\r<rF y (EM y r m n+1)
 |0,m,h0,h1,h2,h3=>by
  grind
 |n+1,m,h0,h1,h2,h3=>by
  simp only[EM];split
  ·rename_i h;exact EL y r n (m+1) aa aa h h3
  grind
theorem vt{y r}(h1:0<=r)(h2:r<rF y 13):1<=MU y r/\MU y r<=12/\rF y (MU y r)<=r/\r<rF y (MU y r+1):=
 EL y r 12 1 aa aa (by grind [yb]) h2
theorem yc{y a b}(h:a<=b):rF y a<=rF y b:=by
 unfold rF;by_cases hl:kz y=true<;>simp only[hl,if_true,if_false,Bool.false_eq_true]<;>(omega)<;>omega
theorem xL{y r a b}(h1:rF y a<=r)(h2:r<rF y (a+1))(h3:rF y b<=r)(h4:r<rF y (b+1)):a=b:=by
 rcases Int.lt_trichotomy a b with h|h|h
 ·have:=yc (y:=y) (a:=a+1) (b:=b) aa;omega
 ·exact h
 ·have:=yc (y:=y) (a:=b+1) (b:=a) aa;omega
def iz(d:Int):Int:=MU (aV d) (d-jw (aV d))
def nQ(d:Int):Int:=d-jw (aV d)-rF (aV d) (iz d)+1
theorem tF{d}(h1:0<=d)(h2:d<=1048575):1<=iz d/\iz d<=12/\1<=nQ d/\nQ d<=iA (aV d) (iz d)/\d=jw (aV d)+rF (aV d) (iz d)+nQ d-1:=by
 grind [je,tH,vt,pM,nQ,iz]
def MK(y m k:Int):Int:=jw y+rF y m+k-1
def l6(d n:Int):Int:=
 let y:=aV d+n
 if 4470<y then 1048575 else
  let t:=MK y (iz d) (min (nQ d) (iA y (iz d)))
  if 1048575<t then 1048575 else t
def lH(d:Int):Int:=min (jw (aV d+1)-1) 1048575
end Go.bI
namespace Go.aI
open Go.Sort
theorem grown_of{w w':World}(h1:w'.os=w.os)(h2:w'.tape=w.tape)(h3:w'.output=w.output)(hs:w.heap.size<=w'.heap.size)(hb: ∀k,k<w.heap.size->w'.heap[k]? =w.heap[k]?)(hd:w.drawn<=w'.drawn): ∃q os,w'=grow (w.drewN q) os:=by
 refine⟨w'.drawn-w.drawn,w'.heap.extract w.heap.size w'.heap.size,?_⟩;have eh:w'.heap=w.heap++w'.heap.extract w.heap.size w'.heap.size:=by
  grind
 have ed:w'.drawn=w.drawn+(w'.drawn-w.drawn):=aa;obtain⟨heap',tape',drawn',os',output'⟩:=w';grind [grow,World.drewN]
theorem ak.grows{P f args σ x vs j w}(h:ak P f args σ (.d (.v x)))(hj: ∀b:Nat,some b∉j)(hS:aQ w j σ)(hr:Rs w j args vs):
  Calls P f vs w fun e w'=>e= .returned x/\∃q os,w'=grow (w.drewN q) os:=by
 have h1:Calls P f vs w fun e w'=>e= .returned x/\∃j',Ev j w j' w':=(h.2 j w vs hS hr).mono fun e w' ⟨v,r,σ',j',X,he,g1,g2,g3,g4,g5,g6⟩=>by
  grind [iu]
 refine(OJ h1).mono ?_;rintro e w' ⟨rfl,⟨j',hE⟩,hd⟩;exact⟨rfl,grown_of hE.os hE.tape hE.output hE.size (fun k hk=>hE.keep k hk (hj k)) hd⟩
section
variable {α : Type} [Inhabited α] {enc : α -> Value}
theorem Qg{w:World}{cb:Nat}{C:Array Value}{e:TypeId}{f:Nat×Nat}(hC:w.heap[cb]? =some (.cells C e f))(m:Nat)(d:Array α)(os:Array Obj){c:Nat}(hc:c<w.heap.size):
  (grow (putRow enc (Go.Sort.ahead w m) cb 0 d) os).heap[c]? =if c=cb then some (.cells (putCells enc 0 d C) e f) else w.heap[c]? :=by
 grind [grow,putRow,mapBlock,Go.Sort.ahead,onCells]
theorem yQ{w:World}{j:Js}{σ:List aZ}(hS:aQ w j σ){b cb n:Nat}{row:Nat->List D}(hj:j[b]? =some (some cb))(hb:σ[b]? =some (.arr 1 n row))(d:Array α)(hk:d.size<=n)(m:Nat)(os:Array Obj)(row':Nat->List D)(hrow: ∀i,i<n->row' i=if i<d.size then[.v (enc d[i]!)] else row i):
  aQ (grow (putRow enc (Go.Sort.ahead w m) cb 0 d) os) j (σ.set b (.arr 1 n row'))/\Ev j w j (grow (putRow enc (Go.Sort.ahead w m) cb 0 d) os):=by
 obtain⟨o,ho,hB⟩:=hS.blk b _ hb;rw[hj] at ho;cases ho;obtain⟨C,e,⟨f,hC,tX⟩,hcs,hrel⟩:=hB;have hfz:=Or.imp_left And.left tX;have hcb:cb<w.heap.size:=hS.lt b cb hj;have hheap:=fun c hc=>Qg (enc:=enc) hC m d os (c:=c) hc;have hsz:(putCells enc 0 d C).size=C.size:=by simp[putCells]
 have hsize:w.heap.size<=(grow (putRow enc (Go.Sort.ahead w m) cb 0 d) os).heap.size:=by
  grind
 have he:Ev j w j (grow (putRow enc (Go.Sort.ahead w m) cb 0 d) os):=by
  refine⟨hsize,fun c hc hn=> ?_,fun _ _ h=>h,fun c hc=> ?_,fun a ha=> ?_,rfl,rfl,rfl,fun c r hr=> ?_⟩;all_goals grind [World.shape?,World.frozen?]
 refine⟨⟨by simp[hS.len],fun c q hc=>Nat.lt_of_lt_of_le (hS.lt c q hc) hsize,hS.inj,fun c y hy=> ?_⟩,he⟩;rw[List.getElem?_set] at hy;split at hy
 ·rename_i hbc;subst hbc;split at hy
  ·simp only[Option.some.injEq] at hy;subst hy;refine⟨some cb,hj,putCells enc 0 d C,e,⟨f,ai,ai⟩,ai,fun i hi=> ?_⟩;have hlt:i<C.size:=aa;rw[hrow i hi];by_cases hid:i<d.size
   ·simp only[hid,if_true];refine⟨rfl,fun q hq=> ?_⟩;obtain rfl:q=0:=by omega
    have e3:(putCells enc 0 d C).getD (i*1+0) Go.undef=enc d[i]! :=by
     simp_all [putCells]
    rw[e3];exact .v _
   ·simp only[hid,if_false];refine⟨(hrel i hi).1,fun q hq=> ?_⟩;obtain rfl:q=0:=by omega
    have e3:(putCells enc 0 d C).getD (i*1+0) Go.undef=C.getD (i*1+0) Go.undef:=by
     simp[putCells,Array.getD_eq_getD_getElem?,hlt,hid]
    rw[e3];exact((hrel i hi).2 0 aa).mono he
  grind
 ·rename_i hbc;obtain⟨o,ho,hB⟩:=hS.blk c y hy;refine⟨o,ho,hB.mono he hS.lt (.refl _ _) fun cb' hcb'=> ?_⟩;subst hcb';have hne:cb'≠cb:=fun h=>hbc (hS.inj _ _ _ hj (h▸ho));rw[hheap cb' (hS.lt c cb' ho),if_neg hne]
theorem HZ{w:World}{j:Js}{σ:List aZ}(hS:aQ w j σ){b cb n:Nat}{row:Nat->List D}(hj:j[b]? =some (some cb))(hb:σ[b]? =some (.arr 1 n row))(d:Array α)(hk:d.size<=n)(hr: ∀i,i<d.size->row i=[.v (enc d[i]!)]):Holds enc w cb 0 d:=by
 obtain⟨o,ho,hB⟩:=hS.blk b _ hb;rw[hj] at ho;cases ho;obtain⟨C,e,⟨f,hC,tX⟩,hcs,hrel⟩:=hB;have hfz:=Or.imp_left And.left tX;intro t ht;have hlt:t<C.size:=aa;have h0:=(hrel t aa).2 0 aa;rw[hr t ht] at h0;simp only[List.getD_cons_zero,Nat.mul_one,Nat.add_zero] at h0;have hv:C.getD t Go.undef=enc d[t]! :=by
  generalize C.getD t Go.undef=u at h0
  cases h0;rfl
 refine⟨?_,?_⟩
 ·rw[cell_of hC,Nat.zero_add,←hv];simp_all
 grind [World.frozen?]
end
end Go.aI
