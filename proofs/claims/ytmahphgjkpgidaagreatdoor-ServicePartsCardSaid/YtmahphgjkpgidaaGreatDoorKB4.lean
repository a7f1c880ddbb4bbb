/- Contracts and lemmas, joined out of smaller texts by a program; no conditions. -/
import Derived.WalkKit
import Derived.Shelf.SlGeneric
import Derived.Shelf.SlLaysF
import Derived.Shelf.SlSortCmp.WholeK
import Derived.Ground.SlsfProg
import Derived.Test.YtmahphgjkpgidaaGreatDoorProg
set_option linter.unusedVariables false
set_option linter.unusedSimpArgs false
namespace Go.dh
def Ai(y:Int):Bool:=(y%4==0)&&((y%100 !=0)||(y%400==0))
def tJ(y m:Int):Int:=if m=2 then(if Ai y=true then 29 else 28) else if m=4\/m=6\/m=9\/m=11 then 30 else 31
def IL(y m:Int):Int:=if y<1600\/4470<y\/m<1\/12<m then 0 else tJ y m
def sK(y:Int):Int:=365*(y-1600)+(y-1600+3)/4-(y-1600+99)/100+(y-1600+399)/400
def Fq(y m:Int):Int:=
 let l:Int:=if Ai y=true then 1 else 0
 if m<=1 then 0 else if m=2 then 31 else if m=3 then 59+l else if m=4 then 90+l else if m=5 then 120+l else if m=6 then 151+l else if m=7 then 181+l
 else if m=8 then 212+l else if m=9 then 243+l else if m=10 then 273+l else if m=11 then 304+l else if m=12 then 334+l else 365+l
theorem ZI(y:Int):Ai y=true↔y%4=0/\(y%100≠0\/y%400=0):=by simp[Ai]
theorem beg_succ(y:Int):sK (y+1)=sK y+365+(if Ai y=true then 1 else 0):=by
 unfold sK;split
 ·rename_i h;rw[ZI] at h;omega
 ·rename_i h;rw[ZI] at h;have: ¬y%4=0\/(y%100=0/\¬y%400=0):=by
   by_cases h1:y%4=0
   ·right;constructor
    ·apply Classical.byContradiction;intro h2;exact h ⟨h1,.inl h2⟩
    ·intro h2;exact h ⟨h1,.inr h2⟩
   ·exact .inl h1
  omega
theorem vF{a b:Int}(h:a<=b):sK a<=sK b:=by
 unfold sK;omega
theorem beg_strict{a b:Int}(h:a<b):sK a+365<=sK b:=by
 have h1:=beg_succ a;have h2:=vF (a:=a+1) (b:=b) (by omega);split at h1<;>omega
theorem Sz{y m:Int}(h1:1<=m)(h2:m<=12):Fq y (m+1)=Fq y m+tJ y m:=by
 have:m=1\/m=2\/m=3\/m=4\/m=5\/m=6\/m=7\/m=8\/m=9\/m=10\/m=11\/m=12:=by omega
 unfold Fq tJ;rcases this with rfl|rfl|rfl|rfl|rfl|rfl|rfl|rfl|rfl|rfl|rfl|rfl<;>by_cases hl:Ai y=true<;>simp[hl]
theorem IJ(y m:Int):28<=tJ y m:=by
 unfold tJ;split
 ·split<;>omega
 ·split<;>omega
theorem Xd(y m:Int):tJ y m<=31:=by
 unfold tJ;split
 ·split<;>omega
 ·split<;>omega
theorem Jt(y:Int):Fq y 1=0:=by simp[Fq]
theorem cum_end(y:Int):Fq y 13=365+(if Ai y=true then 1 else 0):=by simp[Fq]
theorem X5(y:Int):sK (y+1)=sK y+Fq y 13:=by rw[beg_succ,cum_end];omega
def Kr(d y:Int):Nat->Int
 |0=>y
 |n+1=>if sK (y+1)<=d then Kr d (y+1) n else y
def bn(d:Int):Int:=Kr d 1600 3000
theorem LX(d:Int): ∀(n:Nat) (y:Int),sK y<=d->d<sK (y+n+1)->sK (Kr d y n)<=d/\d<sK (Kr d y n+1)
 |0,y,h1,h2=>⟨h1,by simpa[Kr] using h2⟩
 |n+1,y,h1,h2=>by
  simp only[Kr];split
  ·rename_i h;exact LX d n (y+1) h (by rw[show y+1+(n:Int)+1=y+((n+1:Nat):Int)+1 by omega];exact h2)
  ·exact⟨h1,by omega⟩
theorem beg_far:sK 4600=1095728:=by simp[sK]
theorem nN{d:Int}(h1:0<=d)(h2:d<=1048575):sK (bn d)<=d/\d<sK (bn d+1):=by
 have h3:d<sK (1600+(3000:Nat)+1):=by
  have:=vF (a:=4600) (b:=1600+(3000:Nat)+1) (by decide);rw[beg_far] at this;omega
 exact LX d 3000 1600 (by simpa[sK] using h1) h3
theorem Yl{d a b:Int}(h1:sK a<=d)(h2:d<sK (a+1))(h3:sK b<=d)(h4:d<sK (b+1)):a=b:=by
 rcases Int.lt_trichotomy a b with h|h|h
 ·have:=vF (a:=a+1) (b:=b) (by omega);omega
 ·exact h
 ·have:=vF (a:=b+1) (b:=a) (by omega);omega
theorem yearOf_eq{d y:Int}(h1:0<=d)(h2:d<=1048575)(h3:sK y<=d)(h4:d<sK (y+1)):bn d=y:=
 Yl (nN h1 h2).1 (nN h1 h2).2 h3 h4
theorem beg_1600:sK 1600=0:=by simp[sK]
theorem beg_4471:sK 4471=1048612:=by simp[sK]
theorem oG{d:Int}(h1:0<=d)(h2:d<=1048575):1600<=bn d/\bn d<=4470:=by
 have h:=nN h1 h2;constructor
 ·apply Classical.byContradiction;intro hn;have:=vF (a:=bn d+1) (b:=1600) (by omega);rw[beg_1600] at this;omega
 ·apply Classical.byContradiction;intro hn;have:=vF (a:=4471) (b:=bn d) (by omega);rw[beg_4471] at this;omega
def Rf(y r m:Int):Nat->Int
 |0=>m
 |n+1=>if Fq y (m+1)<=r then Rf y r (m+1) n else m
def Zw(y r:Int):Int:=Rf y r 1 12
theorem Q9(y r:Int): ∀(n:Nat) (m:Int),1<=m->m+n=13->Fq y m<=r->r<Fq y 13->1<=Rf y r m n/\Rf y r m n<=12/\Fq y (Rf y r m n)<=r/\r<Fq y (Rf y r m n+1)
 |0,m,h0,h1,h2,h3=>by
  have:m=13:=by omega
  subst this;omega
 |n+1,m,h0,h1,h2,h3=>by
  simp only[Rf];split
  ·rename_i h;exact Q9 y r n (m+1) (by omega) (by omega) h h3
  ·exact⟨h0,by omega,h2,by omega⟩
theorem Rh{y r:Int}(h1:0<=r)(h2:r<Fq y 13):1<=Zw y r/\Zw y r<=12/\Fq y (Zw y r)<=r/\r<Fq y (Zw y r+1):=
 Q9 y r 12 1 (by omega) (by omega) (by rw[Jt];exact h1) h2
theorem Ju{y a b:Int}(h:a<=b):Fq y a<=Fq y b:=by
 unfold Fq;by_cases hl:Ai y=true<;>simp only[hl,if_true,if_false,Bool.false_eq_true]<;>(repeat' split)<;>omega
theorem Xb{y r a b:Int}(h1:Fq y a<=r)(h2:r<Fq y (a+1))(h3:Fq y b<=r)(h4:r<Fq y (b+1)):a=b:=by
 rcases Int.lt_trichotomy a b with h|h|h
 ·have:=Ju (y:=y) (a:=a+1) (b:=b) (by omega);omega
 ·exact h
 ·have:=Ju (y:=y) (a:=b+1) (b:=a) (by omega);omega
def nH(d:Int):Int:=Zw (bn d) (d-sK (bn d))
def EM(d:Int):Int:=d-sK (bn d)-Fq (bn d) (nH d)+1
theorem Vx{d:Int}(h1:0<=d)(h2:d<=1048575):1<=nH d/\nH d<=12/\1<=EM d/\EM d<=tJ (bn d) (nH d)/\d=sK (bn d)+Fq (bn d) (nH d)+EM d-1:=by
 have hy:=nN h1 h2;rw[X5] at hy;have hm:=Rh (y:=bn d) (r:=d-sK (bn d)) (by omega) (by omega);have hc:=Sz (y:=bn d) hm.1 hm.2.1;unfold EM nH;omega
def ofD(y m k:Int):Int:=sK y+Fq y m+k-1
def yD(d n:Int):Int:=
 let y:=bn d+n
 if 4470<y then 1048575 else
  let t:=ofD y (nH d) (min (EM d) (tJ y (nH d)))
  if 1048575<t then 1048575 else t
def AZ(d:Int):Int:=min (sK (bn d+1)-1) 1048575
end Go.dh
namespace Go.Proofs
open Go.Shelf
def Tryz.Hq:Go.Shelf.Ren:=⟨fun|6=>378|15=>123|14=>405|28=>182|29=>183|20=>424|21=>425|22=>426|23=>427|24=>428|25=>429|26=>430|27=>431|46=>440|47=>276|48=>277|49=>441|50=>442|57=>443|n=>n,fun|22=>23|24=>165|25=>445|3=>3|39=>222|0=>0|53=>259|55=>261|4=>4|46=>252|45=>251|50=>198|5=>5|9=>9|66=>354|70=>358|76=>409|77=>394|n=>n,fun|n=>n⟩
theorem Tryz.sortRule:Go.Proofs.SlLaysF0.n6 Tryz.prog Tryz.Hq:= {
 mixed:=by kernel_rfl
 f6:=⟨Tryz.f378.name,by decide,Tryz.func378.trans (congrArg some (by kernel_rfl))⟩
 f14:=⟨Tryz.f405.name,by decide,Tryz.func405.trans (congrArg some (by kernel_rfl))⟩
 f15:=Tryz.func123.trans (congrArg some (by kernel_rfl))
 f20:=⟨Tryz.f424.name,by decide,Tryz.func424.trans (congrArg some (by kernel_rfl))⟩
 f21:=⟨Tryz.f425.name,by decide,Tryz.func425.trans (congrArg some (by kernel_rfl))⟩
 f22:=⟨Tryz.f426.name,by decide,Tryz.func426.trans (congrArg some (by kernel_rfl))⟩
 f23:=⟨Tryz.f427.name,by decide,Tryz.func427.trans (congrArg some (by kernel_rfl))⟩
 f24:=⟨Tryz.f428.name,by decide,Tryz.func428.trans (congrArg some (by kernel_rfl))⟩
 f25:=⟨Tryz.f429.name,by decide,Tryz.func429.trans (congrArg some (by kernel_rfl))⟩
 f26:=⟨Tryz.f430.name,by decide,Tryz.func430.trans (congrArg some (by kernel_rfl))⟩
 f27:=⟨Tryz.f431.name,by decide,Tryz.func431.trans (congrArg some (by kernel_rfl))⟩
 f28:=Tryz.func182.trans (congrArg some (by kernel_rfl))
 f29:=Tryz.func183.trans (congrArg some (by kernel_rfl))
 f46:=⟨Tryz.f440.name,by decide,Tryz.func440.trans (congrArg some (by kernel_rfl))⟩
 f47:=Tryz.func276.trans (congrArg some (by kernel_rfl))
 f48:=Tryz.func277.trans (congrArg some (by kernel_rfl))
 f49:=⟨Tryz.f441.name,by decide,Tryz.func441.trans (congrArg some (by kernel_rfl))⟩
 f50:=⟨Tryz.f442.name,by decide,Tryz.func442.trans (congrArg some (by kernel_rfl))⟩
 f57:=⟨Tryz.f443.name,by decide,Tryz.func443.trans (congrArg some (by kernel_rfl))⟩
 t0:=Tryz.underlying0
 a0:=Tryz.isAgg0
 z0:=Tryz.sizeOf0
 v0:=Tryz.zeroValue0
 t3:=Tryz.underlying3
 a3:=Tryz.isAgg3
 z3:=Tryz.sizeOf3
 v3:=Tryz.zeroValue3
 t4:=Tryz.underlying4
 a4:=Tryz.isAgg4
 z4:=Tryz.sizeOf4
 v4:=Tryz.zeroValue4
 t5:=Tryz.underlying5
 a5:=Tryz.isAgg5
 z5:=Tryz.sizeOf5
 v5:=Tryz.zeroValue5
 t9:=Tryz.underlying9
 a9:=Tryz.isAgg9
 z9:=Tryz.sizeOf9
 v9:=Tryz.zeroValue9
 t22:=Tryz.underlying23
 a22:=Tryz.isAgg23
 z22:=Tryz.sizeOf23
 v22:=Tryz.zeroValue23
 t25:=Tryz.underlying445
 a25:=Tryz.isAgg445
 z25:=Tryz.sizeOf445
 v25:=Tryz.zeroValue445
 t39:=Tryz.underlying222
 a39:=Tryz.isAgg222
 z39:=Tryz.sizeOf222
 v39:=Tryz.zeroValue222
 t45:=Tryz.underlying251
 a45:=Tryz.isAgg251
 z45:=Tryz.sizeOf251
 v45:=Tryz.zeroValue251
 t46:=Tryz.underlying252
 a46:=Tryz.isAgg252
 z46:=Tryz.sizeOf252
 v46:=Tryz.zeroValue252
 t50:=Tryz.underlying198
 a50:=Tryz.isAgg198
 z50:=Tryz.sizeOf198
 v50:=Tryz.zeroValue198
 t53:=Tryz.underlying259
 a53:=Tryz.isAgg259
 z53:=Tryz.sizeOf259
 v53:=Tryz.zeroValue259
 t55:=Tryz.underlying261
 a55:=Tryz.isAgg261
 z55:=Tryz.sizeOf261
 v55:=Tryz.zeroValue261
 t66:=Tryz.underlying354
 a66:=Tryz.isAgg354
 z66:=Tryz.sizeOf354
 v66:=Tryz.zeroValue354
 t70:=Tryz.underlying358
 a70:=Tryz.isAgg358
 z70:=Tryz.sizeOf358
 v70:=Tryz.zeroValue358
 t76:=Tryz.underlying409
 a76:=Tryz.isAgg409
 z76:=Tryz.sizeOf409
 v76:=Tryz.zeroValue409
 t77:=Tryz.underlying394
 a77:=Tryz.isAgg394
 z77:=Tryz.sizeOf394
 v77:=Tryz.zeroValue394 }
def Tryz.sortU_ren:Go.Shelf.Ren:=⟨fun|6=>229|15=>123|14=>310|28=>182|29=>183|20=>353|21=>354|22=>355|23=>356|24=>357|25=>358|26=>359|27=>360|46=>392|47=>276|48=>277|49=>393|50=>394|57=>418|n=>n,fun|22=>40|24=>3|25=>295|3=>3|39=>222|0=>0|53=>259|55=>261|4=>4|46=>252|45=>251|50=>198|5=>5|9=>9|66=>354|70=>358|76=>409|77=>394|n=>n,fun|n=>n⟩
theorem Tryz.sortU:Go.Proofs.SlLaysF.n6 Tryz.prog Tryz.sortU_ren:= {
 mixed:=by kernel_rfl
 f6:=⟨Tryz.f229.name,by decide,Tryz.func229.trans (congrArg some (by kernel_rfl))⟩
 f14:=⟨Tryz.f310.name,by decide,Tryz.func310.trans (congrArg some (by kernel_rfl))⟩
 f15:=Tryz.func123.trans (congrArg some (by kernel_rfl))
 f20:=⟨Tryz.f353.name,by decide,Tryz.func353.trans (congrArg some (by kernel_rfl))⟩
 f21:=⟨Tryz.f354.name,by decide,Tryz.func354.trans (congrArg some (by kernel_rfl))⟩
 f22:=⟨Tryz.f355.name,by decide,Tryz.func355.trans (congrArg some (by kernel_rfl))⟩
 f23:=⟨Tryz.f356.name,by decide,Tryz.func356.trans (congrArg some (by kernel_rfl))⟩
 f24:=⟨Tryz.f357.name,by decide,Tryz.func357.trans (congrArg some (by kernel_rfl))⟩
 f25:=⟨Tryz.f358.name,by decide,Tryz.func358.trans (congrArg some (by kernel_rfl))⟩
 f26:=⟨Tryz.f359.name,by decide,Tryz.func359.trans (congrArg some (by kernel_rfl))⟩
 f27:=⟨Tryz.f360.name,by decide,Tryz.func360.trans (congrArg some (by kernel_rfl))⟩
 f28:=Tryz.func182.trans (congrArg some (by kernel_rfl))
 f29:=Tryz.func183.trans (congrArg some (by kernel_rfl))
 f46:=⟨Tryz.f392.name,by decide,Tryz.func392.trans (congrArg some (by kernel_rfl))⟩
 f47:=Tryz.func276.trans (congrArg some (by kernel_rfl))
 f48:=Tryz.func277.trans (congrArg some (by kernel_rfl))
 f49:=⟨Tryz.f393.name,by decide,Tryz.func393.trans (congrArg some (by kernel_rfl))⟩
 f50:=⟨Tryz.f394.name,by decide,Tryz.func394.trans (congrArg some (by kernel_rfl))⟩
 f57:=⟨Tryz.f418.name,by decide,Tryz.func418.trans (congrArg some (by kernel_rfl))⟩
 t0:=Tryz.underlying0
 a0:=Tryz.isAgg0
 z0:=Tryz.sizeOf0
 v0:=Tryz.zeroValue0
 t3:=Tryz.underlying3
 a3:=Tryz.isAgg3
 z3:=Tryz.sizeOf3
 v3:=Tryz.zeroValue3
 t4:=Tryz.underlying4
 a4:=Tryz.isAgg4
 z4:=Tryz.sizeOf4
 v4:=Tryz.zeroValue4
 t5:=Tryz.underlying5
 a5:=Tryz.isAgg5
 z5:=Tryz.sizeOf5
 v5:=Tryz.zeroValue5
 t9:=Tryz.underlying9
 a9:=Tryz.isAgg9
 z9:=Tryz.sizeOf9
 v9:=Tryz.zeroValue9
 t22:=Tryz.underlying40
 a22:=Tryz.isAgg40
 z22:=Tryz.sizeOf40
 v22:=Tryz.zeroValue40
 a24:=Tryz.isAgg3
 z24:=Tryz.sizeOf3
 t25:=Tryz.underlying295
 a25:=Tryz.isAgg295
 z25:=Tryz.sizeOf295
 v25:=Tryz.zeroValue295
 t39:=Tryz.underlying222
 a39:=Tryz.isAgg222
 z39:=Tryz.sizeOf222
 v39:=Tryz.zeroValue222
 t45:=Tryz.underlying251
 a45:=Tryz.isAgg251
 z45:=Tryz.sizeOf251
 v45:=Tryz.zeroValue251
 t46:=Tryz.underlying252
 a46:=Tryz.isAgg252
 z46:=Tryz.sizeOf252
 v46:=Tryz.zeroValue252
 t50:=Tryz.underlying198
 a50:=Tryz.isAgg198
 z50:=Tryz.sizeOf198
 v50:=Tryz.zeroValue198
 t53:=Tryz.underlying259
 a53:=Tryz.isAgg259
 z53:=Tryz.sizeOf259
 v53:=Tryz.zeroValue259
 t55:=Tryz.underlying261
 a55:=Tryz.isAgg261
 z55:=Tryz.sizeOf261
 v55:=Tryz.zeroValue261
 t66:=Tryz.underlying354
 a66:=Tryz.isAgg354
 z66:=Tryz.sizeOf354
 v66:=Tryz.zeroValue354
 t70:=Tryz.underlying358
 a70:=Tryz.isAgg358
 z70:=Tryz.sizeOf358
 v70:=Tryz.zeroValue358
 t76:=Tryz.underlying409
 a76:=Tryz.isAgg409
 z76:=Tryz.sizeOf409
 v76:=Tryz.zeroValue409
 t77:=Tryz.underlying394
 a77:=Tryz.isAgg394
 z77:=Tryz.sizeOf394
 v77:=Tryz.zeroValue394 }
end Go.Proofs
