/- Lemmas, no conditions. -/
import Derived.Shelf.SlGeneric
import Derived.Shelf.Strings.Repeat
import Derived.Shelf.Strconv.Itoa3
import Derived.Shelf.Strings.Search3
import Derived.Shelf.GgClosure.StringsRunes
import Derived.Ground.NamesProg
import Derived.Ground.GgwProg
import Derived.Test.YthpplckmbbachaaGreatDoorProg
import Derived.Test.YthpplckmbbachaaGreatDoorKB15
import Derived.Shelf.Sort.Plain
import Derived.Test.YthpplckmbbachaaGreatDoorKB6
set_option linter.unusedVariables false
set_option linter.unusedSimpArgs false
namespace Go.Proofs
open Go.Shelf
def Tryz.uw:Go.Shelf.Ren:=⟨fun|105=>408|212=>441|99=>442|165=>443|166=>444|170=>445|169=>446|263=>471|264=>472|206=>473|240=>474|241=>475|276=>494|277=>495|n=>n,fun|9=>9|3=>3|4=>4|20=>20|0=>0|46=>268|109=>444|5=>5|72=>448|76=>452|51=>313|146=>470|53=>315|148=>472|70=>446|37=>366|75=>451|127=>474|164=>487|80=>384|n=>n,fun|n=>n⟩
theorem Tryz.Tx:Go.Proofs.Lays.n105 Tryz.prog Tryz.uw:= {
 mixed:=by kernel_rfl
 f99:=Tryz.func442.trans (congrArg some aD)
 f105:=Tryz.func408.trans (congrArg some aD)
 f165:=Tryz.func443.trans (congrArg some aD)
 f166:=Tryz.func444.trans (congrArg some aD)
 f169:=Tryz.func446.trans (congrArg some aD)
 f170:=Tryz.func445.trans (congrArg some aD)
 f206:=Tryz.func473.trans (congrArg some aD)
 f212:=Tryz.func441.trans (congrArg some aD)
 f240:=Tryz.func474.trans (congrArg some aD)
 f241:=Tryz.func475.trans (congrArg some aD)
 f263:=Tryz.func471.trans (congrArg some aD)
 f264:=Tryz.func472.trans (congrArg some aD)
 f276:=Tryz.func494.trans (congrArg some aD)
 f277:=Tryz.func495.trans (congrArg some aD)
 t0:=Tryz.underlying0
 a0:=Tryz.isAgg0
 z0:=Tryz.sizeOf0
 v0:=Tryz.zeroValue0
 t3:=Tryz.underlying3
 a3:=Tryz.isAgg3
 z3:=Tryz.sizeOf3
 v3:=Tryz.zeroValue3
 t4:=Tryz.underlying4
 a4:=Tryz.isAgg4
 z4:=Tryz.sizeOf4
 v4:=Tryz.zeroValue4
 t5:=Tryz.underlying5
 a5:=Tryz.isAgg5
 z5:=Tryz.sizeOf5
 v5:=Tryz.zeroValue5
 t9:=Tryz.underlying9
 a9:=Tryz.isAgg9
 z9:=Tryz.sizeOf9
 v9:=Tryz.zeroValue9
 t20:=Tryz.underlying20
 a20:=Tryz.isAgg20
 z20:=Tryz.sizeOf20
 v20:=Tryz.zeroValue20
 t37:=Tryz.underlying366
 a37:=Tryz.isAgg366
 z37:=Tryz.sizeOf366
 v37:=Tryz.zeroValue366
 t46:=Tryz.underlying268
 a46:=Tryz.isAgg268
 z46:=Tryz.sizeOf268
 v46:=Tryz.zeroValue268
 t51:=Tryz.underlying313
 a51:=Tryz.isAgg313
 z51:=Tryz.sizeOf313
 v51:=Tryz.zeroValue313
 t53:=Tryz.underlying315
 a53:=Tryz.isAgg315
 z53:=Tryz.sizeOf315
 v53:=Tryz.zeroValue315
 t70:=Tryz.underlying446
 a70:=Tryz.isAgg446
 z70:=Tryz.sizeOf446
 v70:=Tryz.zeroValue446
 t72:=Tryz.underlying448
 a72:=Tryz.isAgg448
 z72:=Tryz.sizeOf448
 v72:=Tryz.zeroValue448
 t75:=Tryz.underlying451
 a75:=Tryz.isAgg451
 z75:=Tryz.sizeOf451
 v75:=Tryz.zeroValue451
 t76:=Tryz.underlying452
 a76:=Tryz.isAgg452
 z76:=Tryz.sizeOf452
 v76:=Tryz.zeroValue452
 t109:=Tryz.underlying444
 a109:=Tryz.isAgg444
 z109:=Tryz.sizeOf444
 v109:=Tryz.zeroValue444
 t127:=Tryz.underlying474
 a127:=Tryz.isAgg474
 z127:=Tryz.sizeOf474
 v127:=Tryz.zeroValue474
 t146:=Tryz.underlying470
 a146:=Tryz.isAgg470
 z146:=Tryz.sizeOf470
 v146:=Tryz.zeroValue470
 t148:=Tryz.underlying472
 a148:=Tryz.isAgg472
 z148:=Tryz.sizeOf472
 v148:=Tryz.zeroValue472
 t164:=Tryz.underlying487
 a164:=Tryz.isAgg487
 z164:=Tryz.sizeOf487
 v164:=Tryz.zeroValue487 }
def Tryz.XQ:Go.Shelf.Ren:=⟨fun|171=>245|243=>338|246=>398|283=>433|284=>434|285=>435|286=>436|129=>258|317=>462|318=>463|319=>464|320=>465|337=>487|338=>488|n=>n,fun|3=>3|9=>9|2=>2|4=>4|171=>437|0=>0|53=>315|37=>366|5=>5|173=>439|212=>466|51=>313|20=>20|213=>467|46=>268|232=>498|233=>499|n=>n,fun|17=>0|18=>2|19=>3|n=>n⟩
theorem Tryz.itoa:Go.Proofs.LaysM.n171 Tryz.prog Tryz.XQ:= {
 mixed:=by kernel_rfl
 f129:=Tryz.func258.trans (congrArg some aD)
 f171:=Tryz.func245.trans (congrArg some aD)
 f243:=Tryz.func338.trans (congrArg some aD)
 f246:=Tryz.func398.trans (congrArg some aD)
 f283:=Tryz.func433.trans (congrArg some aD)
 f284:=Tryz.func434.trans (congrArg some aD)
 f285:=Tryz.func435.trans (congrArg some aD)
 f286:=Tryz.func436.trans (congrArg some aD)
 f317:=Tryz.func462.trans (congrArg some aD)
 f318:=Tryz.func463.trans (congrArg some aD)
 f319:=Tryz.func464.trans (congrArg some aD)
 f320:=Tryz.func465.trans (congrArg some aD)
 f337:=Tryz.func487.trans (congrArg some aD)
 f338:=Tryz.func488.trans (congrArg some aD)
 t0:=Tryz.underlying0
 a0:=Tryz.isAgg0
 z0:=Tryz.sizeOf0
 v0:=Tryz.zeroValue0
 t2:=Tryz.underlying2
 a2:=Tryz.isAgg2
 z2:=Tryz.sizeOf2
 v2:=Tryz.zeroValue2
 t3:=Tryz.underlying3
 a3:=Tryz.isAgg3
 z3:=Tryz.sizeOf3
 v3:=Tryz.zeroValue3
 t4:=Tryz.underlying4
 a4:=Tryz.isAgg4
 z4:=Tryz.sizeOf4
 v4:=Tryz.zeroValue4
 t5:=Tryz.underlying5
 a5:=Tryz.isAgg5
 z5:=Tryz.sizeOf5
 v5:=Tryz.zeroValue5
 t9:=Tryz.underlying9
 a9:=Tryz.isAgg9
 z9:=Tryz.sizeOf9
 v9:=Tryz.zeroValue9
 t20:=Tryz.underlying20
 a20:=Tryz.isAgg20
 z20:=Tryz.sizeOf20
 v20:=Tryz.zeroValue20
 t37:=Tryz.underlying366
 a37:=Tryz.isAgg366
 z37:=Tryz.sizeOf366
 v37:=Tryz.zeroValue366
 t46:=Tryz.underlying268
 a46:=Tryz.isAgg268
 z46:=Tryz.sizeOf268
 v46:=Tryz.zeroValue268
 t51:=Tryz.underlying313
 a51:=Tryz.isAgg313
 z51:=Tryz.sizeOf313
 v51:=Tryz.zeroValue313
 t53:=Tryz.underlying315
 a53:=Tryz.isAgg315
 z53:=Tryz.sizeOf315
 v53:=Tryz.zeroValue315
 t171:=Tryz.underlying437
 a171:=Tryz.isAgg437
 z171:=Tryz.sizeOf437
 v171:=Tryz.zeroValue437
 t173:=Tryz.underlying439
 a173:=Tryz.isAgg439
 z173:=Tryz.sizeOf439
 v173:=Tryz.zeroValue439
 t212:=Tryz.underlying466
 a212:=Tryz.isAgg466
 z212:=Tryz.sizeOf466
 v212:=Tryz.zeroValue466
 t213:=Tryz.underlying467
 a213:=Tryz.isAgg467
 z213:=Tryz.sizeOf467
 t232:=Tryz.underlying498
 a232:=Tryz.isAgg498
 z232:=Tryz.sizeOf498
 v232:=Tryz.zeroValue498
 t233:=Tryz.underlying499
 a233:=Tryz.isAgg499
 z233:=Tryz.sizeOf499
 v233:=Tryz.zeroValue499
 g17:=by kernel_rfl
 g18:=by kernel_rfl
 g19:=by kernel_rfl
 i0:=by kernel_rfl
 i2:=by kernel_rfl
 i3:=by kernel_rfl
 i4:=by kernel_rfl
 i5:=by kernel_rfl
 i9:=by kernel_rfl
 i20:=by kernel_rfl
 i37:=by kernel_rfl
 i46:=by kernel_rfl
 i51:=by kernel_rfl
 i53:=by kernel_rfl
 i171:=by kernel_rfl
 i173:=by kernel_rfl
 i212:=by kernel_rfl
 i232:=by kernel_rfl
 i233:=by kernel_rfl
 m17:=by kernel_rfl
 m18:=by kernel_rfl
 m19:=by kernel_rfl }
def Tryz.BO:Go.Shelf.Ren:=⟨fun|144=>404|143=>438|219=>466|217=>489|225=>490|224=>491|267=>492|266=>514|314=>515|n=>n,fun|9=>9|4=>4|3=>3|5=>5|46=>268|146=>470|51=>313|n=>n,fun|1=>1|n=>n⟩
theorem Tryz.Ly:Go.Proofs.Lays.n144 Tryz.prog Tryz.BO:= {
 mixed:=by kernel_rfl
 f143:=Tryz.func438.trans (congrArg some aD)
 f144:=Tryz.func404.trans (congrArg some aD)
 f217:=Tryz.func489.trans (congrArg some aD)
 f219:=Tryz.func466.trans (congrArg some aD)
 f224:=Tryz.func491.trans (congrArg some aD)
 f225:=Tryz.func490.trans (congrArg some aD)
 f266:=Tryz.func514.trans (congrArg some aD)
 f267:=Tryz.func492.trans (congrArg some aD)
 f314:=Tryz.func515.trans (congrArg some aD)
 t3:=Tryz.underlying3
 a3:=Tryz.isAgg3
 z3:=Tryz.sizeOf3
 v3:=Tryz.zeroValue3
 t4:=Tryz.underlying4
 a4:=Tryz.isAgg4
 z4:=Tryz.sizeOf4
 v4:=Tryz.zeroValue4
 t5:=Tryz.underlying5
 a5:=Tryz.isAgg5
 z5:=Tryz.sizeOf5
 v5:=Tryz.zeroValue5
 t9:=Tryz.underlying9
 a9:=Tryz.isAgg9
 z9:=Tryz.sizeOf9
 v9:=Tryz.zeroValue9
 t46:=Tryz.underlying268
 a46:=Tryz.isAgg268
 z46:=Tryz.sizeOf268
 v46:=Tryz.zeroValue268
 t51:=Tryz.underlying313
 a51:=Tryz.isAgg313
 z51:=Tryz.sizeOf313
 v51:=Tryz.zeroValue313
 t146:=Tryz.underlying470
 a146:=Tryz.isAgg470
 z146:=Tryz.sizeOf470
 v146:=Tryz.zeroValue470
 g1:=by kernel_rfl }
def Tryz.tN:Go.Shelf.Ren:=⟨fun|17=>405|15=>439|20=>467|n=>n,fun|9=>9|23=>416|4=>4|3=>3|0=>0|21=>21|n=>n,fun|n=>n⟩
theorem Tryz.BP:Go.Proofs.LaysGw.n17 Tryz.prog Tryz.tN:= {
 mixed:=by kernel_rfl
 f15:=Tryz.func439.trans (congrArg some aD)
 f17:=Tryz.func405.trans (congrArg some aD)
 f20:=Tryz.func467.trans (congrArg some aD)
 t0:=Tryz.underlying0
 a0:=Tryz.isAgg0
 z0:=Tryz.sizeOf0
 v0:=Tryz.zeroValue0
 i0:=by kernel_rfl
 t3:=Tryz.underlying3
 a3:=Tryz.isAgg3
 z3:=Tryz.sizeOf3
 v3:=Tryz.zeroValue3
 i3:=by kernel_rfl
 t4:=Tryz.underlying4
 a4:=Tryz.isAgg4
 z4:=Tryz.sizeOf4
 v4:=Tryz.zeroValue4
 i4:=by kernel_rfl
 t9:=Tryz.underlying9
 a9:=Tryz.isAgg9
 z9:=Tryz.sizeOf9
 v9:=Tryz.zeroValue9
 i9:=by kernel_rfl
 t21:=Tryz.underlying21
 a21:=Tryz.isAgg21
 z21:=Tryz.sizeOf21
 v21:=Tryz.zeroValue21
 i21:=by kernel_rfl
 t23:=Tryz.underlying416
 a23:=Tryz.isAgg416
 z23:=Tryz.sizeOf416
 v23:=Tryz.zeroValue416
 i23:=by kernel_rfl }
end Go.Proofs
namespace Go.aI
theorem Ir{P c Q N t σ σ' mv}(v k sz row){cs cs'}(hv:σ[v]? =some (.var cs))(hk:cs[k]? =some (.d (.v (.slice none 0 0))))(hc:cs.set k (.ms σ.length sz 0 0)=cs')(hσ:σ.set v (.var cs')++[.arr sz 0 row]=σ')
  (h:cV P c Q ⟨N,t,σ',mv⟩):cV P c Q ⟨N,t,σ,mv⟩:=by
 refine fg (s':=⟨N,t,σ',mv⟩) ?_ h;intro j0 j a w hr;subst hσ;subst hc;obtain⟨h1,h2,h3⟩:=hr.cm.yM (sz:=sz) (rows:=row) (p:=none);have hvl:v<σ.length:=(List.getElem?_eq_some_iff.1 hv).1;have hkl:k<cs.length:=(List.getElem?_eq_some_iff.1 hk).1;refine⟨j++[none],⟨hr.defers.mono h3,hr.fC,hr.size,fun q av hq=>⟨(hr.tmp q av hq).1,(hr.tmp q av hq).2.iy h3 hr.cm.lt (cg _ _)⟩,⟨by simp[hr.cm.len],h1.lt,h1.inj,fun b x hx=> ?_⟩,by have:=hr.len0;grind,fun c hc hn=> ?_⟩,h3⟩
 ·rw[←List.set_append_left _ _ hvl,List.getElem?_set] at hx;split at hx
  ·rename_i e;subst e;split at hx
   ·simp only[Option.some.injEq] at hx;subst hx;obtain⟨o,ho,hB⟩:=h1.blk v (.var cs) ai;refine⟨o,ho,?_⟩;cases o with
    |none=>exact hB
    |some cb=>
     obtain⟨C,e,g1,g2,g3⟩:=hB;refine⟨C,e,g1,ai,fun q hq=> ?_⟩;grind [iu]
   grind
  ·exact h1.blk b x hx
 ·have:=hr.len0;rw[List.getElem?_append_left aa];exact hr.ag c hc hn
end Go.aI
namespace Go.Proofs
open Go.Shelf
def Tryz.sortInt_ren:Go.Shelf.Ren:=⟨fun|189=>124|125=>182|257=>181|128=>257|129=>258|294=>248|295=>249|296=>250|297=>251|298=>252|299=>253|216=>254|300=>255|301=>256|328=>340|329=>341|330=>342|331=>343|332=>344|215=>345|343=>402|n=>n,fun|28=>40|3=>3|46=>268|0=>0|51=>313|53=>315|4=>4|183=>306|182=>305|131=>263|5=>5|9=>9|218=>369|222=>373|228=>414|229=>392|n=>n,fun|n=>n⟩
theorem Tryz.sortInt:Go.Proofs.Lays.n189 Tryz.prog Tryz.sortInt_ren:= {
 mixed:=by kernel_rfl
 f125:=Tryz.func182.trans (congrArg some aD)
 f128:=Tryz.func257.trans (congrArg some aD)
 f129:=Tryz.func258.trans (congrArg some aD)
 f189:=Tryz.func124.trans (congrArg some aD)
 f215:=Tryz.func345.trans (congrArg some aD)
 f216:=Tryz.func254.trans (congrArg some aD)
 f257:=Tryz.func181.trans (congrArg some aD)
 f294:=Tryz.func248.trans (congrArg some aD)
 f295:=Tryz.func249.trans (congrArg some aD)
 f296:=Tryz.func250.trans (congrArg some aD)
 f297:=Tryz.func251.trans (congrArg some aD)
 f298:=Tryz.func252.trans (congrArg some aD)
 f299:=Tryz.func253.trans (congrArg some aD)
 f300:=Tryz.func255.trans (congrArg some aD)
 f301:=Tryz.func256.trans (congrArg some aD)
 f328:=Tryz.func340.trans (congrArg some aD)
 f329:=Tryz.func341.trans (congrArg some aD)
 f330:=Tryz.func342.trans (congrArg some aD)
 f331:=Tryz.func343.trans (congrArg some aD)
 f332:=Tryz.func344.trans (congrArg some aD)
 f343:=Tryz.func402.trans (congrArg some aD)
 t0:=Tryz.underlying0
 a0:=Tryz.isAgg0
 z0:=Tryz.sizeOf0
 v0:=Tryz.zeroValue0
 t3:=Tryz.underlying3
 a3:=Tryz.isAgg3
 z3:=Tryz.sizeOf3
 v3:=Tryz.zeroValue3
 t4:=Tryz.underlying4
 a4:=Tryz.isAgg4
 z4:=Tryz.sizeOf4
 v4:=Tryz.zeroValue4
 t5:=Tryz.underlying5
 a5:=Tryz.isAgg5
 z5:=Tryz.sizeOf5
 v5:=Tryz.zeroValue5
 t9:=Tryz.underlying9
 a9:=Tryz.isAgg9
 z9:=Tryz.sizeOf9
 v9:=Tryz.zeroValue9
 t28:=Tryz.underlying40
 a28:=Tryz.isAgg40
 z28:=Tryz.sizeOf40
 v28:=Tryz.zeroValue40
 t46:=Tryz.underlying268
 a46:=Tryz.isAgg268
 z46:=Tryz.sizeOf268
 v46:=Tryz.zeroValue268
 t51:=Tryz.underlying313
 a51:=Tryz.isAgg313
 z51:=Tryz.sizeOf313
 v51:=Tryz.zeroValue313
 t53:=Tryz.underlying315
 a53:=Tryz.isAgg315
 z53:=Tryz.sizeOf315
 v53:=Tryz.zeroValue315
 t131:=Tryz.underlying263
 a131:=Tryz.isAgg263
 z131:=Tryz.sizeOf263
 v131:=Tryz.zeroValue263
 t182:=Tryz.underlying305
 a182:=Tryz.isAgg305
 z182:=Tryz.sizeOf305
 v182:=Tryz.zeroValue305
 t183:=Tryz.underlying306
 a183:=Tryz.isAgg306
 z183:=Tryz.sizeOf306
 v183:=Tryz.zeroValue306
 t218:=Tryz.underlying369
 a218:=Tryz.isAgg369
 z218:=Tryz.sizeOf369
 v218:=Tryz.zeroValue369
 t222:=Tryz.underlying373
 a222:=Tryz.isAgg373
 z222:=Tryz.sizeOf373
 v222:=Tryz.zeroValue373
 t228:=Tryz.underlying414
 a228:=Tryz.isAgg414
 z228:=Tryz.sizeOf414
 v228:=Tryz.zeroValue414
 t229:=Tryz.underlying392
 a229:=Tryz.isAgg392
 z229:=Tryz.sizeOf392
 v229:=Tryz.zeroValue392 }
end Go.Proofs
namespace Go.aI
open Go
theorem Tr{w j σ}(hS:aQ w j σ){b c:Nat}{vs}(h:σ[b]? =some (.tab c vs)): ∃e f,w.heap[c]? =some (.cells vs e f):=by
 obtain⟨o,_,hB⟩:=hS.blk b _ h;obtain⟨_,_,_,e,h4,h5⟩:=hB;unfold World.shape? at h4;cases hc:w.heap[c]? with
 |none=>grind
 |some ob=>
  rw[hc] at h4;cases ob with
  |cells C e' f=>
   simp only[Option.some.injEq,Prod.mk.injEq] at h4;refine⟨e',f,?_⟩;have hC:C=vs:=by
    apply Array.ext
    ·grind
    ·intro i h1 h2;have h6:=h5 i;grind [World.cell?]
   rw[hC]
  |_=>simp at h4
end Go.aI
