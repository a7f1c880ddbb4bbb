/- Contracts and lemmas, joined out of smaller texts by a program; no conditions. -/
import Derived.Test.YtmahphgjkpgidaaGreatDoorKB8
import Derived.Below
import Derived.Shelf.SlGeneric
import Derived.Shelf.Strings.Repeat
import Derived.Shelf.Strconv.Itoa3
import Derived.Shelf.Sort.Plain
import Derived.Shelf.Strings.Search3
import Derived.Shelf.GgClosure.StringsRunes
import Derived.Ground.NamesProg
import Derived.Ground.GgwProg
import Derived.Test.YtmahphgjkpgidaaGreatDoorProg
set_option linter.unusedVariables false
set_option linter.unusedSimpArgs false
namespace Go.Proofs.YtmahphgjkpgidaaGreatDoor
open Go.aU Go.dh
end Go.Proofs.YtmahphgjkpgidaaGreatDoor
namespace Go.aU
open Go.RowKit
theorem ba_loop(b:ByteArray): ∀(k i:Nat) (r:List UInt8),b.size-i=k->ByteArray.toList.loop b i r=r.reverse++b.data.toList.drop i:=by
 intro k;induction k with
 |zero=>
  intro i r h;unfold ByteArray.toList.loop;rw[if_neg (by omega)];have:b.data.toList.drop i=[]:=by
   rw[List.drop_eq_nil_iff,Array.length_toList];have:b.data.size=b.size:=rfl;omega
  rw[this];simp
 |succ k ih=>
  intro i r h;unfold ByteArray.toList.loop;have hi:i<b.size:=by omega
  rw[if_pos hi,ih (i+1) _ (by omega)];have hd:i<b.data.toList.length:=by rw[Array.length_toList];exact hi
  rw[List.drop_eq_getElem_cons hd];have:b.get! i=b.data.toList[i]:=by
   have h2:b.get! i=b.data[i]! :=rfl;rw[h2,getElem!_pos b.data i (by exact hi)];simp
  rw[this];simp
theorem VH(b:ByteArray):b.toList=b.data.toList:=by
 have:=ba_loop b (b.size-0) 0 [] rfl;unfold ByteArray.toList;rw[this];simp
theorem ba_inj{a b:ByteArray}(h:a.toList=b.toList):a=b:=by
 rw[VH,VH] at h;cases a;cases b;simp at h;rw[h]
theorem ba_eq_iff{a b:ByteArray} :a.toList=b.toList↔a=b:=⟨ba_inj,fun h=>by rw[h]⟩
attribute [simp] ba_eq_iff
theorem below_rel{w w':World}{j:Js}{σ:List aG}(hb:Below w.heap.size w w')(hS:aT w j σ):aT w' j σ/\Ev j w j w':=by
 have hk:=hb.block;have he:Ev j w j w':=⟨hb.size,fun b h _=>hk b h,fun _ _ h=>h,fun b h=>by simp[World.shape?,hk b h],fun a h=>by simp[World.frozen?,hk _ h],hb.os,hb.tape,hb.output,
  fun b r h=>⟨r,by rw[hk b (Array.getElem?_eq_some_iff.1 h).1];exact h⟩⟩
 refine⟨⟨hS.len,fun b cb h=>Nat.lt_of_lt_of_le (hS.lt b cb h) hb.size,hS.inj,fun b x hx=> ?_⟩,he⟩;obtain⟨o,ho,hB⟩:=hS.blk b x hx;exact⟨o,ho,hB.mono he hS.lt (.refl _ _) fun cb h=>hk cb (hS.lt b cb (by rw[ho,h]))⟩
theorem aA.Ir{P:Program}{f:FuncId}{args:List AV}{σ:List aG}{r:Value}(hen:dX P f=true)(vals:Array Value)(hargs: ∀w j vs,Rs w j args vs->vs=vals)
  (h: ∀w j,aT w j σ->Calls P f vals w fun e w'=>e= .returned r/\Below w.heap.size w w'):aA P f args σ (.d (.v r)):=by
 refine⟨hen,fun j w vs hs hr=> ?_⟩;rw[hargs w j vs hr];refine(h w j hs).mono fun e w' ⟨he,hb⟩=> ?_;obtain⟨h1,h2⟩:=below_rel hb hs;exact⟨r,.d (.v r),σ,j,[],he,h1,.d (.v r),h2,Nat.le_refl _,.refl _ _,rfl,rfl,rfl⟩
theorem rs_vals1{w:World}{j:Js}{a:AV}{v:Value}{vs:Array Value}(h:Rs w j [a] vs)(ha: ∀u,R w j a u->u=v):vs= #[v]:=by
 have h0:=ha _ (by simpa using h.2 0 (by simp));apply Array.ext
 ·simpa using h.1
 ·intro i h1 h2;have hi:i=0:=by simpa using h2
  subst hi;simp only[h1,Array.getElem?_eq_getElem,Option.getD_some] at h0;simpa using h0
theorem QB{w:World}{j:Js}{a b:AV}{v u:Value}{vs:Array Value}(h:Rs w j [a,b] vs)(ha: ∀x,R w j a x->x=v)(hb: ∀x,R w j b x->x=u):vs= #[v,u]:=by
 have h0:=ha _ (by simpa using h.2 0 (by simp));have h1:=hb _ (by simpa using h.2 1 (by simp));have hs:vs.size=2:=by simpa using h.1
 apply Array.ext
 ·simpa using hs
 ·intro i h2 h3;simp only[show 0<vs.size by omega,show 1<vs.size by omega,Array.getElem?_eq_getElem,Option.getD_some] at h0 h1;have hi:i=0\/i=1:=by simp at h3;omega
  rcases hi with rfl|rfl
  ·simpa using h0
  ·simpa using h1
theorem CS.sub{P:Program}{f:FuncId}{args args':List AV}{σ:List aG}{Q:AV->List aG->List Nat->Prop}(h:CS P f args' σ Q)(hs:xw args args'):CS P f args σ Q:=by
 obtain⟨h1,h2⟩:=FP hs;exact⟨h.1,fun j w vs hS hr=>h.2 j w vs hS ⟨by rw[h1];exact hr.1,fun k hk=>h2 k (by rw[←h1];exact hk) _ _ _ (hr.2 k (by rw[←h1];exact hk))⟩⟩
theorem aA.sub{P:Program}{f:FuncId}{args args':List AV}{σ:List aG}{r:AV}(h:aA P f args' σ r)(hs:xw args args'):aA P f args σ r:=CS.sub h hs
theorem loc_cell{w:World}{j:Js}{σ:List aG}(hS:aT w j σ){b c:Nat}(h:σ[b]? =some (.loc c)): ∃m,w.cell? ⟨c,0,none⟩=some (.int .i64 m):=by
 obtain⟨o,_,hB⟩:=hS.blk b _ h;cases o<;>exact hB.2.2.2
theorem aC{σ τ:List aG}{b:Nat}{x:aG}(h:σ[b]? =some x):(σ++τ)[b]? =some x:=by
 rw[List.getElem?_append_left (List.getElem?_eq_some_iff.1 h).1];exact h
end Go.aU
namespace Go.Proofs
open Go.Shelf
def Tryz.EX:Go.Shelf.Ren:=⟨fun|105=>351|212=>382|99=>383|165=>384|166=>385|170=>386|169=>387|263=>409|264=>410|206=>411|240=>412|241=>413|276=>433|277=>434|n=>n,fun|9=>9|3=>3|4=>4|20=>20|0=>0|46=>222|109=>447|5=>5|72=>451|76=>455|51=>259|146=>477|53=>261|148=>479|70=>449|37=>425|75=>454|127=>481|164=>494|80=>386|n=>n,fun|n=>n⟩
theorem Tryz.strRepeat:Go.Proofs.Lays.n105 Tryz.prog Tryz.EX:= {
 mixed:=by kernel_rfl
 f99:=Tryz.func383.trans (congrArg some (by kernel_rfl))
 f105:=Tryz.func351.trans (congrArg some (by kernel_rfl))
 f165:=Tryz.func384.trans (congrArg some (by kernel_rfl))
 f166:=Tryz.func385.trans (congrArg some (by kernel_rfl))
 f169:=Tryz.func387.trans (congrArg some (by kernel_rfl))
 f170:=Tryz.func386.trans (congrArg some (by kernel_rfl))
 f206:=Tryz.func411.trans (congrArg some (by kernel_rfl))
 f212:=Tryz.func382.trans (congrArg some (by kernel_rfl))
 f240:=Tryz.func412.trans (congrArg some (by kernel_rfl))
 f241:=Tryz.func413.trans (congrArg some (by kernel_rfl))
 f263:=Tryz.func409.trans (congrArg some (by kernel_rfl))
 f264:=Tryz.func410.trans (congrArg some (by kernel_rfl))
 f276:=Tryz.func433.trans (congrArg some (by kernel_rfl))
 f277:=Tryz.func434.trans (congrArg some (by kernel_rfl))
 t0:=Tryz.underlying0
 a0:=Tryz.isAgg0
 z0:=Tryz.sizeOf0
 v0:=Tryz.zeroValue0
 t3:=Tryz.underlying3
 a3:=Tryz.isAgg3
 z3:=Tryz.sizeOf3
 v3:=Tryz.zeroValue3
 t4:=Tryz.underlying4
 a4:=Tryz.isAgg4
 z4:=Tryz.sizeOf4
 v4:=Tryz.zeroValue4
 t5:=Tryz.underlying5
 a5:=Tryz.isAgg5
 z5:=Tryz.sizeOf5
 v5:=Tryz.zeroValue5
 t9:=Tryz.underlying9
 a9:=Tryz.isAgg9
 z9:=Tryz.sizeOf9
 v9:=Tryz.zeroValue9
 t20:=Tryz.underlying20
 a20:=Tryz.isAgg20
 z20:=Tryz.sizeOf20
 v20:=Tryz.zeroValue20
 t37:=Tryz.underlying425
 a37:=Tryz.isAgg425
 z37:=Tryz.sizeOf425
 v37:=Tryz.zeroValue425
 t46:=Tryz.underlying222
 a46:=Tryz.isAgg222
 z46:=Tryz.sizeOf222
 v46:=Tryz.zeroValue222
 t51:=Tryz.underlying259
 a51:=Tryz.isAgg259
 z51:=Tryz.sizeOf259
 v51:=Tryz.zeroValue259
 t53:=Tryz.underlying261
 a53:=Tryz.isAgg261
 z53:=Tryz.sizeOf261
 v53:=Tryz.zeroValue261
 t70:=Tryz.underlying449
 a70:=Tryz.isAgg449
 z70:=Tryz.sizeOf449
 v70:=Tryz.zeroValue449
 t72:=Tryz.underlying451
 a72:=Tryz.isAgg451
 z72:=Tryz.sizeOf451
 v72:=Tryz.zeroValue451
 t75:=Tryz.underlying454
 a75:=Tryz.isAgg454
 z75:=Tryz.sizeOf454
 v75:=Tryz.zeroValue454
 t76:=Tryz.underlying455
 a76:=Tryz.isAgg455
 z76:=Tryz.sizeOf455
 v76:=Tryz.zeroValue455
 t109:=Tryz.underlying447
 a109:=Tryz.isAgg447
 z109:=Tryz.sizeOf447
 v109:=Tryz.zeroValue447
 t127:=Tryz.underlying481
 a127:=Tryz.isAgg481
 z127:=Tryz.sizeOf481
 v127:=Tryz.zeroValue481
 t146:=Tryz.underlying477
 a146:=Tryz.isAgg477
 z146:=Tryz.sizeOf477
 v146:=Tryz.zeroValue477
 t148:=Tryz.underlying479
 a148:=Tryz.isAgg479
 z148:=Tryz.sizeOf479
 v148:=Tryz.zeroValue479
 t164:=Tryz.underlying494
 a164:=Tryz.isAgg494
 z164:=Tryz.sizeOf494
 v164:=Tryz.zeroValue494 }
def Tryz.itoa_ren:Go.Shelf.Ren:=⟨fun|171=>228|243=>309|246=>352|283=>388|284=>389|285=>390|286=>391|129=>183|317=>414|318=>415|319=>416|320=>417|337=>435|338=>436|n=>n,fun|3=>3|9=>9|2=>2|4=>4|171=>458|0=>0|53=>261|37=>425|5=>5|173=>460|212=>483|51=>259|20=>20|213=>484|46=>222|232=>501|233=>502|n=>n,fun|17=>0|18=>2|19=>3|n=>n⟩
theorem Tryz.itoa:Go.Proofs.LaysM.n171 Tryz.prog Tryz.itoa_ren:= {
 mixed:=by kernel_rfl
 f129:=Tryz.func183.trans (congrArg some (by kernel_rfl))
 f171:=Tryz.func228.trans (congrArg some (by kernel_rfl))
 f243:=Tryz.func309.trans (congrArg some (by kernel_rfl))
 f246:=Tryz.func352.trans (congrArg some (by kernel_rfl))
 f283:=Tryz.func388.trans (congrArg some (by kernel_rfl))
 f284:=Tryz.func389.trans (congrArg some (by kernel_rfl))
 f285:=Tryz.func390.trans (congrArg some (by kernel_rfl))
 f286:=Tryz.func391.trans (congrArg some (by kernel_rfl))
 f317:=Tryz.func414.trans (congrArg some (by kernel_rfl))
 f318:=Tryz.func415.trans (congrArg some (by kernel_rfl))
 f319:=Tryz.func416.trans (congrArg some (by kernel_rfl))
 f320:=Tryz.func417.trans (congrArg some (by kernel_rfl))
 f337:=Tryz.func435.trans (congrArg some (by kernel_rfl))
 f338:=Tryz.func436.trans (congrArg some (by kernel_rfl))
 t0:=Tryz.underlying0
 a0:=Tryz.isAgg0
 z0:=Tryz.sizeOf0
 v0:=Tryz.zeroValue0
 t2:=Tryz.underlying2
 a2:=Tryz.isAgg2
 z2:=Tryz.sizeOf2
 v2:=Tryz.zeroValue2
 t3:=Tryz.underlying3
 a3:=Tryz.isAgg3
 z3:=Tryz.sizeOf3
 v3:=Tryz.zeroValue3
 t4:=Tryz.underlying4
 a4:=Tryz.isAgg4
 z4:=Tryz.sizeOf4
 v4:=Tryz.zeroValue4
 t5:=Tryz.underlying5
 a5:=Tryz.isAgg5
 z5:=Tryz.sizeOf5
 v5:=Tryz.zeroValue5
 t9:=Tryz.underlying9
 a9:=Tryz.isAgg9
 z9:=Tryz.sizeOf9
 v9:=Tryz.zeroValue9
 t20:=Tryz.underlying20
 a20:=Tryz.isAgg20
 z20:=Tryz.sizeOf20
 v20:=Tryz.zeroValue20
 t37:=Tryz.underlying425
 a37:=Tryz.isAgg425
 z37:=Tryz.sizeOf425
 v37:=Tryz.zeroValue425
 t46:=Tryz.underlying222
 a46:=Tryz.isAgg222
 z46:=Tryz.sizeOf222
 v46:=Tryz.zeroValue222
 t51:=Tryz.underlying259
 a51:=Tryz.isAgg259
 z51:=Tryz.sizeOf259
 v51:=Tryz.zeroValue259
 t53:=Tryz.underlying261
 a53:=Tryz.isAgg261
 z53:=Tryz.sizeOf261
 v53:=Tryz.zeroValue261
 t171:=Tryz.underlying458
 a171:=Tryz.isAgg458
 z171:=Tryz.sizeOf458
 v171:=Tryz.zeroValue458
 t173:=Tryz.underlying460
 a173:=Tryz.isAgg460
 z173:=Tryz.sizeOf460
 v173:=Tryz.zeroValue460
 t212:=Tryz.underlying483
 a212:=Tryz.isAgg483
 z212:=Tryz.sizeOf483
 v212:=Tryz.zeroValue483
 t213:=Tryz.underlying484
 a213:=Tryz.isAgg484
 z213:=Tryz.sizeOf484
 t232:=Tryz.underlying501
 a232:=Tryz.isAgg501
 z232:=Tryz.sizeOf501
 v232:=Tryz.zeroValue501
 t233:=Tryz.underlying502
 a233:=Tryz.isAgg502
 z233:=Tryz.sizeOf502
 v233:=Tryz.zeroValue502
 g17:=by kernel_rfl
 g18:=by kernel_rfl
 g19:=by kernel_rfl
 i0:=by kernel_rfl
 i2:=by kernel_rfl
 i3:=by kernel_rfl
 i4:=by kernel_rfl
 i5:=by kernel_rfl
 i9:=by kernel_rfl
 i20:=by kernel_rfl
 i37:=by kernel_rfl
 i46:=by kernel_rfl
 i51:=by kernel_rfl
 i53:=by kernel_rfl
 i171:=by kernel_rfl
 i173:=by kernel_rfl
 i212:=by kernel_rfl
 i232:=by kernel_rfl
 i233:=by kernel_rfl
 m17:=by kernel_rfl
 m18:=by kernel_rfl
 m19:=by kernel_rfl }
def Tryz.sortInt_ren:Go.Shelf.Ren:=⟨fun|189=>94|125=>123|257=>122|128=>182|129=>183|294=>173|295=>174|296=>175|297=>176|298=>177|299=>178|216=>179|300=>180|301=>181|328=>275|329=>276|330=>277|331=>278|332=>279|215=>280|343=>338|n=>n,fun|28=>40|3=>3|46=>222|0=>0|51=>259|53=>261|4=>4|183=>252|182=>251|131=>198|5=>5|9=>9|218=>354|222=>358|228=>409|229=>394|n=>n,fun|n=>n⟩
theorem Tryz.sortInt:Go.Proofs.Lays.n189 Tryz.prog Tryz.sortInt_ren:= {
 mixed:=by kernel_rfl
 f125:=Tryz.func123.trans (congrArg some (by kernel_rfl))
 f128:=Tryz.func182.trans (congrArg some (by kernel_rfl))
 f129:=Tryz.func183.trans (congrArg some (by kernel_rfl))
 f189:=Tryz.func94.trans (congrArg some (by kernel_rfl))
 f215:=Tryz.func280.trans (congrArg some (by kernel_rfl))
 f216:=Tryz.func179.trans (congrArg some (by kernel_rfl))
 f257:=Tryz.func122.trans (congrArg some (by kernel_rfl))
 f294:=Tryz.func173.trans (congrArg some (by kernel_rfl))
 f295:=Tryz.func174.trans (congrArg some (by kernel_rfl))
 f296:=Tryz.func175.trans (congrArg some (by kernel_rfl))
 f297:=Tryz.func176.trans (congrArg some (by kernel_rfl))
 f298:=Tryz.func177.trans (congrArg some (by kernel_rfl))
 f299:=Tryz.func178.trans (congrArg some (by kernel_rfl))
 f300:=Tryz.func180.trans (congrArg some (by kernel_rfl))
 f301:=Tryz.func181.trans (congrArg some (by kernel_rfl))
 f328:=Tryz.func275.trans (congrArg some (by kernel_rfl))
 f329:=Tryz.func276.trans (congrArg some (by kernel_rfl))
 f330:=Tryz.func277.trans (congrArg some (by kernel_rfl))
 f331:=Tryz.func278.trans (congrArg some (by kernel_rfl))
 f332:=Tryz.func279.trans (congrArg some (by kernel_rfl))
 f343:=Tryz.func338.trans (congrArg some (by kernel_rfl))
 t0:=Tryz.underlying0
 a0:=Tryz.isAgg0
 z0:=Tryz.sizeOf0
 v0:=Tryz.zeroValue0
 t3:=Tryz.underlying3
 a3:=Tryz.isAgg3
 z3:=Tryz.sizeOf3
 v3:=Tryz.zeroValue3
 t4:=Tryz.underlying4
 a4:=Tryz.isAgg4
 z4:=Tryz.sizeOf4
 v4:=Tryz.zeroValue4
 t5:=Tryz.underlying5
 a5:=Tryz.isAgg5
 z5:=Tryz.sizeOf5
 v5:=Tryz.zeroValue5
 t9:=Tryz.underlying9
 a9:=Tryz.isAgg9
 z9:=Tryz.sizeOf9
 v9:=Tryz.zeroValue9
 t28:=Tryz.underlying40
 a28:=Tryz.isAgg40
 z28:=Tryz.sizeOf40
 v28:=Tryz.zeroValue40
 t46:=Tryz.underlying222
 a46:=Tryz.isAgg222
 z46:=Tryz.sizeOf222
 v46:=Tryz.zeroValue222
 t51:=Tryz.underlying259
 a51:=Tryz.isAgg259
 z51:=Tryz.sizeOf259
 v51:=Tryz.zeroValue259
 t53:=Tryz.underlying261
 a53:=Tryz.isAgg261
 z53:=Tryz.sizeOf261
 v53:=Tryz.zeroValue261
 t131:=Tryz.underlying198
 a131:=Tryz.isAgg198
 z131:=Tryz.sizeOf198
 v131:=Tryz.zeroValue198
 t182:=Tryz.underlying251
 a182:=Tryz.isAgg251
 z182:=Tryz.sizeOf251
 v182:=Tryz.zeroValue251
 t183:=Tryz.underlying252
 a183:=Tryz.isAgg252
 z183:=Tryz.sizeOf252
 v183:=Tryz.zeroValue252
 t218:=Tryz.underlying354
 a218:=Tryz.isAgg354
 z218:=Tryz.sizeOf354
 v218:=Tryz.zeroValue354
 t222:=Tryz.underlying358
 a222:=Tryz.isAgg358
 z222:=Tryz.sizeOf358
 v222:=Tryz.zeroValue358
 t228:=Tryz.underlying409
 a228:=Tryz.isAgg409
 z228:=Tryz.sizeOf409
 v228:=Tryz.zeroValue409
 t229:=Tryz.underlying394
 a229:=Tryz.isAgg394
 z229:=Tryz.sizeOf394
 v229:=Tryz.zeroValue394 }
def Tryz.Oo:Go.Shelf.Ren:=⟨fun|144=>340|143=>370|219=>400|217=>420|225=>421|224=>422|267=>423|266=>438|314=>439|n=>n,fun|9=>9|4=>4|3=>3|5=>5|46=>222|146=>477|51=>259|n=>n,fun|1=>1|n=>n⟩
theorem Tryz.YL:Go.Proofs.Lays.n144 Tryz.prog Tryz.Oo:= {
 mixed:=by kernel_rfl
 f143:=Tryz.func370.trans (congrArg some (by kernel_rfl))
 f144:=Tryz.func340.trans (congrArg some (by kernel_rfl))
 f217:=Tryz.func420.trans (congrArg some (by kernel_rfl))
 f219:=Tryz.func400.trans (congrArg some (by kernel_rfl))
 f224:=Tryz.func422.trans (congrArg some (by kernel_rfl))
 f225:=Tryz.func421.trans (congrArg some (by kernel_rfl))
 f266:=Tryz.func438.trans (congrArg some (by kernel_rfl))
 f267:=Tryz.func423.trans (congrArg some (by kernel_rfl))
 f314:=Tryz.func439.trans (congrArg some (by kernel_rfl))
 t3:=Tryz.underlying3
 a3:=Tryz.isAgg3
 z3:=Tryz.sizeOf3
 v3:=Tryz.zeroValue3
 t4:=Tryz.underlying4
 a4:=Tryz.isAgg4
 z4:=Tryz.sizeOf4
 v4:=Tryz.zeroValue4
 t5:=Tryz.underlying5
 a5:=Tryz.isAgg5
 z5:=Tryz.sizeOf5
 v5:=Tryz.zeroValue5
 t9:=Tryz.underlying9
 a9:=Tryz.isAgg9
 z9:=Tryz.sizeOf9
 v9:=Tryz.zeroValue9
 t46:=Tryz.underlying222
 a46:=Tryz.isAgg222
 z46:=Tryz.sizeOf222
 v46:=Tryz.zeroValue222
 t51:=Tryz.underlying259
 a51:=Tryz.isAgg259
 z51:=Tryz.sizeOf259
 v51:=Tryz.zeroValue259
 t146:=Tryz.underlying477
 a146:=Tryz.isAgg477
 z146:=Tryz.sizeOf477
 v146:=Tryz.zeroValue477
 g1:=by kernel_rfl }
def Tryz.Es:Go.Shelf.Ren:=⟨fun|17=>341|15=>371|20=>401|n=>n,fun|9=>9|23=>411|4=>4|3=>3|0=>0|21=>21|n=>n,fun|n=>n⟩
theorem Tryz.Oq:Go.Proofs.LaysGw.n17 Tryz.prog Tryz.Es:= {
 mixed:=by kernel_rfl
 f15:=Tryz.func371.trans (congrArg some (by kernel_rfl))
 f17:=Tryz.func341.trans (congrArg some (by kernel_rfl))
 f20:=Tryz.func401.trans (congrArg some (by kernel_rfl))
 t0:=Tryz.underlying0
 a0:=Tryz.isAgg0
 z0:=Tryz.sizeOf0
 v0:=Tryz.zeroValue0
 i0:=by kernel_rfl
 t3:=Tryz.underlying3
 a3:=Tryz.isAgg3
 z3:=Tryz.sizeOf3
 v3:=Tryz.zeroValue3
 i3:=by kernel_rfl
 t4:=Tryz.underlying4
 a4:=Tryz.isAgg4
 z4:=Tryz.sizeOf4
 v4:=Tryz.zeroValue4
 i4:=by kernel_rfl
 t9:=Tryz.underlying9
 a9:=Tryz.isAgg9
 z9:=Tryz.sizeOf9
 v9:=Tryz.zeroValue9
 i9:=by kernel_rfl
 t21:=Tryz.underlying21
 a21:=Tryz.isAgg21
 z21:=Tryz.sizeOf21
 v21:=Tryz.zeroValue21
 i21:=by kernel_rfl
 t23:=Tryz.underlying411
 a23:=Tryz.isAgg411
 z23:=Tryz.sizeOf411
 v23:=Tryz.zeroValue411
 i23:=by kernel_rfl }
end Go.Proofs
namespace Go.aU
theorem awp_thawC{P:Program}{c:Code}{Q:Exit->St->Prop}{N:Nat}{t:List (Nat×AV)}{σ σ':List aG}{mv:List Nat}(v k sz:Nat)(row:Nat->List D){cs cs':List AV}(hv:σ[v]? =some (.var cs))(hk:cs[k]? =some (.d (.v (.slice none 0 0))))(hc:cs.set k (.ms σ.length sz 0 0)=cs')(hσ:σ.set v (.var cs')++[.arr sz 0 row]=σ')
  (h:fA P c Q ⟨N,t,σ',mv⟩):fA P c Q ⟨N,t,σ,mv⟩:=by
 refine jS (s':=⟨N,t,σ',mv⟩) ?_ h;intro j0 j a w hr;subst hσ;subst hc;obtain⟨h1,h2,h3⟩:=hr.dA.PZ (sz:=sz) (rows:=row) (p:=none);have hvl:v<σ.length:=(List.getElem?_eq_some_iff.1 hv).1;have hkl:k<cs.length:=(List.getElem?_eq_some_iff.1 hk).1;refine⟨j++[none],⟨hr.defers.mono h3,hr.jY,hr.size,fun q av hq=>⟨(hr.tmp q av hq).1,(hr.tmp q av hq).2.lZ h3 hr.dA.lt (dw _ _)⟩,⟨by simp[hr.dA.len],h1.lt,h1.inj,fun b x hx=> ?_⟩,by have:=hr.len0;simp;omega,fun c hc hn=> ?_⟩,h3⟩
 ·rw[←List.set_append_left _ _ hvl,List.getElem?_set] at hx;split at hx
  ·rename_i e;subst e;split at hx
   ·simp only[Option.some.injEq] at hx;subst hx;obtain⟨o,ho,hB⟩:=h1.blk v (.var cs) (by rw[List.getElem?_append_left hvl];exact hv);refine⟨o,ho,?_⟩;cases o with
    |none=>exact hB
    |some cb=>
     obtain⟨C,e,g1,g2,g3⟩:=hB;refine⟨C,e,g1,by simpa using g2,fun q hq=> ?_⟩;have hq':q<cs.length:=by simpa using hq
     have h0:=g3 q hq';by_cases hqk:q=k
     ·subst hqk;have e1:cs.getD q .undef= .d (.v (.slice none 0 0)):=by rw[List.getD_eq_getElem?_getD,hk];rfl
      rw[e1] at h0;have h0:=lM h0;rw[h0];have e2:(cs.set q (.ms σ.length sz 0 0)).getD q .undef= .ms σ.length sz 0 0:=by simp[List.getD_eq_getElem?_getD,hkl]
      rw[e2];exact h2
     ·have e2:(cs.set k (.ms σ.length sz 0 0)).getD q .undef=cs.getD q .undef:=by simp[List.getD_eq_getElem?_getD,Ne.symm hqk]
      rw[e2];exact h0
   ·simp at hx
  ·exact h1.blk b x hx
 ·have:=hr.len0;rw[List.getElem?_append_left (by omega)];exact hr.ag c hc hn
theorem bslM_sound{P:Program}{w:World}{j:Js}{σ:List aG}(hS:aT w j σ){t:TypeId}{len:Nat}{parts:List (Nat×AV)}{vals:List (Nat×Value)}{K:AV->Prop}(h:fE P t len parts K)
  (h3:parts.length=vals.length) (h4: ∀k,k<parts.length->(parts.getD k (0,.undef)).1=(vals.getD k (0,Go.undef)).1/\R w j (parts.getD k (0,.undef)).2 (vals.getD k (0,Go.undef)).2):
  ∃v w' j' sz row,(Instr.buildSlice t len vals.toArray).run P w= .ok v w'/\aT w' j' (σ++[.arr sz len row])/\R w' j' (.ms σ.length sz 0 len) v/\Ev j w j' w'/\j.length<=j'.length/\Ag j j' []/\K (.d (.sl (some len) sz len row)):=by
 unfold fE at h;split at h
 ·rename_i e sz bytes z hsl;obtain⟨hu,i,zz,hi,hz,hsz,hby,hzz,hzs⟩:=qZ hsl;obtain⟨hle,h⟩:=h;split at h
  ·rename_i r hr;split at h
   ·rename_i ds hds;obtain⟨hdl0,hds⟩:=LQ hds;subst hsz hby hzz;simp only[Nat.ble_eq] at hle;have hrl:(rep zz.cells.toList len).length=len*i.size:=by rw[FU];simp[hzs]
    have hini: ∀k,k<((rep zz.cells.toList len).map fun v=>AV.d (.v v)).length->R w j (((rep zz.cells.toList len).map fun v=>AV.d (.v v)).getD k .undef) ((madeCells zz.cells (len*i.size)).getD k Go.undef):=by
     intro k hk;simp only[List.length_map,hrl] at hk;have hsz:0<i.size:=by
      rcases Nat.eq_zero_or_pos i.size with hh|hh
      ·rw[hh] at hk;simp at hk
      ·exact hh
     have e1:((rep zz.cells.toList len).map fun v=>AV.d (.v v)).getD k .undef=AV.d (.v ((rep zz.cells.toList len).getD k Go.undef)):=by
      simp[List.getD_eq_getElem?_getD,show k<(rep zz.cells.toList len).length by omega]
     rw[e1,QG _ _ _ (by simpa[hzs] using hk),KZ hk (by omega)];have e2:zz.cells.toList.getD (k%zz.cells.toList.length) Go.undef=zz.cells.getD (k%zz.cells.size) Go.undef:=by
      simp[List.getD_eq_getElem?_getD,Array.getD_eq_getD_getElem?]
     rw[e2];exact .d (.v _)
    obtain⟨C',f1,f2,f3,f4⟩:=uV (w:=w) (j:=j) (pl:=fun q=>some (q*i.size,i.size)) (C:=madeCells zz.cells (len*i.size)) (fun q x hx=>by
      simp only[List.getElem?_map,Option.map_eq_some_iff] at hx;obtain⟨q',hq',rfl⟩:=hx;obtain⟨hlt,he⟩:=List.getElem?_eq_some_iff.1 hq';simp at he;rw[he]) (by rw[size_madeCells];simp[hrl]) hini h3 h4 hr
    have hdl:ds.length=len*i.size:=by
     have:r.length=len*i.size:=by rw[f3];simp[hrl]
     rw[hdl0];exact this
    have hrun:(Instr.buildSlice t len vals.toArray).run P w= .ok (.slice (some ⟨w.heap.size,0,none⟩) len len) (w.alloc (.cells C' e)):=by
     have hgt: ¬(16777216<len*i.size):=by omega
     by_cases h0:len*i.size=0
     ·have hm:(Array.range 0).map (fun q=>(#[]:Array Value)[q%(#[]:Array Value).size]!)=madeCells zz.cells (len*i.size):=by rw[h0];simp[madeCells]
      simp only[Instr.buildSlice,Sem.run_bind,run_underlying hu,Result.andThen_ok,Go.sizeOf,typeInfo,run_program,hi,Sem.run_pure,h0,Sem.run_ite,if_true];rw[if_neg (by decide)];simp only[Result.andThen_ok,Sem.run_pure,hm,f1,newRow,Sem.run_bind,run_newObj];rfl
     ·simp only[Instr.buildSlice,Sem.run_bind,run_underlying hu,Result.andThen_ok,Go.sizeOf,typeInfo,run_program,hi,Sem.run_pure,h0,Sem.run_ite,if_false];rw[if_neg (by omega)];have hm:(Array.range (len*i.size)).map (fun q=>zz.cells[q%zz.cells.size]!)=madeCells zz.cells (len*i.size):=rfl;simp only[Result.andThen_ok,Sem.run_pure,zeroValue,typeInfo,Sem.run_bind,run_program,hi,hz,hm,f1,newRow,run_newObj];rfl
    have he0:Ev j w (j++[some w.heap.size]) (w.alloc (.cells C' e)):=rF _ _ _ _ _ (fun b hb hm=>by
     simp only[List.mem_append,List.mem_singleton,Option.some.injEq] at hm;rcases hm with hm|hm
     ·exact hm
     ·subst hm;exact absurd hb (by simp))
    have he:Ev j w j (w.alloc (.cells C' e)):=rF _ _ _ _ _ (fun _ _ h=>h);have hC:C'.size=len*i.size:=by rw[f2,f3];simp[hrl]
    obtain⟨g1,g2⟩:=hS.alloc C' e (.arr i.size len (rowsOf i.size ds)) ⟨_,e,.mk0 (heap_alloc_new _ _),by rw[hC];exact Nat.le_refl _,fun q hq=>⟨by
      have:(q+1)*i.size<=len*i.size:=Nat.mul_le_mul_right _ hq;rw[Nat.succ_mul] at this;simp[rowsOf,hdl];omega,fun k hk=>by
      have hle2:(q+1)*i.size<=len*i.size:=Nat.mul_le_mul_right _ hq;rw[Nat.succ_mul] at hle2;have hlt:q*i.size+k<r.length:=by rw[f3];simp[hrl];omega
      have:=hds hlt (f4 _ hlt);have e2:(rowsOf i.size ds q).getD k default=ds.getD (q*i.size+k) default:=by
       simp[rowsOf,List.getD_eq_getElem?_getD,hk]
      rw[e2];exact this.mono he0⟩⟩
    refine⟨_,_,_,_,_,hrun,g1,?_,g2,by simp,dw _ _,h⟩;have hms:R (w.alloc (.cells C' e)) (j++[some w.heap.size]) (.ms σ.length i.size 0 len) (.slice (some ⟨w.heap.size,0*i.size,none⟩) len len):=by
     refine .ms _ e (len*i.size) ?_ ?_ (by omega) (by simp)
     ·rw[List.getElem?_append_right (by rw[hS.len];omega)];simp[hS.len]
     ·rw[oM (heap_alloc_new _ _),hC]
    rwa [Nat.zero_mul] at hms
   ·exact h.elim
  ·exact h.elim
 ·exact h.elim
def litK(P:Program)(o:Oper)(s:St)(K:St->Prop):Prop:=
 match o.op,o.guard with
 | .buildSlice t len ps,none=>wU true s ps.toList fun parts=>fE P t len parts fun av=>match av with
  | .d (.sl _ sz n row)=>K ((s.after (s.σ++[.arr sz n row]) []).put o.dst (.ms s.σ.length sz 0 n))
  |_=>False
 |_,_=>False
def RV(P:Program)(all:List Oper):List Oper->Nat->St->(St->Prop)->Prop
 |[],_,s,K=>K s
 |o::os,0,s,K=>litK P o s fun s'=>bH P false all os s' K
 |o::os,i+1,s,K=>jQ all s o fun gd g=>WY P false gd g o s fun s'=>RV P all os i s' K
def RestL(P:Program)(all os:List Oper)(i:Nat)(K:St->Prop)(s:St):Prop:=RV P all os i s K
theorem evalL_zero(P:Program)(all os:List Oper)(o:Oper)(s:St)(K:St->Prop):RV P all (o::os) 0 s K=litK P o s (Rest P false all os K):=rfl
theorem evalL_cons(P:Program)(all os:List Oper)(i:Nat)(o:Oper)(s:St)(K:St->Prop):RV P all (o::os) (i+1) s K=jQ all s o fun gd g=>WY P false gd g o s (RestL P all os i K):=rfl
theorem RestL_mk(P:Program)(all os:List Oper)(i:Nat)(K:St->Prop)(N:Nat)(t:List (Nat×AV))(σ:List aG)(mv:List Nat):RestL P all os i K ⟨N,t,σ,mv⟩=RV P all os i ⟨N,t,σ,mv⟩ K:=rfl
theorem litK_sound{P:Program}{o:Oper}{s:St}{K:St->Prop}(h:litK P o s K):Runs P o s K:=by
 unfold litK at h;split at h
 ·rename_i t len ps ho hg;obtain⟨parts,h,hl,hp⟩:=oV h;intro j0 j a w next Q hr hn
  obtain⟨v,w',j',sz,row,h1,h2,h3,h4,h5,h6,h7⟩:=bslM_sound (P:=P) (vals:=ps.toList.map fun p=>(p.1,a.eval p.2)) hr.dA h (by simpa using hl) (fun k hk=>by
   have hk':k<ps.toList.length:=by rw[←hl];exact hk
   have:=hp k hk';have e:(ps.toList.map fun p=>(p.1,a.eval p.2)).getD k (0,Go.undef)=((ps.toList.getD k (0,.const Go.undef)).1,a.eval (ps.toList.getD k (0,.const Go.undef)).2):=by
    have hk2:k<ps.size:=by simpa using hk'
    simp[List.getD_eq_getElem?_getD,hk2]
   rw[e];exact⟨this.1,this.2 rfl j0 j a w hr⟩)
  have e:(ps.toList.map fun p=>(p.1,a.eval p.2)).toArray=ps.map fun(i,x)=>(i,a.eval x):=by
   apply Array.ext';simp
  rw[e] at h1;have hrun:(execOp a.eval o).run P w= .ok (.value v) w':=by simp only[execOp,ho];exact iI h1
  refine xg (by simp[ho]) hrun ?_;exact hn _ _ _ _ ((hr.after h4 h2 h5 h6).put o.dst h3) h4 h7
 ·exact h.elim
theorem Dj{P:Program}{Q:Exit->Act->World->Prop}{all:List Oper} : ∀{os:List Oper} {i:Nat} {s:St} {K:St->Prop} {j0:J0} {j:Js} {a:Act} {w:World},RV P all os i s K->(∀o,os[i]? =some o->o.guard=none)->Rel j0 s j a w->
  (∀s' j' a' w',Rel j0 s' j' a' w'->Ev j w j' w'->K s'->Q .normal a' w')->wpListIn (FW j0.rd) 0 P all.toArray Q os a w
 |[],i,s,K,j0,j,a,w,h,_,hr,hQ=>hQ s j a w hr (.refl _ _) h
 |o::os,0,s,K,j0,j,a,w,h,hgn,hr,hQ=>by
  have hw:Region.wanted o (yielded all.toArray a.tmps)=true:=by simp[Region.wanted,hgn o rfl]
  simp only[wpListIn,hw,if_true];exact(litK_sound h) j0 j a w _ _ hr fun s' j' a' w' hr' he hK=>mG hK hr' fun s'' j'' a'' w'' Xm he' hK'=>hQ s'' j'' a'' w'' Xm (he.trans he') hK'
 |o::os,i+1,s,K,j0,j,a,w,h,hgn,hr,hQ=>by
  obtain⟨gd,g,h,hgd,hw⟩:=rE h;obtain⟨h1,h2⟩:=Eb h hgd;have hw:=hw hr;simp only[wpListIn,hw];cases g with
  |true=>
   simp only[if_true];exact(h1 rfl j0 j a w _ _ hr fun s' j' a' w' hr' he hK=>Dj hK (fun o ho=>hgn o ho) hr' fun s'' j'' a'' w'' Xm he' hK'=>hQ s'' j'' a'' w'' Xm (he.trans he') hK')
  |false=>
   simp only[Bool.false_eq_true,if_false];obtain⟨s',hK,hs⟩:=h2 rfl;exact⟨fun _ _=>trivial,Dj hK (fun o ho=>hgn o ho) (hs j0 j a w hr) hQ⟩
theorem awp_lit_seq{P:Program}{Q:Exit->St->Prop}{s:St}{id:Nat}{ops:List Oper}{y:Code}(i:Nat)(hg: ∀o,ops[i]? =some o->o.guard=none)(h: ∀K:St->Prop,(∀s',fA P y Q s'->K s')->RV P ops ops i s K):fA P (.seq (.region id ops.toArray false) y) Q s:=by
 refine aK ?_;intro j0 j a w hr;refine wpIn_region_lit (Dj (h _ fun _ h=>h) hg hr fun s' j' a' w' hr' he hq=>⟨s',j',hr',he,hq⟩)
attribute [go_sem ↓] evalL_zero evalL_cons RestL_mk litK
end Go.aU
namespace Go.aU.App1
open Go.aU
open Go.aU.Mix (xH kC GU fG bI qw BI)
def actX(P:Program)(o:Oper)(s:St)(K:AV->List aG->List Nat->Prop):Prop:=
 match o.op with
 | .call c=>(match c.callee with
  | .builtin .append=>(match c.args.toList,c.argTypes.toList with
   |[x,y],[t,t']=>arg true s x fun x=>arg true s y fun y=>Eo P s.σ t t' x y K
   |_,_=>False)
  |_=>False)
 |_=>False
theorem actX_sound{P:Program}{all:List Oper}{o:Oper}{s:St}{K:AV->List aG->List Nat->Prop}(h:actX P o s K){j0:J0}{j:Js}{a:Act}{w:World}{next:Act->World->Prop}{Q:Exit->Act->World->Prop}
  (hr:Rel j0 (s.bD (looks all o)) j a w) (hn: ∀v w' r σ' j' X,aT w' j' σ'->R w' j' r v->Ev j w j' w'->Ag j j' X->j.length<=j'.length->K r σ' X->next (a.put o.dst v) w'):o.wpIn (FW j0.rd) 0 P a w next Q:=by
 have o9:aT w j s.σ:=hr.dA;have mem: ∀x∈o.op.operands,∀t,x= .tmp t->t∈looks all o:=fun x hx t ht=>List.mem_append.2 (.inl (uN hx ht));unfold actX at h;split at h
 ·rename_i c ho;split at h
  ·rename_i hb;split at h
   ·rename_i x y t t' hxy ht;have hx0:x∈o.op.operands:=by
     simp only[ho,Op.operands,Call.operands,Array.mem_append];right;have:x∈c.args.toList:=by rw[hxy];simp
     simpa using this
    have hy0:y∈o.op.operands:=by
     simp only[ho,Op.operands,Call.operands,Array.mem_append];right;have:y∈c.args.toList:=by rw[hxy];simp
     simpa using this
    rw[←aN (mem x hx0)] at h;obtain⟨xa,h,hx⟩:=aB h;rw[←aN (mem y hy0)] at h;obtain⟨ya,h,hy⟩:=aB h;obtain⟨v,w',j',r,σ',X,h1,h2,h3,h4,h5,h6,h7⟩:=wY (P:=P) (ty:=o.type) o9 h (hx rfl j0 j a w hr) (hy rfl j0 j a w hr);have hrun:(execOp a.eval o).run P w= .ok (.value v) w':=by
     have e1:c.args.map a.eval= #[a.eval x,a.eval y]:=by
      have:c.args= #[x,y]:=by apply Array.ext';simpa using hxy
      rw[this];simp
     have e2:c.argTypes= #[t,t']:=by apply Array.ext';simpa using ht
     simp only[execOp,ho,resolve,hb];simp[invoke,builtin,e1,e2,h1]
    refine xg (by simp[ho]) hrun ?_;exact hn v w' r σ' j' X h2 h3 h4 h6 h5 h7
   ·exact h.elim
  ·exact h.elim
 ·exact h.elim
def U8(X:List Nat)(t1:List (Nat×AV))(d:Tmp):List (Nat×AV)->Prop
 |[]=>True
 |(k,av)::t=>(k=d\/match get t1 k with
  |some av0=>av= .undef\/(av=av0/\av.avoids X=true)
  |none=>False)/\U8 X t1 d t
theorem U7{X:List Nat}{t1:List (Nat×AV)}{d:Tmp} : ∀{t:List (Nat×AV)},U8 X t1 d t->∀k av,get t k=some av->k≠d->∃av0,get t1 k=some av0/\(av= .undef\/(av=av0/\av.avoids X=true))
 |[],_,k,av,h,_=>by simp[get] at h
 |(q,u)::t,hl,k,av,h,hk=>by
  simp only[get] at h;split at h
  ·rename_i e;obtain rfl:=Nat.eq_of_beq_eq_true e;obtain rfl:=Option.some.inj h;rcases hl.1 with h1|h1
   ·exact absurd h1 hk
   ·split at h1
    ·rename_i av0 h2;exact⟨av0,h2,h1⟩
    ·exact h1.elim
  ·exact U7 hl.2 k av h hk
structure Two where
 t1:List (Nat×AV)
 t2:List (Nat×AV)
 σ':List aG
 X:List Nat
def Two.dA(z:Two)(s:St)(b:Bool):List aG:=if b then z.σ' else s.σ
def Two.tp(z:Two)(b:Bool):List (Nat×AV):=if b then z.t2 else z.t1
def Two.ti(z:Two)(s:St)(b:Bool):List (Nat×AV):=if b then cZ z.X s.t else s.t
def Two.mv(z:Two)(s:St)(b:Bool):List Nat:=if b then s.mv++z.X else s.mv
structure InvX(s:St)(ops:List Oper)(m ia:Nat)(z:Two)(j0:J0)(listed:Array Bool)(j:Js)(a:Act)(w:World):Prop extends Core s.N (z.ti s (listed.getD ia false)) (z.tp (listed.getD ia false)) (fun _=>True) ops m j0 listed j a w where
 dA:aT w j (z.dA s (listed.getD ia false))
 len0:j0.js.length<=j.length
 ag:Ag j0.js j (z.mv s (listed.getD ia false))
theorem scrub_get{X:List Nat}{t:List (Nat×AV)}{k:Nat}{av:AV}(h:get (cZ X t) k=some av):get t k=some av/\av.avoids X=true:=by
 induction t with
 |nil=>simp[cZ,get] at h
 |cons x t ih=>
  obtain⟨q,u⟩:=x;simp only[cZ] at h;split at h
  ·rename_i hu;simp only[get] at h⊢;split at h
   ·rename_i e;obtain rfl:=Option.some.inj h;rw[if_pos e];exact⟨rfl,hu⟩
   ·rename_i e;rw[if_neg e];exact ih h
  ·rw[Ef] at h;split at h
   ·cases h
   ·rename_i hq;have:=ih h;simp only[get];rw[if_neg (by simpa using hq)];exact this
section
variable {P : Program} {ops : List Oper} {m ia : Nat}
structure PureX(P:Program)(s:St)(ops:List Oper)(m ia:Nat)(z:Two)(r:AV)(sk:List Nat):Prop where
 at_: ∀b:Bool,∃xs:Nat->AV,(dK ⟨s.N,z.ti s b,z.dA s b,z.mv s b⟩ (ops.take m) xs m).t=z.tp b/\(b=true->xs ia=r)/\
  ∀i o,i<m->ops[i]? =some o->i≠ia->(b=true->xH sk i=false)->Local P ops o ⟨s.N,(dK ⟨s.N,z.ti s b,z.dA s b,z.mv s b⟩ (ops.take m) xs i).t,z.dA s b,z.mv s b⟩ (xs i)
structure OwnX(P:Program)(ops:List Oper)(m ia:Nat)(s:St)(z:Two)(d:Tmp)(r:AV)(sk:List Nat):Prop where
 al: ∃oa,ops[ia]? =some oa/\actX P oa ⟨s.N,z.t1,s.σ,s.mv⟩ fun r' σ' X=>r'=r/\σ'=z.σ'/\X=z.X
 link:U8 z.X z.t1 d z.t2
 inN:d<s.N
 res:get z.t2 d=some r
theorem phaseX(hok:dY ops m=true)(hmn:m<=ops.length){d:Tmp}{sk:List Nat}(hch:fG ops m [(ia,some d)]=true)(hsk:qw ops m [(ia,some d)] [sk]=true){Q:Exit->St->Prop}{j0:J0}{j1:Js}{w1:World}{s:St}{z:Two}{r:AV}
  (hW:OwnX P ops m ia s z d r sk) (hP:PureX P s ops m ia z r sk)
  (hK:bH P false ops (ops.drop m) ⟨s.N,z.t2,z.σ',s.mv++z.X⟩ (Q .normal)):
  ∀(fuel:Nat) (j:Js) (a:Act) (w:World) (listed:Array Bool),left listed ops.length=fuel->InvX s ops m ia z j0 listed j a w->Ev j1 w1 j w->wpAnyIn (FW j0.rd) 0 P .any ops.toArray (FD j0 j1 w1 Q) fuel listed a w:=by
 obtain⟨oa,hoa0,hgd,hdst0,hlt0,hself,wo,_⟩:=bI hch (k:=0) (by simp);have hoa:ops[ia]? =some oa:=hoa0;have hlt:ia<m:=hlt0;have hdst:oa.dst=some d:=hdst0;clear hoa0 hlt0 hdst0;refine WV hok hmn (InvX s ops m ia z j0) (fun hI=>⟨_,_,_,_,hI.toCore⟩) ?_ ?_
 ·intro listed j a w hI hdone;have hia:listed.getD ia false=true:=by rw[jv hI.lsize (by omega)];exact hdone ia hlt
  have h1:=hI.dA;have h2:=hI.ag;have hC:=hI.toCore;rw[hia] at h1 h2 hC;obtain⟨xs,hxs,_,_⟩:=hP.at_ true;exact⟨⟨s.N,z.t2,z.σ',s.mv++z.X⟩,⟨hI.defers,hI.jY,hI.size,fun k av hk=>hC.done hxs hdone hk,h1,hI.len0,h2⟩,hK⟩
 ·intro listed j a w i o next hI him ho h0 hall hn
  have hil:i<ops.length:=by omega
  have Xl:i<listed.size:=by rw[hI.lsize];exact hil
  by_cases hia:i=ia
  ·
   subst hia;obtain⟨ob,hob,hact⟩:=hW.al;obtain rfl:o=oa:=by rw[ho] at hoa;exact Option.some.inj hoa
   obtain rfl:o=ob:=by rw[ho] at hob;exact Option.some.inj hob
   have hnl:listed.getD i false=false:=by rw[jv hI.lsize hil];exact h0
   have g1:=hI.dA;have g2:=hI.ag;have hC:=hI.toCore;rw[hnl] at g1 g2 hC;obtain⟨xs,hxs,_,_⟩:=hP.at_ false;have hr:Rel j0 ((⟨s.N,z.t1,s.σ,s.mv⟩:St).bD (looks ops o)) j a w:=by
    refine⟨hI.defers,hI.jY,hI.size,fun k av hk=> ?_,g1,hI.len0,g2⟩;simp only[St.bD,iU] at hk;split at hk
    ·rename_i hkl;exact hC.late hok hmn hxs him ho hall hself wo (by simpa using hkl) hk
    ·simp at hk
   have hw:Region.wanted o (yielded ops.toArray a.tmps)=true:=by simp[Region.wanted,hgd]
   rw[if_pos hw];refine actX_sound hact hr fun v w' r' σ' j' X h6 h7 h8 h9 h10 h11=> ?_;obtain⟨rfl,rfl,rfl⟩:=h11;have mono: ∀{av:AV} {x:Value},R w j av x->av.avoids z.X=true->R w' j' av x:=fun hR ha=>hR.mono h8 hI.dA.lt h9 ha;have hli:(listed.setIfInBounds i true).getD i false=true:=by simp[Xl]
   refine hn j' v w' ⟨?_,by rw[hli];exact h6,Nat.le_trans hI.len0 h10,?_⟩ h8
   ·rw[hli];refine hC.step hok hmn him ho hall h8 (fun k av hk hne=> ?_) (fun k av hk=> ?_) (fun k av hk hgt=> ?_)
    ·obtain⟨av0,k1,k2⟩:=U7 hW.link k av hk (fun h=>hne (by rw[hdst,h]));refine⟨av0,k1,fun x hx=> ?_⟩;rcases k2 with rfl|⟨rfl,k2⟩
     ·exact .undef _
     ·exact mono hx k2
    ·obtain⟨k1,k2⟩:=scrub_get (X:=z.X) (t:=s.t) hk;exact⟨av,k1,fun x h1 h2=>⟨h1,mono h2 k2⟩⟩
    ·rw[hdst] at hk;obtain rfl:=Option.some.inj hk;have hk2:get z.t2 d=some av:=hgt;rw[hW.res] at hk2;obtain rfl:=Option.some.inj hk2;exact⟨hW.inN,h7⟩
   ·rw[hli];intro b hb hn;have hn':b∉s.mv/\b∉z.X:=by simpa[Two.mv] using hn
    rw[h9 b (by have:=hI.len0;omega) hn'.2];exact g2 b hb hn'.1
  ·
   have hbe:(listed.setIfInBounds i true).getD ia false=listed.getD ia false:=by rw[getD_set_ne false hia]
   obtain⟨xs,hxs,hxa,hloc⟩:=hP.at_ (listed.getD ia false);have hns:listed.getD ia false=true->xH sk i=false:=by
    intro hl;rw[←Bool.not_eq_true];intro hs;obtain⟨ob,hob,_,hd⟩:=BI hsk (k:=0) (by simp) hs;have:=hI.toCore.far (fun e he1 he2=>hI.cl ia ob hlt hob (by rw[←jv hI.lsize (by omega)];exact hl) e he1 he2) hd;rw[jv hI.lsize hil,h0] at this;cases this
   have hL:=hloc i o him ho hia hns;have hrel:Rel j0 ((⟨s.N,(dK ⟨s.N,z.ti s (listed.getD ia false),z.dA s (listed.getD ia false),z.mv s (listed.getD ia false)⟩ (ops.take m) xs i).t,z.dA s (listed.getD ia false),z.mv s (listed.getD ia false)⟩:St).bD (looks ops o)) j a w:=by
    refine⟨hI.defers,hI.jY,hI.size,fun k av hk=> ?_,hI.dA,hI.len0,hI.ag⟩;simp only[St.bD,iU] at hk;split at hk
    ·rename_i hkl;exact hI.toCore.looks hok hmn hxs him ho h0 hall (by simpa using hkl) hk
    ·simp at hk
   have hval: ∀(w':World) (v:Value),R w' j (xs i) v->∀k av,o.dst=some k->get (z.tp (listed.getD ia false)) k=some av->k<s.N/\R w' j av v:=by
    intro w' v hr k av hk hgt;rw[←hxs,mF hok hmn him ho hk him (Nat.le_refl _)] at hgt;split at hgt
    ·rename_i hlt;obtain rfl:xs i=av:=Option.some.inj hgt;exact⟨hlt,hr⟩
    ·simp at hgt
   have step: ∀(w':World) (v:Value),aT w' j (z.dA s (listed.getD ia false))->Ev j w j w'->(∀k av,o.dst=some k->get (z.tp (listed.getD ia false)) k=some av->k<s.N/\R w' j av v)->next (a.put o.dst v) w':=by
    intro w' v o9 hev hv;have mono: ∀{av:AV} {v:Value},R w j av v->R w' j av v:=fun hR=>hR.lZ hev hI.dA.lt (.refl _ _);exact hn j v w' ⟨by rw[hbe];exact hI.toCore.step hok hmn him ho hall hev (fun k av h _=>⟨av,h,fun _=>mono⟩) (fun k av h=>⟨av,h,fun _ h1 h2=>⟨h1,mono h2⟩⟩) hv,by rw[hbe];exact o9,hI.len0,by rw[hbe];exact hI.ag⟩ hev
   by_cases hw:Region.wanted o (yielded ops.toArray a.tmps)=true
   ·rw[if_pos hw];exact hL.run j0 j a w _ _ hrel hw fun w' v h1 h2 h3=>step w' v h1 h2 (hval w' v h3)
   ·rw[if_neg hw];exact step w Go.undef hI.dA (.refl _ _) (hval w _ (hL.skip j0 j a w hrel (by simpa using hw)))
end
theorem awp_app{P:Program}{Q:Exit->St->Prop}{N:Nat}{t:List (Nat×AV)}{σ:List aG}{mv:List Nat}{id:Nat}{ops:List Oper}(m ia d:Nat)(r:AV)(σ':List aG)(X:List Nat)(sk:List Nat)(hm:P.follows .mixedOrders=true)(hok:(dY ops m&&Nat.ble m ops.length&&(fG ops m [(ia,some d)]&&qw ops m [(ia,some d)] [sk]))=true){t1 t2:List (Nat×AV)}
  (h1: ∀K:St->Prop,(∀σ' mv',K ⟨N,t1,σ',mv'⟩)->kC P ops [(ia,.undef)] [] [] (ops.take m) 0 ⟨N,t,σ,mv⟩ K)
  (hN:d<N)
  (h2:match sV ops ia with
   |some oa=>actX P oa ⟨N,t1,σ,mv⟩ fun r0 pY X0=>r0=r/\pY=σ'/\X0=X
   |none=>False)
  (h4: ∀K:St->Prop,(∀σ' mv',K ⟨N,t2,σ',mv'⟩)->kC P ops [(ia,r)] sk (cZ X t1) (ops.take m) 0 ⟨N,cZ X t,σ',mv++X⟩ K)
  (h5:U8 X t1 d t2/\get t2 d=some r)
  (h3:bH P false ops (ops.drop m) ⟨N,t2,σ',mv++X⟩ (Q .normal)):fA P (.region id ops.toArray true) Q ⟨N,t,σ,mv⟩:=by
 intro j0 j a w hr;simp only[Bool.and_eq_true,Nat.ble_eq] at hok;obtain⟨⟨hok,hmn⟩,hch,hsk⟩:=hok;obtain⟨oa,hoa,_,_,hlt,_⟩:=bI hch (k:=0) (by simp);have hoa:ops[ia]? =some oa:=hoa;have hlt:ia<m:=hlt;rw[jA,hoa] at h2;have mk: ∀(b:Bool) (r0:AV) (sk0:List Nat) (t0:List (Nat×AV)),(b=true->r0=r/\sk0=sk)->(b=false->sk0=[])->(∀K:St->Prop,(∀pY mv',K ⟨N,(⟨t1,t2,σ',X⟩:Two).tp b,pY,mv'⟩)->kC P ops [(ia,r0)] sk0 t0 (ops.take m) 0 ⟨N,(⟨t1,t2,σ',X⟩:Two).ti ⟨N,t,σ,mv⟩ b,(⟨t1,t2,σ',X⟩:Two).dA ⟨N,t,σ,mv⟩ b,(⟨t1,t2,σ',X⟩:Two).mv ⟨N,t,σ,mv⟩ b⟩ K)->
   ∃xs:Nat->AV,(dK ⟨N,(⟨t1,t2,σ',X⟩:Two).ti ⟨N,t,σ,mv⟩ b,(⟨t1,t2,σ',X⟩:Two).dA ⟨N,t,σ,mv⟩ b,(⟨t1,t2,σ',X⟩:Two).mv ⟨N,t,σ,mv⟩ b⟩ (ops.take m) xs m).t=(⟨t1,t2,σ',X⟩:Two).tp b/\(b=true->xs ia=r)/\
    ∀i o,i<m->ops[i]? =some o->i≠ia->(b=true->xH sk i=false)->Local P ops o ⟨N,(dK ⟨N,(⟨t1,t2,σ',X⟩:Two).ti ⟨N,t,σ,mv⟩ b,(⟨t1,t2,σ',X⟩:Two).dA ⟨N,t,σ,mv⟩ b,(⟨t1,t2,σ',X⟩:Two).mv ⟨N,t,σ,mv⟩ b⟩ (ops.take m) xs i).t,(⟨t1,t2,σ',X⟩:Two).dA ⟨N,t,σ,mv⟩ b,(⟨t1,t2,σ',X⟩:Two).mv ⟨N,t,σ,mv⟩ b⟩ (xs i):=by
  intro b r0 sk0 t0 hb hb0 h;have h:=h (fun s'=>s'.t=(⟨t1,t2,σ',X⟩:Two).tp b) (fun _ _=>rfl);have hlen:(ops.take m).length=m:=by simp;omega
  obtain⟨xs,hK,hia,hloc⟩:=GU h;refine⟨xs,by rw[hlen] at hK;exact hK,fun hb1=>(hia ia r0 (by simp[aU.get])).trans (hb hb1).1,fun i o him ho hne hsk=> ?_⟩;have h3:=hloc i o (by rw[kR him];exact ho) (by simp[aU.get,show ¬ia=i from fun h=>hne h.symm]) (by
   rw[Nat.zero_add];cases b with
   |true=>rw[(hb rfl).2];exact hsk rfl
   |false=>rw[hb0 rfl];rfl)
  have hext:=Steps.uz ⟨N,(⟨t1,t2,σ',X⟩:Two).ti ⟨N,t,σ,mv⟩ b,(⟨t1,t2,σ',X⟩:Two).dA ⟨N,t,σ,mv⟩ b,(⟨t1,t2,σ',X⟩:Two).mv ⟨N,t,σ,mv⟩ b⟩ ((⟨t1,t2,σ',X⟩:Two).dA ⟨N,t,σ,mv⟩ b) (ops.take m) xs i;rw[hext] at h3;exact h3
 have hP:PureX P ⟨N,t,σ,mv⟩ ops m ia ⟨t1,t2,σ',X⟩ r sk:=⟨fun b=>by
  cases b with
  |false=>exact mk false .undef [] [] (fun h=>by cases h) (fun _=>rfl) (fun K hK=>h1 K hK)
  |true=>exact mk true r sk (cZ X t1) (fun _=>⟨rfl,rfl⟩) (fun h=>by cases h) (fun K hK=>h4 K hK)⟩
 have hr':Rel j0 ⟨N,t,σ,mv⟩ j a w.drew:=hr.after (iO j w) hr.dA.drew (Nat.le_refl _) (.refl _ []);have hfi:(Array.replicate ops.toArray.size false).getD ia false=false:=by simp[show ia<ops.length by omega]
 refine wpIn_region_any hm (phaseX hok hmn hch hsk ⟨⟨oa,hoa,h2⟩,h5.1,hN,h5.2⟩ hP h3 _ j a w.drew _ ?_ ⟨by rw[hfi];exact .start hmn hr' fun _ _ _=>trivial,by rw[hfi];exact hr'.dA,hr'.len0,by rw[hfi];exact hr'.ag⟩ (iO j w));rw[yZ];simp
theorem NW{P:Program}{Q:Exit->St->Prop}{N:Nat}{t:List (Nat×AV)}{σ:List aG}{mv:List Nat}{id:Nat}{ops:List Oper}(m ia d:Nat)(r:AV)(σ':List aG)(X:List Nat)(sk:List Nat)(hm:P.follows .mixedOrders=true)(hok:(dY ops m&&Nat.ble m ops.length&&(fG ops m [(ia,some d)]&&qw ops m [(ia,some d)] [sk]))=true){t1 t2:List (Nat×AV)}
  (h1: ∀K:St->Prop,(∀σ' mv',K ⟨N,t1,σ',mv'⟩)->kC P ops [(ia,.undef)] [] [] (ops.take m) 0 ⟨N,t,σ,mv⟩ K)
  (hN:d<N)
  (h2:match sV ops ia with
   |some oa=>actX P oa ⟨N,t1,σ,mv⟩ fun r0 pY X0=>r0=r/\pY=σ'/\X0=X
   |none=>False)
  (h4: ∀K:St->Prop,(∀σ' mv',K ⟨N,t2,σ',mv'⟩)->kC P ops [(ia,r)] sk (cZ X t1) (ops.take m) 0 ⟨N,cZ X t,σ',mv++X⟩ K)
  (h5:U8 X t1 d t2/\get t2 d=some r)
  (h3: ∀K:St->Prop,(∀s',Q .normal s'->K s')->bH P false ops (ops.drop m) ⟨N,t2,σ',mv++X⟩ K):fA P (.region id ops.toArray true) Q ⟨N,t,σ,mv⟩:=
 awp_app m ia d r σ' X sk hm hok h1 hN h2 h4 h5 (h3 _ fun s' h=>h)
attribute [go_sem ↓] actX
attribute [go_sem] U8
end Go.aU.App1
namespace Go.aU.Apd
open Go.aU
def apdK(P:Program)(o:Oper)(s:St)(K:St->Prop):Prop:=
 match o.op,o.guard with
 | .call c,none=>(match c.callee with
  | .builtin .append=>(match c.args.toList,c.argTypes.toList with
   |[x,y],[t,t']=>arg true s x fun x=>arg true s y fun y=>wI P s.σ t t' x y fun av=>K (s.put o.dst av)
   |_,_=>False)
  |_=>False)
 |_,_=>False
def RX(P:Program)(all:List Oper):List Oper->Nat->St->(St->Prop)->Prop
 |[],_,s,K=>K s
 |o::os,0,s,K=>apdK P o s fun s'=>bH P false all os s' K
 |o::os,i+1,s,K=>jQ all s o fun gd g=>WY P false gd g o s fun s'=>RX P all os i s' K
def RestD(P:Program)(all os:List Oper)(i:Nat)(K:St->Prop)(s:St):Prop:=RX P all os i s K
theorem evalD_zero(P:Program)(all os:List Oper)(o:Oper)(s:St)(K:St->Prop):RX P all (o::os) 0 s K=apdK P o s (Rest P false all os K):=rfl
theorem evalD_cons(P:Program)(all os:List Oper)(i:Nat)(o:Oper)(s:St)(K:St->Prop):RX P all (o::os) (i+1) s K=jQ all s o fun gd g=>WY P false gd g o s (RestD P all os i K):=rfl
theorem RestD_mk(P:Program)(all os:List Oper)(i:Nat)(K:St->Prop)(N:Nat)(t:List (Nat×AV))(σ:List aG)(mv:List Nat):RestD P all os i K ⟨N,t,σ,mv⟩=RX P all os i ⟨N,t,σ,mv⟩ K:=rfl
theorem apdK_sound{P:Program}{o:Oper}{s:St}{K:St->Prop}(h:apdK P o s K):Runs P o s K:=by
 unfold apdK at h;split at h
 ·rename_i c ho hg;split at h
  ·rename_i hb;split at h
   ·rename_i x y t t' hxy ht;obtain⟨xa,h,hx⟩:=aB h;obtain⟨ya,h,hy⟩:=aB h;intro j0 j a w next Q hr hn
    obtain⟨v,w',r,h1,h2,h3,h4,h5⟩:=FC (P:=P) (ty:=o.type) hr.dA h (hx rfl j0 j a w hr) (hy rfl j0 j a w hr);have hrun:(execOp a.eval o).run P w= .ok (.value v) w':=by
     have e1:c.args.map a.eval= #[a.eval x,a.eval y]:=by
      have:c.args= #[x,y]:=by apply Array.ext';simpa using hxy
      rw[this];simp
     have e2:c.argTypes= #[t,t']:=by apply Array.ext';simpa using ht
     simp only[execOp,ho,resolve,hb];simp[invoke,builtin,e1,e2,h1]
    refine xg (by simp[ho]) hrun ?_;exact hn _ _ _ _ ((hr.after h4 h2 (Nat.le_refl _) (.refl _ [])).put o.dst h3) h4 h5
   ·exact h.elim
  ·exact h.elim
 ·exact h.elim
theorem Dk{P:Program}{Q:Exit->Act->World->Prop}{all:List Oper} : ∀{os:List Oper} {i:Nat} {s:St} {K:St->Prop} {j0:J0} {j:Js} {a:Act} {w:World},RX P all os i s K->(∀o,os[i]? =some o->o.guard=none)->Rel j0 s j a w->
  (∀s' j' a' w',Rel j0 s' j' a' w'->Ev j w j' w'->K s'->Q .normal a' w')->wpListIn (FW j0.rd) 0 P all.toArray Q os a w
 |[],i,s,K,j0,j,a,w,h,_,hr,hQ=>hQ s j a w hr (.refl _ _) h
 |o::os,0,s,K,j0,j,a,w,h,hgn,hr,hQ=>by
  have hw:Region.wanted o (yielded all.toArray a.tmps)=true:=by simp[Region.wanted,hgn o rfl]
  simp only[wpListIn,hw,if_true];exact(apdK_sound h) j0 j a w _ _ hr fun s' j' a' w' hr' he hK=>mG hK hr' fun s'' j'' a'' w'' Xm he' hK'=>hQ s'' j'' a'' w'' Xm (he.trans he') hK'
 |o::os,i+1,s,K,j0,j,a,w,h,hgn,hr,hQ=>by
  obtain⟨gd,g,h,hgd,hw⟩:=rE h;obtain⟨h1,h2⟩:=Eb h hgd;have hw:=hw hr;simp only[wpListIn,hw];cases g with
  |true=>
   simp only[if_true];exact(h1 rfl j0 j a w _ _ hr fun s' j' a' w' hr' he hK=>Dk hK (fun o ho=>hgn o ho) hr' fun s'' j'' a'' w'' Xm he' hK'=>hQ s'' j'' a'' w'' Xm (he.trans he') hK')
  |false=>
   simp only[Bool.false_eq_true,if_false];obtain⟨s',hK,hs⟩:=h2 rfl;exact⟨fun _ _=>trivial,Dk hK (fun o ho=>hgn o ho) (hs j0 j a w hr) hQ⟩
theorem awp_apd_end{P:Program}{Q:Exit->St->Prop}{s:St}{id:Nat}{ops:List Oper}(i:Nat)(hg: ∀o,ops[i]? =some o->o.guard=none)(h: ∀K:St->Prop,(∀s',Q .normal s'->K s')->RX P ops ops i s K):fA P (.region id ops.toArray false) Q s:=by
 intro j0 j a w hr;refine wpIn_region_lit (Dk (h _ fun _ h=>h) hg hr fun s' j' a' w' hr' he hq=>⟨s',j',hr',he,hq⟩)
attribute [go_sem ↓] evalD_zero evalD_cons RestD_mk apdK
end Go.aU.Apd
