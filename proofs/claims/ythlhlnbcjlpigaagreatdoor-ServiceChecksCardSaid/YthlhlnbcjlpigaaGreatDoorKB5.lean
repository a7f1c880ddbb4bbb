/- Contracts and lemmas, joined out of smaller texts by a program; no conditions. -/
import Derived.Test.YthlhlnbcjlpigaaGreatDoorKB2
import Derived.Shelf.SlSortCmp.WholeK
import Derived.Shelf.SlGeneric
import Derived.Shelf.SlLaysF
import Derived.Ground.SlsfProg
import Derived.Test.YthlhlnbcjlpigaaGreatDoorProg
import Derived.Below
import Derived.Shelf.Strings.Repeat
import Derived.Shelf.Strconv.Itoa3
import Derived.Shelf.Sort.Plain
import Derived.Shelf.Strings.Search3
import Derived.Shelf.GgClosure.StringsRunes
import Derived.Ground.NamesProg
import Derived.Ground.GgwProg
import Derived.Laws.RangeString
import Derived.Laws.RangeAny
import Derived.Shelf.GgClosure.StringsIndexFunc
import Derived.Lib.IndexMore
import Derived.ProofKit
import Derived.OpenShut
import Derived.ShutString
import Derived.ChangeOld
import Derived.Carry
import Derived.Deep.Slices
set_option linter.unusedVariables false
set_option linter.unusedSimpArgs false
namespace Go.aU
open Go.Sort Go.Proofs
section
variable {α : Type} [Inhabited α] {enc : α -> List Value} {k : Nat}
end
end Go.aU
namespace Go.Proofs
open Go.Shelf
def Tryz.sortRule_ren:Go.Shelf.Ren:=⟨fun|6=>474|15=>129|14=>480|28=>188|29=>189|20=>481|21=>482|22=>483|23=>484|24=>485|25=>486|26=>487|27=>488|46=>489|47=>249|48=>250|49=>490|50=>491|57=>492|n=>n,fun|22=>23|24=>168|25=>497|3=>3|39=>206|0=>0|53=>244|55=>246|4=>4|46=>237|45=>236|50=>201|5=>5|9=>9|66=>265|70=>269|76=>345|77=>346|n=>n,fun|n=>n⟩
theorem Tryz.sortRule:Go.Proofs.SlLaysF0.n6 Tryz.prog Tryz.sortRule_ren:= {
 mixed:=by kernel_rfl
 f6:=⟨Tryz.f474.name,by decide,Tryz.func474.trans (congrArg some (by kernel_rfl))⟩
 f14:=⟨Tryz.f480.name,by decide,Tryz.func480.trans (congrArg some (by kernel_rfl))⟩
 f15:=Tryz.func129.trans (congrArg some (by kernel_rfl))
 f20:=⟨Tryz.f481.name,by decide,Tryz.func481.trans (congrArg some (by kernel_rfl))⟩
 f21:=⟨Tryz.f482.name,by decide,Tryz.func482.trans (congrArg some (by kernel_rfl))⟩
 f22:=⟨Tryz.f483.name,by decide,Tryz.func483.trans (congrArg some (by kernel_rfl))⟩
 f23:=⟨Tryz.f484.name,by decide,Tryz.func484.trans (congrArg some (by kernel_rfl))⟩
 f24:=⟨Tryz.f485.name,by decide,Tryz.func485.trans (congrArg some (by kernel_rfl))⟩
 f25:=⟨Tryz.f486.name,by decide,Tryz.func486.trans (congrArg some (by kernel_rfl))⟩
 f26:=⟨Tryz.f487.name,by decide,Tryz.func487.trans (congrArg some (by kernel_rfl))⟩
 f27:=⟨Tryz.f488.name,by decide,Tryz.func488.trans (congrArg some (by kernel_rfl))⟩
 f28:=Tryz.func188.trans (congrArg some (by kernel_rfl))
 f29:=Tryz.func189.trans (congrArg some (by kernel_rfl))
 f46:=⟨Tryz.f489.name,by decide,Tryz.func489.trans (congrArg some (by kernel_rfl))⟩
 f47:=Tryz.func249.trans (congrArg some (by kernel_rfl))
 f48:=Tryz.func250.trans (congrArg some (by kernel_rfl))
 f49:=⟨Tryz.f490.name,by decide,Tryz.func490.trans (congrArg some (by kernel_rfl))⟩
 f50:=⟨Tryz.f491.name,by decide,Tryz.func491.trans (congrArg some (by kernel_rfl))⟩
 f57:=⟨Tryz.f492.name,by decide,Tryz.func492.trans (congrArg some (by kernel_rfl))⟩
 t0:=Tryz.underlying0
 a0:=Tryz.isAgg0
 z0:=Tryz.sizeOf0
 v0:=Tryz.zeroValue0
 t3:=Tryz.underlying3
 a3:=Tryz.isAgg3
 z3:=Tryz.sizeOf3
 v3:=Tryz.zeroValue3
 t4:=Tryz.underlying4
 a4:=Tryz.isAgg4
 z4:=Tryz.sizeOf4
 v4:=Tryz.zeroValue4
 t5:=Tryz.underlying5
 a5:=Tryz.isAgg5
 z5:=Tryz.sizeOf5
 v5:=Tryz.zeroValue5
 t9:=Tryz.underlying9
 a9:=Tryz.isAgg9
 z9:=Tryz.sizeOf9
 v9:=Tryz.zeroValue9
 t22:=Tryz.underlying23
 a22:=Tryz.isAgg23
 z22:=Tryz.sizeOf23
 v22:=Tryz.zeroValue23
 t25:=Tryz.underlying497
 a25:=Tryz.isAgg497
 z25:=Tryz.sizeOf497
 v25:=Tryz.zeroValue497
 t39:=Tryz.underlying206
 a39:=Tryz.isAgg206
 z39:=Tryz.sizeOf206
 v39:=Tryz.zeroValue206
 t45:=Tryz.underlying236
 a45:=Tryz.isAgg236
 z45:=Tryz.sizeOf236
 v45:=Tryz.zeroValue236
 t46:=Tryz.underlying237
 a46:=Tryz.isAgg237
 z46:=Tryz.sizeOf237
 v46:=Tryz.zeroValue237
 t50:=Tryz.underlying201
 a50:=Tryz.isAgg201
 z50:=Tryz.sizeOf201
 v50:=Tryz.zeroValue201
 t53:=Tryz.underlying244
 a53:=Tryz.isAgg244
 z53:=Tryz.sizeOf244
 v53:=Tryz.zeroValue244
 t55:=Tryz.underlying246
 a55:=Tryz.isAgg246
 z55:=Tryz.sizeOf246
 v55:=Tryz.zeroValue246
 t66:=Tryz.underlying265
 a66:=Tryz.isAgg265
 z66:=Tryz.sizeOf265
 v66:=Tryz.zeroValue265
 t70:=Tryz.underlying269
 a70:=Tryz.isAgg269
 z70:=Tryz.sizeOf269
 v70:=Tryz.zeroValue269
 t76:=Tryz.underlying345
 a76:=Tryz.isAgg345
 z76:=Tryz.sizeOf345
 v76:=Tryz.zeroValue345
 t77:=Tryz.underlying346
 a77:=Tryz.isAgg346
 z77:=Tryz.sizeOf346
 v77:=Tryz.zeroValue346 }
def Tryz.sortU_ren:Go.Shelf.Ren:=⟨fun|6=>243|15=>129|14=>314|28=>188|29=>189|20=>357|21=>358|22=>359|23=>360|24=>361|25=>362|26=>363|27=>364|46=>391|47=>249|48=>250|49=>392|50=>393|57=>417|n=>n,fun|22=>65|24=>3|25=>264|3=>3|39=>206|0=>0|53=>244|55=>246|4=>4|46=>237|45=>236|50=>201|5=>5|9=>9|66=>265|70=>269|76=>345|77=>346|n=>n,fun|n=>n⟩
theorem Tryz.sortU:Go.Proofs.SlLaysF.n6 Tryz.prog Tryz.sortU_ren:= {
 mixed:=by kernel_rfl
 f6:=⟨Tryz.f243.name,by decide,Tryz.func243.trans (congrArg some (by kernel_rfl))⟩
 f14:=⟨Tryz.f314.name,by decide,Tryz.func314.trans (congrArg some (by kernel_rfl))⟩
 f15:=Tryz.func129.trans (congrArg some (by kernel_rfl))
 f20:=⟨Tryz.f357.name,by decide,Tryz.func357.trans (congrArg some (by kernel_rfl))⟩
 f21:=⟨Tryz.f358.name,by decide,Tryz.func358.trans (congrArg some (by kernel_rfl))⟩
 f22:=⟨Tryz.f359.name,by decide,Tryz.func359.trans (congrArg some (by kernel_rfl))⟩
 f23:=⟨Tryz.f360.name,by decide,Tryz.func360.trans (congrArg some (by kernel_rfl))⟩
 f24:=⟨Tryz.f361.name,by decide,Tryz.func361.trans (congrArg some (by kernel_rfl))⟩
 f25:=⟨Tryz.f362.name,by decide,Tryz.func362.trans (congrArg some (by kernel_rfl))⟩
 f26:=⟨Tryz.f363.name,by decide,Tryz.func363.trans (congrArg some (by kernel_rfl))⟩
 f27:=⟨Tryz.f364.name,by decide,Tryz.func364.trans (congrArg some (by kernel_rfl))⟩
 f28:=Tryz.func188.trans (congrArg some (by kernel_rfl))
 f29:=Tryz.func189.trans (congrArg some (by kernel_rfl))
 f46:=⟨Tryz.f391.name,by decide,Tryz.func391.trans (congrArg some (by kernel_rfl))⟩
 f47:=Tryz.func249.trans (congrArg some (by kernel_rfl))
 f48:=Tryz.func250.trans (congrArg some (by kernel_rfl))
 f49:=⟨Tryz.f392.name,by decide,Tryz.func392.trans (congrArg some (by kernel_rfl))⟩
 f50:=⟨Tryz.f393.name,by decide,Tryz.func393.trans (congrArg some (by kernel_rfl))⟩
 f57:=⟨Tryz.f417.name,by decide,Tryz.func417.trans (congrArg some (by kernel_rfl))⟩
 t0:=Tryz.underlying0
 a0:=Tryz.isAgg0
 z0:=Tryz.sizeOf0
 v0:=Tryz.zeroValue0
 t3:=Tryz.underlying3
 a3:=Tryz.isAgg3
 z3:=Tryz.sizeOf3
 v3:=Tryz.zeroValue3
 t4:=Tryz.underlying4
 a4:=Tryz.isAgg4
 z4:=Tryz.sizeOf4
 v4:=Tryz.zeroValue4
 t5:=Tryz.underlying5
 a5:=Tryz.isAgg5
 z5:=Tryz.sizeOf5
 v5:=Tryz.zeroValue5
 t9:=Tryz.underlying9
 a9:=Tryz.isAgg9
 z9:=Tryz.sizeOf9
 v9:=Tryz.zeroValue9
 t22:=Tryz.underlying65
 a22:=Tryz.isAgg65
 z22:=Tryz.sizeOf65
 v22:=Tryz.zeroValue65
 a24:=Tryz.isAgg3
 z24:=Tryz.sizeOf3
 t25:=Tryz.underlying264
 a25:=Tryz.isAgg264
 z25:=Tryz.sizeOf264
 v25:=Tryz.zeroValue264
 t39:=Tryz.underlying206
 a39:=Tryz.isAgg206
 z39:=Tryz.sizeOf206
 v39:=Tryz.zeroValue206
 t45:=Tryz.underlying236
 a45:=Tryz.isAgg236
 z45:=Tryz.sizeOf236
 v45:=Tryz.zeroValue236
 t46:=Tryz.underlying237
 a46:=Tryz.isAgg237
 z46:=Tryz.sizeOf237
 v46:=Tryz.zeroValue237
 t50:=Tryz.underlying201
 a50:=Tryz.isAgg201
 z50:=Tryz.sizeOf201
 v50:=Tryz.zeroValue201
 t53:=Tryz.underlying244
 a53:=Tryz.isAgg244
 z53:=Tryz.sizeOf244
 v53:=Tryz.zeroValue244
 t55:=Tryz.underlying246
 a55:=Tryz.isAgg246
 z55:=Tryz.sizeOf246
 v55:=Tryz.zeroValue246
 t66:=Tryz.underlying265
 a66:=Tryz.isAgg265
 z66:=Tryz.sizeOf265
 v66:=Tryz.zeroValue265
 t70:=Tryz.underlying269
 a70:=Tryz.isAgg269
 z70:=Tryz.sizeOf269
 v70:=Tryz.zeroValue269
 t76:=Tryz.underlying345
 a76:=Tryz.isAgg345
 z76:=Tryz.sizeOf345
 v76:=Tryz.zeroValue345
 t77:=Tryz.underlying346
 a77:=Tryz.isAgg346
 z77:=Tryz.sizeOf346
 v77:=Tryz.zeroValue346 }
end Go.Proofs
namespace Go.aU
open Go.RowKit
theorem ba_loop(b:ByteArray): ∀(k i:Nat) (r:List UInt8),b.size-i=k->ByteArray.toList.loop b i r=r.reverse++b.data.toList.drop i:=by
 intro k;induction k with
 |zero=>
  intro i r h;unfold ByteArray.toList.loop;rw[if_neg (by omega)];have:b.data.toList.drop i=[]:=by
   rw[List.drop_eq_nil_iff,Array.length_toList];have:b.data.size=b.size:=rfl;omega
  rw[this];simp
 |succ k ih=>
  intro i r h;unfold ByteArray.toList.loop;have hi:i<b.size:=by omega
  rw[if_pos hi,ih (i+1) _ (by omega)];have hd:i<b.data.toList.length:=by rw[Array.length_toList];exact hi
  rw[List.drop_eq_getElem_cons hd];have:b.get! i=b.data.toList[i]:=by
   have h2:b.get! i=b.data[i]! :=rfl;rw[h2,getElem!_pos b.data i (by exact hi)];simp
  rw[this];simp
theorem Tv(b:ByteArray):b.toList=b.data.toList:=by
 have:=ba_loop b (b.size-0) 0 [] rfl;unfold ByteArray.toList;rw[this];simp
theorem ba_inj{a b:ByteArray}(h:a.toList=b.toList):a=b:=by
 rw[Tv,Tv] at h;cases a;cases b;simp at h;rw[h]
theorem ba_eq_iff{a b:ByteArray} :a.toList=b.toList↔a=b:=⟨ba_inj,fun h=>by rw[h]⟩
attribute [simp] ba_eq_iff
theorem below_rel{w w':World}{j:Js}{σ:List aC}(hb:Below w.heap.size w w')(hS:aS w j σ):aS w' j σ/\Ev j w j w':=by
 have hk:=hb.block;have he:Ev j w j w':=⟨hb.size,fun b h _=>hk b h,fun _ _ h=>h,fun b h=>by simp[World.shape?,hk b h],fun a h=>by simp[World.frozen?,hk _ h],hb.os,hb.tape,hb.output,
  fun b r h=>⟨r,by rw[hk b (Array.getElem?_eq_some_iff.1 h).1];exact h⟩⟩
 refine⟨⟨hS.len,fun b cb h=>Nat.lt_of_lt_of_le (hS.lt b cb h) hb.size,hS.inj,fun b x hx=> ?_⟩,he⟩;obtain⟨o,ho,hB⟩:=hS.blk b x hx;exact⟨o,ho,hB.mono he hS.lt (.refl _ _) fun cb h=>hk cb (hS.lt b cb (by rw[ho,h]))⟩
theorem ay.FV{P:Program}{f:FuncId}{args:List AV}{σ:List aC}{r:Value}(hen:dO P f=true)(vals:Array Value)(hargs: ∀w j vs,Rs w j args vs->vs=vals)
  (h: ∀w j,aS w j σ->Calls P f vals w fun e w'=>e= .returned r/\Below w.heap.size w w'):ay P f args σ (.d (.v r)):=by
 refine⟨hen,fun j w vs hs hr=> ?_⟩;rw[hargs w j vs hr];refine(h w j hs).mono fun e w' ⟨he,hb⟩=> ?_;obtain⟨h1,h2⟩:=below_rel hb hs;exact⟨r,.d (.v r),σ,j,[],he,h1,.d (.v r),h2,Nat.le_refl _,.refl _ _,rfl,rfl,rfl⟩
theorem rs_vals1{w:World}{j:Js}{a:AV}{v:Value}{vs:Array Value}(h:Rs w j [a] vs)(ha: ∀u,R w j a u->u=v):vs= #[v]:=by
 have h0:=ha _ (by simpa using h.2 0 (by simp));apply Array.ext
 ·simpa using h.1
 ·intro i h1 h2;have hi:i=0:=by simpa using h2
  subst hi;simp only[h1,Array.getElem?_eq_getElem,Option.getD_some] at h0;simpa using h0
theorem MZ{w:World}{j:Js}{a b:AV}{v u:Value}{vs:Array Value}(h:Rs w j [a,b] vs)(ha: ∀x,R w j a x->x=v)(hb: ∀x,R w j b x->x=u):vs= #[v,u]:=by
 have h0:=ha _ (by simpa using h.2 0 (by simp));have h1:=hb _ (by simpa using h.2 1 (by simp));have hs:vs.size=2:=by simpa using h.1
 apply Array.ext
 ·simpa using hs
 ·intro i h2 h3;simp only[show 0<vs.size by omega,show 1<vs.size by omega,Array.getElem?_eq_getElem,Option.getD_some] at h0 h1;have hi:i=0\/i=1:=by simp at h3;omega
  rcases hi with rfl|rfl
  ·simpa using h0
  ·simpa using h1
theorem CS.sub{P:Program}{f:FuncId}{args args':List AV}{σ:List aC}{Q:AV->List aC->List Nat->Prop}(h:CS P f args' σ Q)(hs:xZ args args'):CS P f args σ Q:=by
 obtain⟨h1,h2⟩:=Eb hs;exact⟨h.1,fun j w vs hS hr=>h.2 j w vs hS ⟨by rw[h1];exact hr.1,fun k hk=>h2 k (by rw[←h1];exact hk) _ _ _ (hr.2 k (by rw[←h1];exact hk))⟩⟩
theorem ay.sub{P:Program}{f:FuncId}{args args':List AV}{σ:List aC}{r:AV}(h:ay P f args' σ r)(hs:xZ args args'):ay P f args σ r:=CS.sub h hs
theorem loc_cell{w:World}{j:Js}{σ:List aC}(hS:aS w j σ){b c:Nat}(h:σ[b]? =some (.loc c)): ∃m,w.cell? ⟨c,0,none⟩=some (.int .i64 m):=by
 obtain⟨o,_,hB⟩:=hS.blk b _ h;cases o<;>exact hB.2.2.2
theorem aO{σ τ:List aC}{b:Nat}{x:aC}(h:σ[b]? =some x):(σ++τ)[b]? =some x:=by
 rw[List.getElem?_append_left (List.getElem?_eq_some_iff.1 h).1];exact h
end Go.aU
namespace Go.Proofs
open Go.Shelf
def Tryz.strRepeat_ren:Go.Shelf.Ren:=⟨fun|105=>356|212=>385|99=>386|165=>387|166=>388|170=>389|169=>390|263=>412|264=>413|206=>414|240=>415|241=>416|276=>431|277=>432|n=>n,fun|9=>9|3=>3|4=>4|20=>20|0=>0|46=>206|109=>405|5=>5|72=>409|76=>413|51=>244|146=>437|53=>246|148=>439|70=>407|37=>271|75=>412|127=>441|164=>452|80=>343|n=>n,fun|n=>n⟩
theorem Tryz.strRepeat:Go.Proofs.Lays.n105 Tryz.prog Tryz.strRepeat_ren:= {
 mixed:=by kernel_rfl
 f99:=Tryz.func386.trans (congrArg some (by kernel_rfl))
 f105:=Tryz.func356.trans (congrArg some (by kernel_rfl))
 f165:=Tryz.func387.trans (congrArg some (by kernel_rfl))
 f166:=Tryz.func388.trans (congrArg some (by kernel_rfl))
 f169:=Tryz.func390.trans (congrArg some (by kernel_rfl))
 f170:=Tryz.func389.trans (congrArg some (by kernel_rfl))
 f206:=Tryz.func414.trans (congrArg some (by kernel_rfl))
 f212:=Tryz.func385.trans (congrArg some (by kernel_rfl))
 f240:=Tryz.func415.trans (congrArg some (by kernel_rfl))
 f241:=Tryz.func416.trans (congrArg some (by kernel_rfl))
 f263:=Tryz.func412.trans (congrArg some (by kernel_rfl))
 f264:=Tryz.func413.trans (congrArg some (by kernel_rfl))
 f276:=Tryz.func431.trans (congrArg some (by kernel_rfl))
 f277:=Tryz.func432.trans (congrArg some (by kernel_rfl))
 t0:=Tryz.underlying0
 a0:=Tryz.isAgg0
 z0:=Tryz.sizeOf0
 v0:=Tryz.zeroValue0
 t3:=Tryz.underlying3
 a3:=Tryz.isAgg3
 z3:=Tryz.sizeOf3
 v3:=Tryz.zeroValue3
 t4:=Tryz.underlying4
 a4:=Tryz.isAgg4
 z4:=Tryz.sizeOf4
 v4:=Tryz.zeroValue4
 t5:=Tryz.underlying5
 a5:=Tryz.isAgg5
 z5:=Tryz.sizeOf5
 v5:=Tryz.zeroValue5
 t9:=Tryz.underlying9
 a9:=Tryz.isAgg9
 z9:=Tryz.sizeOf9
 v9:=Tryz.zeroValue9
 t20:=Tryz.underlying20
 a20:=Tryz.isAgg20
 z20:=Tryz.sizeOf20
 v20:=Tryz.zeroValue20
 t37:=Tryz.underlying271
 a37:=Tryz.isAgg271
 z37:=Tryz.sizeOf271
 v37:=Tryz.zeroValue271
 t46:=Tryz.underlying206
 a46:=Tryz.isAgg206
 z46:=Tryz.sizeOf206
 v46:=Tryz.zeroValue206
 t51:=Tryz.underlying244
 a51:=Tryz.isAgg244
 z51:=Tryz.sizeOf244
 v51:=Tryz.zeroValue244
 t53:=Tryz.underlying246
 a53:=Tryz.isAgg246
 z53:=Tryz.sizeOf246
 v53:=Tryz.zeroValue246
 t70:=Tryz.underlying407
 a70:=Tryz.isAgg407
 z70:=Tryz.sizeOf407
 v70:=Tryz.zeroValue407
 t72:=Tryz.underlying409
 a72:=Tryz.isAgg409
 z72:=Tryz.sizeOf409
 v72:=Tryz.zeroValue409
 t75:=Tryz.underlying412
 a75:=Tryz.isAgg412
 z75:=Tryz.sizeOf412
 v75:=Tryz.zeroValue412
 t76:=Tryz.underlying413
 a76:=Tryz.isAgg413
 z76:=Tryz.sizeOf413
 v76:=Tryz.zeroValue413
 t109:=Tryz.underlying405
 a109:=Tryz.isAgg405
 z109:=Tryz.sizeOf405
 v109:=Tryz.zeroValue405
 t127:=Tryz.underlying441
 a127:=Tryz.isAgg441
 z127:=Tryz.sizeOf441
 v127:=Tryz.zeroValue441
 t146:=Tryz.underlying437
 a146:=Tryz.isAgg437
 z146:=Tryz.sizeOf437
 v146:=Tryz.zeroValue437
 t148:=Tryz.underlying439
 a148:=Tryz.isAgg439
 z148:=Tryz.sizeOf439
 v148:=Tryz.zeroValue439
 t164:=Tryz.underlying452
 a164:=Tryz.isAgg452
 z164:=Tryz.sizeOf452
 v164:=Tryz.zeroValue452 }
def Tryz.itoa_ren:Go.Shelf.Ren:=⟨fun|171=>192|243=>254|246=>317|283=>365|284=>366|285=>367|286=>368|129=>189|317=>394|318=>395|319=>396|320=>397|337=>418|338=>419|n=>n,fun|3=>3|9=>9|2=>2|4=>4|171=>391|0=>0|53=>246|37=>271|5=>5|173=>393|212=>420|51=>244|20=>20|213=>421|46=>206|232=>455|233=>456|n=>n,fun|17=>0|18=>2|19=>3|n=>n⟩
theorem Tryz.itoa:Go.Proofs.LaysM.n171 Tryz.prog Tryz.itoa_ren:= {
 mixed:=by kernel_rfl
 f129:=Tryz.func189.trans (congrArg some (by kernel_rfl))
 f171:=Tryz.func192.trans (congrArg some (by kernel_rfl))
 f243:=Tryz.func254.trans (congrArg some (by kernel_rfl))
 f246:=Tryz.func317.trans (congrArg some (by kernel_rfl))
 f283:=Tryz.func365.trans (congrArg some (by kernel_rfl))
 f284:=Tryz.func366.trans (congrArg some (by kernel_rfl))
 f285:=Tryz.func367.trans (congrArg some (by kernel_rfl))
 f286:=Tryz.func368.trans (congrArg some (by kernel_rfl))
 f317:=Tryz.func394.trans (congrArg some (by kernel_rfl))
 f318:=Tryz.func395.trans (congrArg some (by kernel_rfl))
 f319:=Tryz.func396.trans (congrArg some (by kernel_rfl))
 f320:=Tryz.func397.trans (congrArg some (by kernel_rfl))
 f337:=Tryz.func418.trans (congrArg some (by kernel_rfl))
 f338:=Tryz.func419.trans (congrArg some (by kernel_rfl))
 t0:=Tryz.underlying0
 a0:=Tryz.isAgg0
 z0:=Tryz.sizeOf0
 v0:=Tryz.zeroValue0
 t2:=Tryz.underlying2
 a2:=Tryz.isAgg2
 z2:=Tryz.sizeOf2
 v2:=Tryz.zeroValue2
 t3:=Tryz.underlying3
 a3:=Tryz.isAgg3
 z3:=Tryz.sizeOf3
 v3:=Tryz.zeroValue3
 t4:=Tryz.underlying4
 a4:=Tryz.isAgg4
 z4:=Tryz.sizeOf4
 v4:=Tryz.zeroValue4
 t5:=Tryz.underlying5
 a5:=Tryz.isAgg5
 z5:=Tryz.sizeOf5
 v5:=Tryz.zeroValue5
 t9:=Tryz.underlying9
 a9:=Tryz.isAgg9
 z9:=Tryz.sizeOf9
 v9:=Tryz.zeroValue9
 t20:=Tryz.underlying20
 a20:=Tryz.isAgg20
 z20:=Tryz.sizeOf20
 v20:=Tryz.zeroValue20
 t37:=Tryz.underlying271
 a37:=Tryz.isAgg271
 z37:=Tryz.sizeOf271
 v37:=Tryz.zeroValue271
 t46:=Tryz.underlying206
 a46:=Tryz.isAgg206
 z46:=Tryz.sizeOf206
 v46:=Tryz.zeroValue206
 t51:=Tryz.underlying244
 a51:=Tryz.isAgg244
 z51:=Tryz.sizeOf244
 v51:=Tryz.zeroValue244
 t53:=Tryz.underlying246
 a53:=Tryz.isAgg246
 z53:=Tryz.sizeOf246
 v53:=Tryz.zeroValue246
 t171:=Tryz.underlying391
 a171:=Tryz.isAgg391
 z171:=Tryz.sizeOf391
 v171:=Tryz.zeroValue391
 t173:=Tryz.underlying393
 a173:=Tryz.isAgg393
 z173:=Tryz.sizeOf393
 v173:=Tryz.zeroValue393
 t212:=Tryz.underlying420
 a212:=Tryz.isAgg420
 z212:=Tryz.sizeOf420
 v212:=Tryz.zeroValue420
 t213:=Tryz.underlying421
 a213:=Tryz.isAgg421
 z213:=Tryz.sizeOf421
 t232:=Tryz.underlying455
 a232:=Tryz.isAgg455
 z232:=Tryz.sizeOf455
 v232:=Tryz.zeroValue455
 t233:=Tryz.underlying456
 a233:=Tryz.isAgg456
 z233:=Tryz.sizeOf456
 v233:=Tryz.zeroValue456
 g17:=by kernel_rfl
 g18:=by kernel_rfl
 g19:=by kernel_rfl
 i0:=by kernel_rfl
 i2:=by kernel_rfl
 i3:=by kernel_rfl
 i4:=by kernel_rfl
 i5:=by kernel_rfl
 i9:=by kernel_rfl
 i20:=by kernel_rfl
 i37:=by kernel_rfl
 i46:=by kernel_rfl
 i51:=by kernel_rfl
 i53:=by kernel_rfl
 i171:=by kernel_rfl
 i173:=by kernel_rfl
 i212:=by kernel_rfl
 i232:=by kernel_rfl
 i233:=by kernel_rfl
 m17:=by kernel_rfl
 m18:=by kernel_rfl
 m19:=by kernel_rfl }
def Tryz.sortInt_ren:Go.Shelf.Ren:=⟨fun|189=>72|125=>129|257=>128|128=>188|129=>189|294=>179|295=>180|296=>181|297=>182|298=>183|299=>184|216=>185|300=>186|301=>187|328=>248|329=>249|330=>250|331=>251|332=>252|215=>253|343=>316|n=>n,fun|28=>65|3=>3|46=>206|0=>0|51=>244|53=>246|4=>4|183=>237|182=>236|131=>201|5=>5|9=>9|218=>265|222=>269|228=>345|229=>346|n=>n,fun|n=>n⟩
theorem Tryz.sortInt:Go.Proofs.Lays.n189 Tryz.prog Tryz.sortInt_ren:= {
 mixed:=by kernel_rfl
 f125:=Tryz.func129.trans (congrArg some (by kernel_rfl))
 f128:=Tryz.func188.trans (congrArg some (by kernel_rfl))
 f129:=Tryz.func189.trans (congrArg some (by kernel_rfl))
 f189:=Tryz.func72.trans (congrArg some (by kernel_rfl))
 f215:=Tryz.func253.trans (congrArg some (by kernel_rfl))
 f216:=Tryz.func185.trans (congrArg some (by kernel_rfl))
 f257:=Tryz.func128.trans (congrArg some (by kernel_rfl))
 f294:=Tryz.func179.trans (congrArg some (by kernel_rfl))
 f295:=Tryz.func180.trans (congrArg some (by kernel_rfl))
 f296:=Tryz.func181.trans (congrArg some (by kernel_rfl))
 f297:=Tryz.func182.trans (congrArg some (by kernel_rfl))
 f298:=Tryz.func183.trans (congrArg some (by kernel_rfl))
 f299:=Tryz.func184.trans (congrArg some (by kernel_rfl))
 f300:=Tryz.func186.trans (congrArg some (by kernel_rfl))
 f301:=Tryz.func187.trans (congrArg some (by kernel_rfl))
 f328:=Tryz.func248.trans (congrArg some (by kernel_rfl))
 f329:=Tryz.func249.trans (congrArg some (by kernel_rfl))
 f330:=Tryz.func250.trans (congrArg some (by kernel_rfl))
 f331:=Tryz.func251.trans (congrArg some (by kernel_rfl))
 f332:=Tryz.func252.trans (congrArg some (by kernel_rfl))
 f343:=Tryz.func316.trans (congrArg some (by kernel_rfl))
 t0:=Tryz.underlying0
 a0:=Tryz.isAgg0
 z0:=Tryz.sizeOf0
 v0:=Tryz.zeroValue0
 t3:=Tryz.underlying3
 a3:=Tryz.isAgg3
 z3:=Tryz.sizeOf3
 v3:=Tryz.zeroValue3
 t4:=Tryz.underlying4
 a4:=Tryz.isAgg4
 z4:=Tryz.sizeOf4
 v4:=Tryz.zeroValue4
 t5:=Tryz.underlying5
 a5:=Tryz.isAgg5
 z5:=Tryz.sizeOf5
 v5:=Tryz.zeroValue5
 t9:=Tryz.underlying9
 a9:=Tryz.isAgg9
 z9:=Tryz.sizeOf9
 v9:=Tryz.zeroValue9
 t28:=Tryz.underlying65
 a28:=Tryz.isAgg65
 z28:=Tryz.sizeOf65
 v28:=Tryz.zeroValue65
 t46:=Tryz.underlying206
 a46:=Tryz.isAgg206
 z46:=Tryz.sizeOf206
 v46:=Tryz.zeroValue206
 t51:=Tryz.underlying244
 a51:=Tryz.isAgg244
 z51:=Tryz.sizeOf244
 v51:=Tryz.zeroValue244
 t53:=Tryz.underlying246
 a53:=Tryz.isAgg246
 z53:=Tryz.sizeOf246
 v53:=Tryz.zeroValue246
 t131:=Tryz.underlying201
 a131:=Tryz.isAgg201
 z131:=Tryz.sizeOf201
 v131:=Tryz.zeroValue201
 t182:=Tryz.underlying236
 a182:=Tryz.isAgg236
 z182:=Tryz.sizeOf236
 v182:=Tryz.zeroValue236
 t183:=Tryz.underlying237
 a183:=Tryz.isAgg237
 z183:=Tryz.sizeOf237
 v183:=Tryz.zeroValue237
 t218:=Tryz.underlying265
 a218:=Tryz.isAgg265
 z218:=Tryz.sizeOf265
 v218:=Tryz.zeroValue265
 t222:=Tryz.underlying269
 a222:=Tryz.isAgg269
 z222:=Tryz.sizeOf269
 v222:=Tryz.zeroValue269
 t228:=Tryz.underlying345
 a228:=Tryz.isAgg345
 z228:=Tryz.sizeOf345
 v228:=Tryz.zeroValue345
 t229:=Tryz.underlying346
 a229:=Tryz.isAgg346
 z229:=Tryz.sizeOf346
 v229:=Tryz.zeroValue346 }
def Tryz.strContains_ren:Go.Shelf.Ren:=⟨fun|144=>352|143=>382|219=>407|217=>426|225=>427|224=>428|267=>429|266=>449|314=>450|n=>n,fun|9=>9|4=>4|3=>3|5=>5|46=>206|146=>437|51=>244|n=>n,fun|1=>1|n=>n⟩
theorem Tryz.strContains:Go.Proofs.Lays.n144 Tryz.prog Tryz.strContains_ren:= {
 mixed:=by kernel_rfl
 f143:=Tryz.func382.trans (congrArg some (by kernel_rfl))
 f144:=Tryz.func352.trans (congrArg some (by kernel_rfl))
 f217:=Tryz.func426.trans (congrArg some (by kernel_rfl))
 f219:=Tryz.func407.trans (congrArg some (by kernel_rfl))
 f224:=Tryz.func428.trans (congrArg some (by kernel_rfl))
 f225:=Tryz.func427.trans (congrArg some (by kernel_rfl))
 f266:=Tryz.func449.trans (congrArg some (by kernel_rfl))
 f267:=Tryz.func429.trans (congrArg some (by kernel_rfl))
 f314:=Tryz.func450.trans (congrArg some (by kernel_rfl))
 t3:=Tryz.underlying3
 a3:=Tryz.isAgg3
 z3:=Tryz.sizeOf3
 v3:=Tryz.zeroValue3
 t4:=Tryz.underlying4
 a4:=Tryz.isAgg4
 z4:=Tryz.sizeOf4
 v4:=Tryz.zeroValue4
 t5:=Tryz.underlying5
 a5:=Tryz.isAgg5
 z5:=Tryz.sizeOf5
 v5:=Tryz.zeroValue5
 t9:=Tryz.underlying9
 a9:=Tryz.isAgg9
 z9:=Tryz.sizeOf9
 v9:=Tryz.zeroValue9
 t46:=Tryz.underlying206
 a46:=Tryz.isAgg206
 z46:=Tryz.sizeOf206
 v46:=Tryz.zeroValue206
 t51:=Tryz.underlying244
 a51:=Tryz.isAgg244
 z51:=Tryz.sizeOf244
 v51:=Tryz.zeroValue244
 t146:=Tryz.underlying437
 a146:=Tryz.isAgg437
 z146:=Tryz.sizeOf437
 v146:=Tryz.zeroValue437
 g1:=by kernel_rfl }
def Tryz.strContainsFunc_ren:Go.Shelf.Ren:=⟨fun|17=>353|15=>383|20=>408|n=>n,fun|9=>9|23=>379|4=>4|3=>3|0=>0|21=>21|n=>n,fun|n=>n⟩
theorem Tryz.strContainsFunc:Go.Proofs.LaysGw.n17 Tryz.prog Tryz.strContainsFunc_ren:= {
 mixed:=by kernel_rfl
 f15:=Tryz.func383.trans (congrArg some (by kernel_rfl))
 f17:=Tryz.func353.trans (congrArg some (by kernel_rfl))
 f20:=Tryz.func408.trans (congrArg some (by kernel_rfl))
 t0:=Tryz.underlying0
 a0:=Tryz.isAgg0
 z0:=Tryz.sizeOf0
 v0:=Tryz.zeroValue0
 i0:=by kernel_rfl
 t3:=Tryz.underlying3
 a3:=Tryz.isAgg3
 z3:=Tryz.sizeOf3
 v3:=Tryz.zeroValue3
 i3:=by kernel_rfl
 t4:=Tryz.underlying4
 a4:=Tryz.isAgg4
 z4:=Tryz.sizeOf4
 v4:=Tryz.zeroValue4
 i4:=by kernel_rfl
 t9:=Tryz.underlying9
 a9:=Tryz.isAgg9
 z9:=Tryz.sizeOf9
 v9:=Tryz.zeroValue9
 i9:=by kernel_rfl
 t21:=Tryz.underlying21
 a21:=Tryz.isAgg21
 z21:=Tryz.sizeOf21
 v21:=Tryz.zeroValue21
 i21:=by kernel_rfl
 t23:=Tryz.underlying379
 a23:=Tryz.isAgg379
 z23:=Tryz.sizeOf379
 v23:=Tryz.zeroValue379
 i23:=by kernel_rfl }
end Go.Proofs
namespace Go.bY
def bt(s:ByteArray)(i:Nat):Nat:=((s[i]?).getD 0).toNat
theorem PN{s:ByteArray}{i:Nat}(h:i<s.size):bt s i=(s[i]'h).toNat:=by unfold bt;rw[getElem?_pos s i h];rfl
def CY(c:Nat):Bool:=decide (c<32)||decide (126<c)
theorem idx_out(s:ByteArray): ∀f pos,s.size<=pos+f->(0<=Lib.idxFuncFrom CY true s f pos↔∃i,pos<=i/\i<s.size/\CY (bt s i)=true)
 |0,pos,h=>by
  simp only[Lib.idxFuncFrom];constructor
  ·intro h0;omega
  ·rintro⟨i,h1,h2,_⟩;omega
 |f+1,pos,h=>by
  simp only[Lib.idxFuncFrom];by_cases hp:pos<s.size
  ·rw[if_pos hp];by_cases ha:(s[pos]'hp).toNat<128
   ·rw[Go.decode_ascii s pos hp ha];simp only;rw[←PN hp];by_cases ho:CY (bt s pos)=true
    ·rw[if_pos ho];exact⟨fun _=>⟨pos,Nat.le_refl _,hp,ho⟩,fun _=>by omega⟩
    ·rw[if_neg ho,idx_out s f (pos+1) (by omega)];constructor
     ·rintro⟨i,h1,h2,h3⟩;exact⟨i,by omega,h2,h3⟩
     ·rintro⟨i,h1,h2,h3⟩;have:i≠pos:=fun e=>ho (e▸h3);exact⟨i,by omega,h2,h3⟩
   ·have hd:=(Go.decode_high s pos hp (by omega)).1;have ho:CY (Utf8.decode s pos).1=true:=by unfold CY;simp;omega
    rw[if_pos ho];refine⟨fun _=>⟨pos,Nat.le_refl _,hp,?_⟩,fun _=>by omega⟩;rw[PN hp];unfold CY;simp;omega
  ·rw[if_neg hp];constructor
   ·intro h0;omega
   ·rintro⟨i,h1,h2,_⟩;omega
theorem idx_two: ∀(l:List UInt8) (c:UInt8),0<=Lib.index l [c,c]↔∃i,l[i]? =some c/\l[i+1]? =some c
 |[],c=>by simp[Lib.index]
 |b::l,c=>by
  have ih:=idx_two l c;rw[Lib.index];by_cases hp:[c,c].isPrefixOf (b::l)=true
  ·rw[if_pos hp];simp only[Int.le_refl,true_iff];cases l with
   |nil=>simp[List.isPrefixOf] at hp
   |cons d l=>
    simp[List.isPrefixOf] at hp;exact⟨0,by simp[hp.1],by simp[hp.2]⟩
  ·rw[if_neg hp];have hge: ∀(l:List UInt8) (sub:List UInt8),-1<=Lib.index l sub:=by
    intro l sub;induction l with
    |nil=>rw[Lib.index];split<;>omega
    |cons b l ih=>
     rw[Lib.index];split;·omega
     split<;>omega
   have h1:=hge l [c,c];have h2:0<=(if(Lib.index l [c,c]== -1)=true then(-1:Int) else Lib.index l [c,c]+1)↔0<=Lib.index l [c,c]:=by
    by_cases he:Lib.index l [c,c]= -1
    ·rw[he];simp
    ·rw[if_neg (by simpa using he)];omega
   rw[h2,ih];constructor
   ·rintro⟨i,h3,h4⟩;exact⟨i+1,by simpa using h3,by simpa using h4⟩
   ·rintro⟨i,h3,h4⟩;cases i with
    |zero=>
     exfalso;apply hp;simp at h3 h4;cases l with
     |nil=>simp at h4
     |cons d l=>simp at h4;subst h3;subst h4;simp[List.isPrefixOf]
    |succ i=>exact⟨i,by simpa using h3,by simpa using h4⟩
theorem LP(s:ByteArray)(i:Nat)(hi:i<s.size)(c:UInt8):s.data.toList[i]? =some c↔bt s i=c.toNat:=by
 have e:s.data.toList[i]? =some (s[i]'hi):=by
  rw[Array.getElem?_toList];have:i<s.data.size:=hi;rw[Array.getElem?_eq_getElem this];rfl
 rw[e,PN hi,Option.some.injEq];exact⟨fun h=>by rw[h],fun h=>UInt8.toNat_inj.1 h⟩
theorem Vw(s:ByteArray):Lib.contains s.data.toList [32,32]=true↔∃i,i+1<s.size/\bt s i=32/\bt s (i+1)=32:=by
 unfold Lib.contains;rw[decide_eq_true_iff,idx_two];have hs:s.data.toList.length=s.size:=by rw[Array.length_toList];rfl
 constructor
 ·rintro⟨i,h1,h2⟩;have h3:i+1<s.size:=by rw[←hs];exact(List.getElem?_eq_some_iff.1 h2).1
  exact⟨i,h3,(LP s i (by omega) 32).1 h1,(LP s (i+1) h3 32).1 h2⟩
 ·rintro⟨i,h1,h2,h3⟩;exact⟨i,(LP s i (by omega) 32).2 h2,(LP s (i+1) h1 32).2 h3⟩
def nameAt(s:ByteArray)(i:Nat):Bool:=decide (32<=bt s i)&&decide (bt s i<=126)&& !(decide (0<i)&&decide (bt s i=32)&&decide (bt s (i-1)=32))
def mX(s:ByteArray):Bool:=decide (1<=s.size)&&decide (s.size<=64)&& !decide (bt s 0=32)&& !decide (bt s (s.size-1)=32)&&(List.range s.size).all (nameAt s)
theorem IG(s:ByteArray):mX s=true↔1<=s.size/\s.size<=64/\bt s 0≠32/\bt s (s.size-1)≠32/\(∀i,i<s.size->nameAt s i=true):=by
 unfold mX;simp[and_assoc]
theorem aar(s:ByteArray):mX s=(decide (1<=s.size)&&decide (s.size<=64)&& !decide (bt s 0=32)&& !decide (bt s (s.size-1)=32)&& !Lib.contains s.data.toList [32,32]&& !decide (0<=Lib.idxFunc CY true s)):=by
 have h1:=idx_out s s.size 0 (by omega);have h2:=Vw s;have key:(List.range s.size).all (nameAt s)=(!Lib.contains s.data.toList [32,32]&& !decide (0<=Lib.idxFunc CY true s)):=by
  rw[Bool.eq_iff_iff];simp only[List.all_eq_true,List.mem_range,Bool.and_eq_true,Bool.not_eq_true',decide_eq_false_iff_not];unfold Lib.idxFunc;rw[h1,←Bool.not_eq_true,h2];constructor
  ·intro h;refine⟨?_,?_⟩
   ·rintro⟨i,h3,h4,h5⟩;have:=h (i+1) h3;simp[nameAt,h4,h5] at this
   ·rintro⟨i,_,h3,h4⟩;have:=h i h3;simp[nameAt] at this;simp[CY] at h4;omega
  ·rintro⟨h3,h4⟩ i hi;have h5: ¬CY (bt s i)=true:=fun h=>h4 ⟨i,by omega,hi,h⟩;simp[CY] at h5;simp only[nameAt,Bool.and_eq_true,decide_eq_true_eq,Bool.not_eq_true',Bool.and_eq_false_iff,decide_eq_false_iff_not];refine⟨⟨by omega,by omega⟩,?_⟩;by_cases h0:0<i
   ·by_cases h6:bt s i=32
    ·right;intro h7;exact h3 ⟨i-1,by omega,h7,by rw[show i-1+1=i by omega];exact h6⟩
    ·left;right;exact h6
   ·left;left;exact h0
 unfold mX;rw[key];simp only[Bool.and_assoc]
end Go.bY
namespace Go.aU
theorem TA{P:Program}{c:Code}{Q:Exit->St->Prop}{N:Nat}{t:List (Nat×AV)}{σ σ':List aC}{mv:List Nat}(v k sz:Nat)(row:Nat->List D){cs cs':List AV}(hv:σ[v]? =some (.var cs))(hk:cs[k]? =some (.d (.v (.slice none 0 0))))(hc:cs.set k (.ms σ.length sz 0 0)=cs')(hσ:σ.set v (.var cs')++[.arr sz 0 row]=σ')
  (h:dY P c Q ⟨N,t,σ',mv⟩):dY P c Q ⟨N,t,σ,mv⟩:=by
 refine iW (s':=⟨N,t,σ',mv⟩) ?_ h;intro j0 j a w hr;subst hσ;subst hc;obtain⟨h1,h2,h3⟩:=hr.cZ.H8 (sz:=sz) (rows:=row) (p:=none);have hvl:v<σ.length:=(List.getElem?_eq_some_iff.1 hv).1;have hkl:k<cs.length:=(List.getElem?_eq_some_iff.1 hk).1;refine⟨j++[none],⟨hr.defers.mono h3,hr.jw,hr.size,fun q av hq=>⟨(hr.tmp q av hq).1,(hr.tmp q av hq).2.kM h3 hr.cZ.lt (bZ _ _)⟩,⟨by simp[hr.cZ.len],h1.lt,h1.inj,fun b x hx=> ?_⟩,by have:=hr.len0;simp;omega,fun c hc hn=> ?_⟩,h3⟩
 ·rw[←List.set_append_left _ _ hvl,List.getElem?_set] at hx;split at hx
  ·rename_i e;subst e;split at hx
   ·simp only[Option.some.injEq] at hx;subst hx;obtain⟨o,ho,hB⟩:=h1.blk v (.var cs) (by rw[List.getElem?_append_left hvl];exact hv);refine⟨o,ho,?_⟩;cases o with
    |none=>exact hB
    |some cb=>
     obtain⟨C,e,g1,g2,g3⟩:=hB;refine⟨C,e,g1,by simpa using g2,fun q hq=> ?_⟩;have hq':q<cs.length:=by simpa using hq
     have h0:=g3 q hq';by_cases hqk:q=k
     ·subst hqk;have e1:cs.getD q .undef= .d (.v (.slice none 0 0)):=by rw[List.getD_eq_getElem?_getD,hk];rfl
      rw[e1] at h0;have h0:=kD h0;rw[h0];have e2:(cs.set q (.ms σ.length sz 0 0)).getD q .undef= .ms σ.length sz 0 0:=by simp[List.getD_eq_getElem?_getD,hkl]
      rw[e2];exact h2
     ·have e2:(cs.set k (.ms σ.length sz 0 0)).getD q .undef=cs.getD q .undef:=by simp[List.getD_eq_getElem?_getD,Ne.symm hqk]
      rw[e2];exact h0
   ·simp at hx
  ·exact h1.blk b x hx
 ·have:=hr.len0;rw[List.getElem?_append_left (by omega)];exact hr.ag c hc hn
end Go.aU
namespace Go.aU.Steps
open Go.aU
open Go.aU.Mix (eu bG oL AL)
def actB(P:Program)(o:Oper)(s:St)(K:AV->List aC->Prop):Prop:=
 match o.op with
 | .mapEntry t m k=>arg true s m fun m=>arg true s k fun k=>entA P t s.σ m k K
 | .entryStore t m x v=>arg true s m fun m=>arg true s x fun x=>arg true s v fun v=>estA s.σ m x v fun σ'=>K .undef σ'
 | .store t p v=>arg true s p fun p=>arg true s v fun v=>qU P t s p v fun s'=>K .undef s'.σ
 | .extract x i=>pv P true s (.extract x i) fun av=>K av s.σ
 |_=>False
theorem actB_sound{P:Program}{all:List Oper}{o:Oper}{s:St}{K:AV->List aC->Prop}(h:actB P o s K){j0:J0}{j:Js}{a:Act}{w:World}{next:Act->World->Prop}{Q:Exit->Act->World->Prop}
  (hr:Rel j0 (s.bf (looks all o)) j a w) (hn: ∀v w' r σ',aS w' j σ'->R w' j r v->Ev j w j w'->K r σ'->next (a.put o.dst v) w'):o.wpIn (FW j0.rd) 0 P a w next Q:=by
 have mZ:aS w j s.σ:=hr.cZ;have mem: ∀x∈o.op.operands,∀t,x= .tmp t->t∈looks all o:=fun x hx t ht=>List.mem_append.2 (.inl (rG hx ht));unfold actB at h;split at h
 ·rename_i t m k ho;rw[←aP (mem m (by simp[ho,Op.operands]))] at h;obtain⟨ma,h,hm⟩:=aB h;rw[←aP (mem k (by simp[ho,Op.operands]))] at h;obtain⟨ka,h,hk⟩:=aB h;obtain⟨v,w',r,σ',h1,h2,h3,h4,h5⟩:=SS (P:=P) mZ h (hm rfl j0 j a w hr) (hk rfl j0 j a w hr);have hrun:(execOp a.eval o).run P w= .ok (.value v) w':=by
   simp only[execOp,ho];exact gW h1
  refine uM (by simp[ho]) hrun ?_;exact hn v w' r σ' h2 h3 h4 h5
 ·rename_i t m x v ho;rw[←aP (mem m (by simp[ho,Op.operands]))] at h;obtain⟨ma,h,hm⟩:=aB h;rw[←aP (mem x (by simp[ho,Op.operands]))] at h;obtain⟨xa,h,hx⟩:=aB h;rw[←aP (mem v (by simp[ho,Op.operands]))] at h;obtain⟨va,h,hv⟩:=aB h;obtain⟨w',σ',h1,h2,h3,h4⟩:=SN (P:=P) (t:=t) mZ h (hm rfl j0 j a w hr) (hx rfl j0 j a w hr) (hv rfl j0 j a w hr);have hrun:(execOp a.eval o).run P w= .ok .skip w':=by simp[execOp,ho,h1]
  refine uM (by simp[ho]) hrun ?_;exact hn _ w' _ σ' h2 (.undef _) h3 h4
 ·rename_i t p v ho;rw[←aP (mem p (by simp[ho,Op.operands]))] at h;obtain⟨pa,h,hp⟩:=aB h;rw[←aP (mem v (by simp[ho,Op.operands]))] at h;obtain⟨va,h,hv⟩:=aB h;unfold qU at h;split at h
  ·rename_i agg m ht;obtain⟨hone,hlen,h⟩:=h;split at h
   ·rename_i side σ' hst;obtain⟨hside,hK⟩:=h;obtain⟨w',h1,h2,h3⟩:=yX (P:=P) mZ ht (hp rfl j0 j a w hr) (hv rfl j0 j a w hr) hone hlen hst hside;have hrun:(execOp a.eval o).run P w= .ok .skip w':=by simp[execOp,ho,h1]
    refine uM (by simp[ho]) hrun ?_;exact hn _ w' _ σ' h2 (.undef _) h3 hK
   ·exact h.elim
  ·exact h.elim
 ·rename_i x i ho;rw[←Xm (by rw[←ho];exact mem)] at h;obtain⟨av,hK,hy⟩:=NT h;obtain⟨v,h1,h2⟩:=hy rfl j0 j a w o ho hr;refine uM (by simp[ho]) h1 ?_;exact hn v w av s.σ mZ h2 (.refl _ _) hK
 ·exact h.elim
def DW(P:Program)(all:List Oper)(is:List (Nat×Option Nat)):List Oper->Nat->St->(St->Prop)->Prop
 |[],_,s,K=>K s
 |o::os,i,s,K=>if wZ is i then DW P all is os (i+1) (s.put o.dst .undef) K
  else jA all s o fun gd g=>UK P true gd g o s fun s'=>DW P all is os (i+1) s' K
theorem unrollH{P:Program}{all:List Oper}{is:List (Nat×Option Nat)} : ∀{os:List Oper} {i0:Nat} {s:St} {K:St->Prop},DW P all is os i0 s K->
  ∃xs:Nat->AV,K (dF s os xs os.length)/\(∀i,wZ is (i0+i)=true->xs i= .undef)/\∀i o,os[i]? =some o->wZ is (i0+i)=false->Local P all o (dF s os xs i) (xs i)
 |[],i0,s,K,h=>⟨fun _=> .undef,h,fun _ _=>rfl,by simp⟩
 |o::os,i0,s,K,h=>by
  have key: ∀x:AV,DW P all is os (i0+1) (s.put o.dst x) K->(wZ is i0=true->x= .undef)->(wZ is i0=false->Local P all o s x)->
    ∃xs:Nat->AV,K (dF s (o::os) xs (o::os).length)/\(∀i,wZ is (i0+i)=true->xs i= .undef)/\∀i o',(o::os)[i]? =some o'->wZ is (i0+i)=false->Local P all o' (dF s (o::os) xs i) (xs i):=by
   intro x h hx hl;obtain⟨xs,hK,hia,hloc⟩:=unrollH h;have hst: ∀i,dF s (o::os) (fun|0=>x|i+1=>xs i) (i+1)=dF (s.put o.dst x) os xs i:=by
    intro i;induction i with
    |zero=>rfl
    |succ i ih=>
     show(match(o::os)[i+1]? with|some o'=>(dF s (o::os) (fun|0=>x|i+1=>xs i) (i+1)).put o'.dst (xs i)|none=>dF s (o::os) (fun|0=>x|i+1=>xs i) (i+1))=_
     rw[ih];simp only[List.getElem?_cons_succ];rfl
   refine⟨fun|0=>x|i+1=>xs i,?_,fun i hi=> ?_,fun i o' hi h1=> ?_⟩
   ·rw[List.length_cons,hst];exact hK
   ·cases i with
    |zero=>exact hx (by simpa using hi)
    |succ i=>exact hia i (by rw[show i0+1+i=i0+(i+1) by omega];exact hi)
   ·cases i with
    |zero=>simp at hi;subst hi;exact hl (by simpa using h1)
    |succ i=>rw[hst];exact hloc i o' (by simpa using hi) (by rw[show i0+1+i=i0+(i+1) by omega];exact h1)
  simp only[DW] at h;by_cases h1:wZ is i0=true
  ·rw[if_pos h1] at h;exact key _ h (fun _=>rfl) (fun h2=>by rw[h1] at h2;cases h2)
  ·rw[if_neg h1] at h;obtain⟨x,hl,h⟩:=F5 h;exact key x h (fun h3=>absurd h3 h1) (fun _=>hl)
def pAt(is:List (Nat×Option Nat))(vs:List (AV×List aC))(t:List (Nat×AV)):Nat->List (Nat×AV)
 |0=>t
 |k+1=>(match ZF is k with
  |some d=>put t d (vs.getD k (.undef,[])).1
  |none=>t)
def tAt(σ:List aC)(vs:List (AV×List aC)):Nat->List aC
 |0=>σ
 |k+1=>(vs.getD k (.undef,[])).2
structure InvH(s:St)(ops:List Oper)(m:Nat)(is:List (Nat×Option Nat))(vs:List (AV×List aC))(t1:List (Nat×AV))(j0:J0)(k0:Nat)(listed:Array Bool)(j:Js)(a:Act)(w:World):Prop extends Core s.N s.t t1 (fun _=>True) ops m j0 listed j a w where
 cZ:aS w j (tAt s.σ vs k0)
 len0:j0.js.length<=j.length
 ag:Ag j0.js j s.mv
 OL:k0<=is.length
 done: ∀k,k<is.length->listed.getD (oZ is k) true=decide (k<k0)
 cur: ∀k d,k+1=k0->ZF is k=some d->d<s.N/\R w j (vs.getD k (.undef,[])).1 (a.tmps.getD d Go.undef)
theorem pAt_get{is:List (Nat×Option Nat)}{vs:List (AV×List aC)}{t:List (Nat×AV)}{X:Nat->AV->Prop}{n k:Nat}{av:AV}(hb: ∀av,get t k=some av->X k av)(hc: ∀k' d,k'+1=n->ZF is k'=some d->X d (vs.getD k' (.undef,[])).1)(hk:get (pAt is vs t n) k=some av):X k av:=by
 cases n with
 |zero=>exact hb av hk
 |succ n=>
  simp only[pAt] at hk;cases hds:ZF is n with
  |none=>rw[hds] at hk;exact hb av hk
  |some d=>
   simp only[hds,get_put] at hk;split at hk
   ·rename_i hd;subst hd;obtain rfl:=Option.some.inj hk;exact hc n _ rfl hds
   ·exact hb av hk
section
variable {P : Program} {ops : List Oper} {m : Nat} {is : List (Nat × Option Nat)} {vs : List (AV × List aC)} {V : Nat -> List (AV × List aC)} {F : List aC -> Prop}
structure PureH(P:Program)(F:List aC->Prop)(s:St)(ops:List Oper)(m:Nat)(is:List (Nat×Option Nat))(t1:List (Nat×AV)):Prop where
 at_: ∀σ':List aC,F σ'->∃xs:Nat->AV,(dF s (ops.take m) xs m).t=t1/\(∀i,wZ is i=true->xs i= .undef)/\
  ∀i o,i<m->ops[i]? =some o->wZ is i=false->Local P ops o ⟨s.N,(dF s (ops.take m) xs i).t,σ',s.mv⟩ (xs i)
structure OwnH(P:Program)(F:List aC->Prop)(ops:List Oper)(is:List (Nat×Option Nat))(V:Nat->List (AV×List aC))(s:St)(t1:List (Nat×AV)):Prop where
 act: ∀k,k<is.length->∃o,ops[oZ is k]? =some o/\∀q,actB P o ⟨s.N,pAt is (V q) t1 k,tAt s.σ (V q) k,s.mv⟩ fun r' σ'=> ∃q',(0<k->q'=q)/\r'=((V q').getD k (.undef,[])).1/\σ'=((V q').getD k (.undef,[])).2
 fam: ∀q k,k<=is.length->F (tAt s.σ (V q) k)
 inN: ∀k d,k<is.length->ZF is k=some d->d<s.N
theorem phaseH(hok:dW ops m=true)(hmn:m<=ops.length)(hch:eu ops m is=true){Q:Exit->St->Prop}{j0:J0}{j1:Js}{w1:World}{s:St}{t1:List (Nat×AV)}
  (hW:OwnH P F ops is V s t1) (hP:PureH P F s ops m is t1)
  (hK: ∀q,bI P false ops (ops.drop m) ⟨s.N,pAt is (V q) t1 is.length,tAt s.σ (V q) is.length,s.mv⟩ (Q .normal)):
  ∀(fuel:Nat) (j:Js) (a:Act) (w:World) (listed:Array Bool),left listed ops.length=fuel->(∃k0 q,InvH s ops m is (V q) t1 j0 k0 listed j a w)->Ev j1 w1 j w->wpAnyIn (FW j0.rd) 0 P .any ops.toArray (D5 j0 j1 w1 Q) fuel listed a w:=by
 refine UF hok hmn (fun listed j a w=> ∃k0 q,InvH s ops m is (V q) t1 j0 k0 listed j a w) ?_ ?_ ?_
 ·rintro listed j a w ⟨k0,z,hI⟩;exact⟨_,_,_,_,hI.toCore⟩
 ·rintro listed j a w ⟨k0,z,hI⟩ hdone;obtain rfl:k0=is.length:=by
   rcases Nat.lt_or_ge k0 is.length with h|h
   ·obtain⟨_,_,_,_,h1,_⟩:=bG hch h;have h2:=hI.done k0 h;rw[hdone _ h1] at h2;simp at h2
   ·have:=hI.OL;omega
  obtain⟨xs,hxs,_,_⟩:=hP.at_ _ (hW.fam 0 0 (Nat.zero_le _));exact⟨⟨s.N,pAt is (V z) t1 is.length,tAt s.σ (V z) is.length,s.mv⟩,⟨hI.defers,hI.jw,hI.size,fun k av hk=>pAt_get (X:=fun k av=>k<s.N/\R w j av (a.tmps.getD k Go.undef)) (fun av h=>hI.toCore.done hxs hdone h) hI.cur hk,hI.cZ,hI.len0,hI.ag⟩,hK z⟩
 ·rintro listed j a w i o next ⟨k0,z,hI⟩ him ho h0 hall hn
  have hokA:=zH ((iP hok ho).2.1 him);have hil:i<ops.length:=by omega
  have U2:i<listed.size:=by rw[hI.lsize];exact hil
  have step: ∀(w':World) (v:Value) (k1 z1:Nat),aS w' j (tAt s.σ (V z1) k1)->Ev j w j w'->
    k1<=is.length->(∀k,k<is.length->(listed.setIfInBounds i true).getD (oZ is k) true=decide (k<k1))->
    (∀k d,k+1=k1->ZF is k=some d->d<s.N/\R w' j ((V z1).getD k (.undef,[])).1 ((a.put o.dst v).tmps.getD d Go.undef))->
    (∀k av,o.dst=some k->get t1 k=some av->k<s.N/\R w' j av v)->next (a.put o.dst v) w':=by
   intro w' v k1 z1 mZ hev hk1 hdn hcu hv;have mono: ∀{av:AV} {v:Value},R w j av v->R w' j av v:=fun hR=>hR.kM hev hI.cZ.lt (.refl _ _);exact hn j v w' ⟨k1,z1,hI.toCore.step hok hmn him ho hall hev (fun k av h _=>⟨av,h,fun _=>mono⟩) (fun k av h=>⟨av,h,fun _ h1 h2=>⟨h1,mono h2⟩⟩) hv,mZ,hI.len0,hI.ag,hk1,hdn,hcu⟩ hev
  by_cases hia:wZ is i=true
  ·
   obtain⟨k,hkl,rfl⟩:=FZ.1 hia;obtain⟨oa,hoa,hgd,hdst,_,hself,tK,hprev⟩:=bG hch hkl;obtain rfl:o=oa:=by rw[ho] at hoa;exact Option.some.inj hoa
   obtain⟨ob,hob,hact⟩:=hW.act k hkl;obtain rfl:o=ob:=by rw[ho] at hob;exact Option.some.inj hob
   have hkk:k=k0:=by
    have h1:=hI.done k hkl;rw[h0] at h1;have h2:k0<=k:=by simpa using h1
    rcases Nat.lt_or_ge k0 k with h3|h3
    ·have h4:=hI.toCore.far hall (hprev (by omega)).1;have h5:=oL hch (a:=k-1) (b:=k) (by omega) hkl;rw[iV hI.lsize (show oZ is (k-1)<ops.length by omega),hI.done (k-1) (by omega)] at h4;have:k-1<k0:=by simpa using h4
     omega
    ·omega
   subst hkk;obtain⟨xs,hxs,hxa,hloc⟩:=hP.at_ _ (hW.fam 0 0 (Nat.zero_le _));have hr:Rel j0 ((⟨s.N,pAt is (V z) t1 k,tAt s.σ (V z) k,s.mv⟩:St).bf (looks ops o)) j a w:=by
    refine⟨hI.defers,hI.jw,hI.size,fun q av hk=> ?_,hI.cZ,hI.len0,hI.ag⟩;simp only[St.bf,iE] at hk;split at hk
    ·rename_i hkl;exact pAt_get (X:=fun k av=>k<s.N/\R w j av (a.tmps.getD k Go.undef)) (fun av h=>hI.toCore.late hok hmn hxs him ho hall hself tK (by simpa using hkl) h) hI.cur hk
    ·simp at hk
   have hw:Region.wanted o (yielded ops.toArray a.tmps)=true:=by simp[Region.wanted,hgd]
   rw[if_pos hw];refine actB_sound (hact z) hr fun v w' r' σ' h6 h7 h8 h11=> ?_;obtain⟨z',_,rfl,rfl⟩:=h11;refine step w' v (k+1) z' h6 h8 hkl (fun q hq=> ?_) (fun q d hq hd=> ?_) (fun q av hq hgt=> ?_)
   ·by_cases hqk:q=k
    ·subst hqk;simp[U2]
    ·rw[getD_set_ne true (fun h=>hqk (AL hch hq hkl h.symm)),hI.done q hq];congr 1;apply propext;omega
   ·obtain rfl:q=k:=by omega
    refine⟨hW.inN q d hkl hd,?_⟩;simp only[Act.put,hdst,hd];rw[lH (w:=w) (j:=j) (by rw[hI.size];exact hW.inN q d hkl hd),if_pos rfl];exact h7
   ·rw[←hxs,kW hok hmn him ho hq him (Nat.le_refl _),hxa _ hia] at hgt;split at hgt
    ·rename_i hlt;obtain rfl:AV.undef=av:=Option.some.inj hgt;exact⟨hlt,.undef _⟩
    ·simp at hgt
  ·
   have hia:wZ is i=false:=by simpa using hia
   obtain⟨xs,hxs,hxa,hloc⟩:=hP.at_ _ (hW.fam z k0 hI.OL);have hL:=hloc i o him ho hia;have hrel:Rel j0 ((⟨s.N,(dF s (ops.take m) xs i).t,tAt s.σ (V z) k0,s.mv⟩:St).bf (looks ops o)) j a w:=by
    refine⟨hI.defers,hI.jw,hI.size,fun k av hk=> ?_,hI.cZ,hI.len0,hI.ag⟩;simp only[St.bf,iE] at hk;split at hk
    ·rename_i hkl;exact hI.toCore.looks hok hmn hxs him ho h0 hall (by simpa using hkl) hk
    ·simp at hk
   have hdn: ∀k,k<is.length->(listed.setIfInBounds i true).getD (oZ is k) true=decide (k<k0):=by
    intro k hk;rw[getD_set_ne true (fun h=>by
     have:=FZ.2 ⟨k,hk,h.symm⟩;rw[hia] at this;cases this),hI.done k hk]
   have hcu: ∀(w':World) (v:Value),Ev j w j w'->∀k d,k+1=k0->ZF is k=some d->d<s.N/\R w' j ((V z).getD k (.undef,[])).1 ((a.put o.dst v).tmps.getD d Go.undef):=by
    intro w' v hev k d hk hd0;have h1:=hI.cur k d hk hd0;have hkl:k<is.length:=by have:=hI.OL;omega
    obtain⟨oa,hoa,_,hdst,hlt,_⟩:=bG hch hkl;have hne:o.dst≠some d:=fun hd=>hokA.2 (oZ is k) oa _ hlt (fun h=>by
     have:=FZ.2 ⟨k,hkl,h⟩;rw[hia] at this;cases this) hoa hd (by rw[hdst,hd0])
    rw[Ir hne];exact⟨h1.1,h1.2.kM hev hI.cZ.lt (.refl _ _)⟩
   have hval: ∀(w':World) (v:Value),R w' j (xs i) v->∀k av,o.dst=some k->get t1 k=some av->k<s.N/\R w' j av v:=by
    intro w' v hr k av hk hgt;rw[←hxs,kW hok hmn him ho hk him (Nat.le_refl _)] at hgt;split at hgt
    ·rename_i hlt;obtain rfl:xs i=av:=Option.some.inj hgt;exact⟨hlt,hr⟩
    ·simp at hgt
   by_cases hw:Region.wanted o (yielded ops.toArray a.tmps)=true
   ·rw[if_pos hw];exact hL.run j0 j a w _ _ hrel hw fun w' v h1 h2 h3=>step w' v k0 z h1 h2 hI.OL hdn (hcu w' v h2) (hval w' v h3)
   ·rw[if_neg hw];exact step w Go.undef k0 z hI.cZ (.refl _ _) hI.OL hdn (hcu w _ (.refl _ _)) (hval w _ (hL.skip j0 j a w hrel (by simpa using hw)))
end
def Uf(P:Program)(ops:List Oper)(s:St)(t1:List (Nat×AV))(is:List (Nat×Option Nat))(V:Nat->List (AV×List aC)):Nat->Prop
 |0=>True
 |k+1=>Uf P ops s t1 is V k/\(match ql ops (oZ is k) with
  |some o=> ∀q,actB P o ⟨s.N,pAt is (V q) t1 k,tAt s.σ (V q) k,s.mv⟩ fun r' σ'=> ∃q',(0<k->q'=q)/\r'=((V q').getD k (.undef,[])).1/\σ'=((V q').getD k (.undef,[])).2
  |none=>False)
theorem MN{P:Program}{ops:List Oper}{s:St}{t1:List (Nat×AV)}{is:List (Nat×Option Nat)}{V:Nat->List (AV×List aC)} : ∀{n:Nat},Uf P ops s t1 is V n->
  ∀k,k<n->∃o,ops[oZ is k]? =some o/\∀q,actB P o ⟨s.N,pAt is (V q) t1 k,tAt s.σ (V q) k,s.mv⟩ fun r' σ'=> ∃q',(0<k->q'=q)/\r'=((V q').getD k (.undef,[])).1/\σ'=((V q').getD k (.undef,[])).2
 |0,_,k,hk=>by omega
 |n+1,h,k,hk=>by
  rcases Nat.lt_or_eq_of_le (Nat.le_of_lt_succ hk) with h1|h1
  ·exact MN h.1 k h1
  ·subst h1;have h2:=h.2;rw[jc] at h2;split at h2
   ·rename_i o ho;exact⟨o,ho,h2⟩
   ·exact h2.elim
theorem awp_steps{P:Program}{Q:Exit->St->Prop}{N:Nat}{t:List (Nat×AV)}{σ:List aC}{mv:List Nat}{id:Nat}{ops:List Oper}(m:Nat)(is:List (Nat×Option Nat))(V:Nat->List (AV×List aC))(F:List aC->Prop)(hm:P.follows .mixedOrders=true)(hok:(dW ops m&&Nat.ble m ops.length&&eu ops m is)=true){t1:List (Nat×AV)}
  (h1: ∀(σ':List aC) (K:St->Prop),F σ'->(∀yP mv',K ⟨N,t1,yP,mv'⟩)->DW P ops is (ops.take m) 0 ⟨N,t,σ',mv⟩ K)
  (hN: ∀k d,k<is.length->ZF is k=some d->d<N) (hF: ∀q k,k<=is.length->F (tAt σ (V q) k))
  (h2:Uf P ops ⟨N,t,σ,mv⟩ t1 is V is.length)
  (h3: ∀q,bI P false ops (ops.drop m) ⟨N,pAt is (V q) t1 is.length,tAt σ (V q) is.length,mv⟩ (Q .normal)):dY P (.region id ops.toArray true) Q ⟨N,t,σ,mv⟩:=by
 intro j0 j a w hr;simp only[Bool.and_eq_true,Nat.ble_eq] at hok;obtain⟨⟨hok,hmn⟩,hch⟩:=hok;have hP:PureH P F ⟨N,t,σ,mv⟩ ops m is t1:=⟨fun σ' hσ'=>by
  have h:=h1 σ' (fun s'=>s'.t=t1) hσ' (fun _ _=>rfl);have hlen:(ops.take m).length=m:=by simp;omega
  obtain⟨xs,hK,hia,hloc⟩:=unrollH h;have hext:=qV ⟨N,t,σ,mv⟩ σ' (ops.take m) xs;refine⟨xs,?_,fun i hi=>hia i (by simpa using hi),fun i o him ho h3=> ?_⟩
  ·rw[hlen,hext] at hK;exact hK
  ·have:=hloc i o (by rw[jU him];exact ho) (by simpa using h3);rw[hext] at this;exact this⟩
 have hr':Rel j0 ⟨N,t,σ,mv⟩ j a w.drew:=hr.after (gY j w) hr.cZ.drew (Nat.le_refl _) (.refl _ []);have hW:OwnH P F ops is V ⟨N,t,σ,mv⟩ t1:=⟨fun k hk=>MN h2 k hk,hF,hN⟩;refine wpIn_region_any hm (phaseH hok hmn hch hW hP h3 _ j a w.drew _ ?_ ⟨0,0,.start hmn hr' fun _ _ _=>trivial,hr'.cZ,hr'.len0,hr'.ag,Nat.zero_le _,fun k hk=> ?_,fun k d hk=>by omega⟩ (gY j w))
 ·rw[xk];simp
 ·obtain⟨_,_,_,_,h4,_⟩:=bG hch hk;simp[show oZ is k<ops.length by omega]
def RestH(P:Program)(all:List Oper)(is:List (Nat×Option Nat))(os:List Oper)(i:Nat)(K:St->Prop)(s:St):Prop:=DW P all is os i s K
theorem evalH_nil(P:Program)(all:List Oper)(is:List (Nat×Option Nat))(i:Nat)(s:St)(K:St->Prop):DW P all is [] i s K=K s:=rfl
theorem evalH_cons(P:Program)(all os:List Oper)(is:List (Nat×Option Nat))(i:Nat)(o:Oper)(s:St)(K:St->Prop):DW P all is (o::os) i s K=if wZ is i then RestH P all is os (i+1) K (s.put o.dst .undef)
  else jA all s o fun gd g=>UK P true gd g o s (RestH P all is os (i+1) K):=rfl
theorem ZA(P:Program)(all os:List Oper)(is:List (Nat×Option Nat))(i:Nat)(K:St->Prop)(N:Nat)(t:List (Nat×AV))(σ:List aC)(mv:List Nat):RestH P all is os i K ⟨N,t,σ,mv⟩=DW P all is os i ⟨N,t,σ,mv⟩ K:=rfl
attribute [go_sem ↓] evalH_nil evalH_cons ZA actB
attribute [go_sem] ZA wZ pAt tAt ZF oZ Uf
end Go.aU.Steps
namespace Go.aU
def bg(k:IntKind)(n:Nat)(f:Nat->Int):List AV:=(List.range n).map fun i=> .d (.v (.int k (f i)))
def upd(f:Nat->Int)(i:Nat)(z:Int):Nat->Int:=fun q=>if q=i then z else f q
variable {k : IntKind} {n : Nat} {f : Nat -> Int}
theorem eY:(bg k n f).length=n:=by simp[bg]
theorem AZ{i:Nat}(h:i<n):(bg k n f)[i]? =some (.d (.v (.int k (f i)))):=by simp[bg,h]
theorem arrV_ext{g:Nat->Int}(h: ∀i,i<n->f i=g i):bg k n f=bg k n g:=by
 unfold bg;exact List.map_congr_left fun i hi=>by rw[h i (List.mem_range.1 hi)]
theorem arrV_at{i:Nat}(h:i<n):List.take 1 (List.drop i (bg k n f))=[.d (.v (.int k (f i)))]:=by
 have h1:i<(bg k n f).length:=by rw[eY];exact h
 rw[List.drop_eq_getElem_cons h1];simp[bg]
theorem Zu{i:Nat}{z:Int}(h:i<n):List.take i (bg k n f)++AV.d (.v (.int k z))::List.drop (i+1) (bg k n f)=bg k n (upd f i z):=by
 apply List.ext_getElem?;intro q;rw[List.getElem?_append];simp only[List.length_take,eY,List.getElem?_take];have e:min i n=i:=by omega
 rw[e];by_cases h1:q<i
 ·rw[if_pos h1,if_pos h1,AZ (by omega),AZ (by omega)];simp[upd,show ¬q=i by omega]
 ·rw[if_neg h1];rcases Nat.eq_or_lt_of_le (Nat.le_of_not_lt h1) with h2|h2
  ·subst h2;rw[Nat.sub_self,AZ h];simp[upd]
  ·have e1:q-i=(q-i-1)+1:=by omega
   rw[e1,List.getElem?_cons_succ,List.getElem?_drop];have e2:i+1+(q-i-1)=q:=by omega
   rw[e2];by_cases h3:q<n
   ·rw[AZ h3,AZ h3];simp[upd,show ¬q=i by omega]
   ·rw[List.getElem?_eq_none (by rw[eY];omega),List.getElem?_eq_none (by rw[eY];omega)]
theorem arrV_at0(h:0<n):List.take 1 (bg k n f)=[.d (.v (.int k (f 0)))]:=arrV_at (i:=0) h
theorem arrV_set0{z:Int}(h:0<n):AV.d (.v (.int k z))::(bg k n f).tail=bg k n (upd f 0 z):=by
 have:=Zu (k:=k) (f:=f) (z:=z) h;simpa using this
theorem TD:List.take n (bg k n f)=bg k n f:=List.take_of_length_le (by rw[eY];exact Nat.le_refl _)
theorem arrV_takeA{l:List AV} :List.take n (bg k n f++l)=bg k n f:=by
 rw[List.take_append_of_le_length (by rw[eY];exact Nat.le_refl _),TD]
theorem arrV_takeB{l:List AV}{i:Nat}(h:n<=i):List.take i (bg k n f++l)=bg k n f++List.take (i-n) l:=by
 rw[List.take_append,eY,List.take_of_length_le (by rw[eY];exact h)]
theorem arrV_dropA{l:List AV}{i:Nat}(h:n<=i):List.drop i (bg k n f++l)=List.drop (i-n) l:=by
 rw[List.drop_append,List.drop_eq_nil_of_le (by rw[eY];exact h),eY,List.nil_append]
theorem arrV_drop{i:Nat}(h:n<=i):List.drop i (bg k n f)=[]:=List.drop_eq_nil_of_le (by rw[eY];exact h)
theorem Zw:jD (bg k n f)=true:=by
 unfold bg;have: ∀l:List Nat,jD (l.map fun i=>AV.d (.v (.int k (f i))))=true:=by
  intro l;induction l with
  |nil=>rfl
  |cons x l ih=>simp[jD,Jv,Value.oneCell'] at ih⊢;first|exact ih|simp_all
 exact this _
theorem JW{m:Nat}{α:Type}(g:α->D): ∀l:List α,gK m (l.map fun i=>AV.d (g i))
 |[]=>trivial
 |x::l=>⟨trivial,JW g l⟩
theorem GH{X:List Nat}{α:Type}(g:α->D): ∀l:List α,dK X (l.map fun i=>AV.d (g i))=true
 |[]=>rfl
 |x::l=>by simp only[List.map_cons,dK,AV.avoids,Bool.true_and];exact GH g l
theorem P7{m:Nat} :gK m (bg k n f):=JW _ _
theorem Zv{X:List Nat} :dK X (bg k n f)=true:=GH _ _
theorem arrV_scrub{X:List Nat} :(bg k n f).map (fun c=>if c.avoids X then c else .undef)=bg k n f:=by
 unfold bg;rw[List.map_map];exact List.map_congr_left fun i _=>rfl
theorem arrV_frzT{b sz n':Nat}{row:Nat->List D} :(bg k n f).map (pV b sz n' row)=bg k n f:=by
 unfold bg;rw[List.map_map];exact List.map_congr_left fun i _=>rfl
theorem kL:jr (bg k n f) (bg k n f):=by
 unfold bg;have: ∀l:List Nat,jr (l.map fun i=>AV.d (.v (.int k (f i)))) (l.map fun i=>AV.d (.v (.int k (f i)))):=by
  intro l;induction l with
  |nil=>trivial
  |cons x l ih=>exact⟨rfl,ih⟩
 exact this _
theorem LY{m:Nat} : ∀{l l':List AV},gK m l->gK m l'->gK m (l++l')
 |[],_,_,h=>h
 |x::l,l',h,h'=>⟨h.1,LY h.2 h'⟩
theorem Zt{m:Nat}{l:List AV} :gK m (bg k n f++l)=gK m l:=by
 apply propext;constructor
 ·intro h;have: ∀(l1 l2:List AV),gK m (l1++l2)->gK m l2:=by
   intro l1;induction l1 with
   |nil=>exact fun _ h=>h
   |cons x l1 ih=>exact fun l2 h=>ih l2 h.2
  exact this _ _ h
 ·exact LY P7
open Go
theorem tab_cells{w:World}{j:Js}{σ:List aC}(hS:aS w j σ){b c:Nat}{vs:Array Value}(h:σ[b]? =some (.tab c vs)): ∃e f,w.heap[c]? =some (.cells vs e f):=by
 obtain⟨o,_,hB⟩:=hS.blk b _ h;obtain⟨_,_,_,e,h4,h5⟩:=hB;unfold World.shape? at h4;cases hc:w.heap[c]? with
 |none=>simp[hc] at h4
 |some ob=>
  rw[hc] at h4;cases ob with
  |cells C e' f=>
   simp only[Option.some.injEq,Prod.mk.injEq] at h4;refine⟨e',f,?_⟩;have hC:C=vs:=by
    apply Array.ext
    ·exact h4.2
    ·intro i h1 h2;have h6:=h5 i;simp only[World.cell?,hc] at h6;rw[Array.getElem?_eq_getElem h1,Array.getElem?_eq_getElem h2] at h6;simpa using h6
   rw[hC]
  |_=>simp at h4
end Go.aU
namespace Go.aU.Vars
open Go.aU Go.aU.Mix
open Go.aU.Steps (oZ ZF)
structure Own where
 ia:Nat
 d:Tmp
 cs:List D
 dN:Nat
 cs1:List D
def Own.blk(o:Own)(b:Bool):aC:= .var ((if b then o.cs1 else o.cs).map .d)
def Own.now(o:Own)(listed:Array Bool):aC:=if listed.getD o.ia false then o.blk (listed.getD o.dN false) else .dead
def qR(L:List Own)(listed:Array Bool):List aC:=L.map fun o=>o.now listed
def yB:Nat->List Own->List (Nat×AV)
 |_,[]=>[]
 |b,o::os=>(o.ia,.ptr b 0)::(o.dN,.undef)::yB (b+1) os
theorem N9{i:Nat}{r:AV} : ∀{L:List Own} {b:Nat},get (yB b L) i=some r->∃(q:Nat) (o:Own),L[q]? =some o/\((o.ia=i/\r= .ptr (b+q) 0)\/(o.dN=i/\r= .undef))
 |[],b,h=>by simp[yB,get] at h
 |o::os,b,h=>by
  simp only[yB,get] at h;split at h
  ·rename_i e;exact⟨0,o,rfl,.inl ⟨Nat.eq_of_beq_eq_true e,(Option.some.inj h).symm⟩⟩
  ·split at h
   ·rename_i e;exact⟨0,o,rfl,.inr ⟨Nat.eq_of_beq_eq_true e,(Option.some.inj h).symm⟩⟩
   ·obtain⟨q,o',h1,h2⟩:=N9 h;exact⟨q+1,o',h1,by rw[show b+(q+1)=b+1+q by omega];exact h2⟩
theorem Es{i:Nat} : ∀{L:List Own} {b:Nat},get (yB b L) i=none->∀o∈L,o.ia≠i/\o.dN≠i
 |[],b,h=>by simp
 |o::os,b,h=>by
  simp only[yB,get] at h;split at h
  ·cases h
  ·rename_i e;split at h
   ·cases h
   ·rename_i e2;intro o' ho';rcases List.mem_cons.1 ho' with rfl|ho'
    ·exact⟨fun he=>by rw[he] at e;simp at e,fun he=>by rw[he] at e2;simp at e2⟩
    ·exact Es h o' ho'
def Apart(L:List Own):Prop:= ∀(p q:Nat) (o o':Own),L[p]? =some o->L[q]? =some o'->p≠q->∀i,o.ia=i\/o.dN=i->o'.ia≠i/\o'.dN≠i
theorem WG{L:List Own}{listed:Array Bool}{i q:Nat}{o:Own}(hL:Apart L)(hq:L[q]? =some o)(hi:o.ia=i\/o.dN=i):qR L (listed.setIfInBounds i true)=(qR L listed).set q (o.now (listed.setIfInBounds i true)):=by
 apply List.ext_getElem?;intro k;rw[List.getElem?_set];by_cases hk:q=k
 ·subst hk;obtain⟨hlt,rfl⟩:=List.getElem?_eq_some_iff.1 hq;rw[if_pos rfl];simp[qR,hlt]
 ·rw[if_neg hk];simp only[qR,List.getElem?_map];cases ho:L[k]? with
  |none=>rfl
  |some o'=>
   obtain⟨h1,h2⟩:=hL q k o o' hq ho hk i hi;simp only[Option.map_some,Own.now];rw[getD_set_ne false (fun e=>h1 e.symm),getD_set_ne false (fun e=>h2 e.symm)]
theorem tauK_keep{L:List Own}{listed:Array Bool}{i:Nat}(h: ∀o∈L,o.ia≠i/\o.dN≠i):qR L (listed.setIfInBounds i true)=qR L listed:=by
 refine List.map_congr_left fun o ho=> ?_;unfold Own.now;rw[getD_set_ne false (fun e=>(h o ho).1 e.symm),getD_set_ne false (fun e=>(h o ho).2 e.symm)]
structure InvK(s:St)(ops:List Oper)(m:Nat)(L:List Own)(t1:List (Nat×AV))(j0:J0)(listed:Array Bool)(j:Js)(a:Act)(w:World):Prop extends Core s.N s.t t1 (fun av=>av.under s.σ.length) ops m j0 listed j a w where
 cZ:aS w j (s.σ++qR L listed)
 len0:j0.js.length<=s.σ.length
 ag:Ag j0.js j s.mv
 free: ∀(q:Nat) o,L[q]? =some o->listed.getD o.ia false=false->j[s.σ.length+q]? =some none
theorem InvK.jlen{s:St}{ops:List Oper}{m:Nat}{L:List Own}{t1:List (Nat×AV)}{j0:J0}{listed:Array Bool}{j:Js}{a:Act}{w:World}(h:InvK s ops m L t1 j0 listed j a w):j.length=s.σ.length+L.length:=by
 rw[h.cZ.len,List.length_append];simp[qR]
section
variable {P : Program} {ops : List Oper} {m : Nat} {L : List Own}
structure PureK(P:Program)(s:St)(ops:List Oper)(m:Nat)(t1:List (Nat×AV))(rs:List (Nat×AV)):Prop where
 at_: ∀τ:List aC,∃xs:Nat->AV,(dF s (ops.take m) xs m).t=t1/\(∀i r,get rs i=some r->xs i=r)/\
  ∀i o,i<m->ops[i]? =some o->get rs i=none->Local P ops o ⟨s.N,(dF s (ops.take m) xs i).t,s.σ++τ,s.mv⟩ (xs i)
structure OwnK(P:Program)(ops:List Oper)(m:Nat)(L:List Own)(s:St)(t1:List (Nat×AV))(q:Nat)(o:Own):Prop where
 al: ∃oa,ops[o.ia]? =some oa/\o.ia<m/\oa.guard=none/\oa.dst=some o.d/\(∀d,oa.dst=some d->d∉looks ops oa)/\(∀q oq d,o.ia<q->q<m->ops[q]? =some oq->oq.dst=some d->d∉looks ops oa)/\
  ∀τ:List aC,τ.length=L.length->Hr P oa ⟨s.N,t1,s.σ++τ,s.mv⟩ fun r' σ'=>r'= .ptr (s.σ++τ).length 0/\σ'=(s.σ++τ)++[o.blk false]
 st:o.dN<m->∃os,ops[o.dN]? =some os/\os.guard=none/\os.dst=none/\(∀q oq d,o.dN<q->q<m->ops[q]? =some oq->oq.dst=some d->d∉looks ops os)/\Gx ops m 3 os o.ia=true/\
  ∀τ:List aC,τ[q]? =some (o.blk false)->Hr P os ⟨s.N,t1,s.σ++τ,s.mv⟩ fun r' σ'=>r'= .undef/\σ'=s.σ++τ.set q (o.blk true)
 hav: ∀k av,get t1 k=some av->k≠o.d->av.avoids [s.σ.length+q]=true
theorem Wx{w:World}{j j':Js}(hs: ∀o,o∈j->o∈j'){cs:List D}{o:Option Nat}(h:RB w j' (.var (cs.map .d)) o):RB w j (.var (cs.map .d)) o:=by
 cases o with
 |none=>exact h.elim
 |some cb=>
  obtain⟨C,e,h1,h2,h3⟩:=h;refine⟨C,e,h1,h2,fun k hk=> ?_⟩;have h4:=h3 k hk;have hk':k<cs.length:=by simpa using hk
  have e1:(cs.map AV.d).getD k .undef= .d cs[k]:=by simp[List.getD_eq_getElem?_getD,hk']
  rw[e1] at h4⊢;cases h4 with|d h5=>exact .d (h5.less hs)
theorem place_own{w w':World}{j j1 js:Js}{ws:World}{σ τ:List aC}{cs:List D}{q:Nat}{v:Value}(hS:aS ws js σ)(h0:aS w j (σ++τ))(hq:q<τ.length)(hdead:τ[q]? =some .dead)(hnone:j[σ.length+q]? =some none)
  (h1:aS w' j1 ((σ++τ)++[.var (cs.map .d)])) (hr:R w' j1 (.ptr (σ++τ).length 0) v) (he:Ev j w j1 w') (hag:Ag j j1 []) (hτ: ∀y∈τ,y= .dead\/∃cs:List D,y= .var (cs.map .d)):
  ∃j2:Js,aS w' j2 (σ++τ.set q (.var (cs.map .d)))/\R w' j2 (.ptr (σ.length+q) 0) v/\Ev j w j2 w'/\Ag j j2 [σ.length+q]/\j2.length=j.length:=by
 have hjl:j.length=σ.length+τ.length:=by rw[h0.len,List.length_append]
 have hj1:j1.length=σ.length+τ.length+1:=by rw[h1.len];simp;omega
 obtain⟨x,hx⟩: ∃x,j1[j.length]? =some x:=⟨j1[j.length]'(by omega),List.getElem?_eq_getElem (by omega)⟩;have hj2: ∀b:Nat,((j1.take j.length).set (σ.length+q) x)[b]? =if b=σ.length+q then some x else if b<j.length then j1[b]? else none:=by
  intro b;rw[List.getElem?_set,List.length_take,List.getElem?_take];by_cases hb:σ.length+q=b
  ·rw[if_pos hb,if_pos (by omega),if_pos hb.symm]
  ·have hb': ¬b=σ.length+q:=fun h=>hb h.symm;rw[if_neg hb];simp only[if_neg hb']
 have hsub: ∀y,y∈(j1.take j.length).set (σ.length+q) x->y∈j1:=by
  intro y hy;rcases List.mem_or_eq_of_mem_set hy with h|h
  ·exact List.mem_of_mem_take h
  ·rw[h];exact List.mem_of_getElem? hx
 have hpl: ∀y o2,y∈τ->RB w' j1 y o2->RB w' ((j1.take j.length).set (σ.length+q) x) y o2:=by
  intro y o2 hy hB;rcases hτ y hy with rfl|⟨o',rfl⟩
  ·trivial
  ·exact Wx hsub hB
 refine⟨(j1.take j.length).set (σ.length+q) x,⟨by simp;omega,fun b cb hb=> ?_,fun b b' cb hb hb'=> ?_,fun b y hy=> ?_⟩,?_,⟨he.size,he.keep,fun b hb hm=>he.sub b hb (hsub _ hm),he.Xa,he.uN,he.os,he.tape,he.output,he.lps⟩,fun b hb hn=> ?_,by simp;omega⟩
 ·rw[hj2] at hb;split at hb
  ·obtain rfl:x=some cb:=by simpa using hb
   exact h1.lt _ cb hx
  ·split at hb
   ·exact h1.lt b cb hb
   ·cases hb
 ·rw[hj2] at hb hb';split at hb
  ·rename_i e;obtain rfl:x=some cb:=by simpa using hb
   split at hb'
   ·rename_i e';omega
   ·split at hb'
    ·have:=h1.inj _ _ cb hx hb';omega
    ·cases hb'
  ·split at hb
   ·split at hb'
    ·obtain rfl:x=some cb:=by simpa using hb'
     have:=h1.inj _ _ cb hx hb;omega
    ·split at hb'
     ·exact h1.inj _ _ cb hb hb'
     ·cases hb'
   ·cases hb
 ·by_cases hb:b<σ.length
  ·rw[List.getElem?_append_left hb] at hy;obtain⟨o1,ho1,hB1⟩:=hS.blk b y hy;obtain⟨o2,ho2,hB2⟩:=h1.blk b y (by rw[List.append_assoc,List.getElem?_append_left hb];exact hy);refine⟨o2,by rw[hj2,if_neg (by omega),if_pos (by omega)];exact ho2,?_⟩;exact hB1.shrink hsub (fun b' hb'=>by
    rw[hS.len] at hb';rw[hj2,if_neg (by omega),if_pos (by omega)]) hB2
  ·rw[List.getElem?_append_right (by omega),List.getElem?_set] at hy;by_cases hbq:q=b-σ.length
   ·rw[if_pos hbq,if_pos (by omega)] at hy;obtain rfl:aC.var (cs.map .d)=y:=Option.some.inj hy;obtain⟨o2,ho2,hB2⟩:=h1.blk j.length (.var (cs.map .d)) (by rw[List.getElem?_append_right (by simp;omega)];simp[hjl]);rw[hx] at ho2;obtain rfl:x=o2:=Option.some.inj ho2;refine⟨x,by rw[hj2,if_pos (by omega)],?_⟩;exact Wx hsub hB2
   ·rw[if_neg hbq] at hy;obtain⟨o2,ho2,hB2⟩:=h1.blk b y (by
     have hlt:b-σ.length<τ.length:=(List.getElem?_eq_some_iff.1 hy).1;rw[List.append_assoc,List.getElem?_append_right (by omega),List.getElem?_append_left hlt];exact hy)
    have hlt:b-σ.length<τ.length:=(List.getElem?_eq_some_iff.1 hy).1;refine⟨o2,by rw[hj2,if_neg (by omega),if_pos (by omega)];exact ho2,?_⟩;exact hpl y o2 (List.mem_of_getElem? hy) hB2
 ·have hlen:(σ++τ).length=j.length:=by rw[List.length_append];omega
  rw[hlen] at hr;have hat:((j1.take j.length).set (σ.length+q) x)[σ.length+q]? =some x:=by rw[hj2,if_pos rfl]
  cases hr with
  |ptr h=>exact .ptr (by rw[hat,←hx];exact h)
 ·have h2:b≠σ.length+q:=by simpa using hn
  rw[hj2,if_neg h2,if_pos hb];exact hag b hb (by simp)
theorem phaseK(hok:dW ops m=true)(hmn:m<=ops.length){Q:Exit->St->Prop}{j0:J0}{j1:Js}{w1:World}{s:St}{t1:List (Nat×AV)}{js:Js}{ws:World}(hS:aS ws js s.σ)(hL:Apart L)(hne: ∀o∈L,o.ia≠o.dN)
  (hW: ∀(q:Nat) o,L[q]? =some o->OwnK P ops m L s t1 q o) (hP:PureK P s ops m t1 (yB s.σ.length L))
  (hK:bI P false ops (ops.drop m) ⟨s.N,t1,s.σ++L.map (fun o=>o.blk (Nat.blt o.dN m)),s.mv⟩ (Q .normal)):
  ∀(fuel:Nat) (j:Js) (a:Act) (w:World) (listed:Array Bool),left listed ops.length=fuel->InvK s ops m L t1 j0 listed j a w->Ev j1 w1 j w->wpAnyIn (FW j0.rd) 0 P .any ops.toArray (D5 j0 j1 w1 Q) fuel listed a w:=by
 refine UF hok hmn (InvK s ops m L t1 j0) (fun hI=>⟨_,_,_,_,hI.toCore⟩) ?_ ?_
 ·intro listed j a w hI hdone;have htau:qR L listed=L.map fun o=>o.blk (Nat.blt o.dN m):=List.map_congr_left fun o ho=>by
   obtain⟨q,hq,rfl⟩:=List.mem_iff_getElem.1 ho;obtain⟨oa,_,hlt,_⟩:=(hW q L[q] (List.getElem?_eq_getElem hq)).al;have e:listed.getD L[q].dN false=Nat.blt L[q].dN m:=by
    by_cases h1:L[q].dN<m
    ·rw[iV hI.lsize (show L[q].dN<ops.length by omega),hdone _ h1];exact(by simpa using h1:Nat.blt L[q].dN m=true).symm
    ·have hb:Nat.blt L[q].dN m=false:=by rw[←Bool.not_eq_true];simpa using h1
     rw[hb];by_cases h2:L[q].dN<ops.length
     ·exact hI.lB _ (by omega) h2 _
     ·have: ¬L[q].dN<listed.size:=by rw[hI.lsize];exact h2
      simp[this]
   unfold Own.now;rw[iV hI.lsize (show L[q].ia<ops.length by omega),hdone _ hlt,if_pos rfl,e]
  obtain⟨xs,hxs,_,_⟩:=hP.at_ [];exact⟨⟨s.N,t1,s.σ++L.map (fun o=>o.blk (Nat.blt o.dN m)),s.mv⟩,⟨hI.defers,hI.jw,hI.size,fun k av hk=>hI.toCore.done hxs hdone hk,by have:=hI.cZ;rw[htau] at this;exact this,by have:=hI.jlen;have:=hI.len0;omega,hI.ag⟩,hK⟩
 ·intro listed j a w i o next hI him ho h0 hall hn
  have hil:i<ops.length:=by omega
  have U2:i<listed.size:=by rw[hI.lsize];exact hil
  have hseti:(listed.setIfInBounds i true).getD i false=true:=by simp[U2]
  have hnl:listed.getD i false=false:=by rw[iV hI.lsize hil];exact h0
  have hj0:j0.js.length<=j.length:=by have:=hI.jlen;have:=hI.len0;omega
  have step: ∀(j':Js) (w':World) (v:Value),aS w' j' (s.σ++qR L (listed.setIfInBounds i true))->Ev j w j' w'->(∀b,b<s.σ.length->j'[b]? =j[b]?)->
    (∀(q:Nat) o,L[q]? =some o->(listed.setIfInBounds i true).getD o.ia false=false->j'[s.σ.length+q]? =some none)->
    (∀k av x,get t1 k=some av->o.dst≠some k->R w j av x->R w' j' av x)->(∀(av:AV) x,av.under s.σ.length->R w j av x->R w' j' av x)->
    (∀k av,o.dst=some k->get t1 k=some av->k<s.N/\R w' j' av v)->next (a.put o.dst v) w':=by
   intro j' w' v mZ hev hagj hN' tr tr2 hv;refine hn j' v w' ⟨hI.toCore.step hok hmn him ho hall hev (fun k av h hne=>⟨av,h,fun x=>tr k av x h hne⟩) (fun k av h=>⟨av,h,fun x h1 h2=>⟨h1,tr2 av x h1 h2⟩⟩) hv,mZ,hI.len0,fun b hb hn=> ?_,hN'⟩ hev;rw[hagj b (by have:=hI.len0;omega)];exact hI.ag b hb hn
  have late: ∀{oa:Oper},o=oa->(∀d,oa.dst=some d->d∉looks ops oa)->(∀q oq d,i<q->q<m->ops[q]? =some oq->oq.dst=some d->d∉looks ops oa)->Rel j0 ((⟨s.N,t1,s.σ++qR L listed,s.mv⟩:St).bf (looks ops o)) j a w:=by
   rintro oa rfl hself tK;obtain⟨xs,hxs,_,_⟩:=hP.at_ [];refine⟨hI.defers,hI.jw,hI.size,fun k av hk=> ?_,hI.cZ,hj0,hI.ag⟩;simp only[St.bf,iE] at hk;split at hk
   ·rename_i hkl;exact hI.toCore.late hok hmn hxs him ho hall hself tK (by simpa using hkl) hk
   ·simp at hk
  cases hia:get (yB s.σ.length L) i with
  |some r=>
   obtain⟨p,c,hp,hc⟩:=N9 hia;have hw:=hW p c hp;have hpl:p<L.length:=(List.getElem?_eq_some_iff.1 hp).1;have hnec:=hne c (List.mem_of_getElem? hp);obtain⟨oa,hoa,hlt,hgd,hdst,hself,tK,hact⟩:=hw.al;rcases hc with⟨rfl,rfl⟩|⟨rfl,rfl⟩
   ·
    obtain rfl:o=oa:=by rw[ho] at hoa;exact Option.some.inj hoa
    have hwn:Region.wanted o (yielded ops.toArray a.tmps)=true:=by simp[Region.wanted,hgd]
    rw[if_pos hwn];refine EN (hact (qR L listed) (by simp[qR])) (late rfl hself tK) fun v w' r' σ' j' h6 h7 h8 h9 h10 h11=> ?_;obtain⟨rfl,rfl⟩:=h11;have hno:listed.getD c.dN false=false:=by
     by_cases hb:listed.getD c.dN false=true
     ·by_cases h1:c.dN<m
      ·obtain⟨os,hos,_,_,_,hd,_⟩:=hw.st h1;have:=hI.toCore.far (fun e he1 he2=>hI.cl c.dN os h1 hos (by rw[←iV hI.lsize (by omega)];exact hb) e he1 he2) hd;rw[hnl] at this;cases this
      ·by_cases h2:c.dN<ops.length
       ·rw[hI.lB _ (by omega) h2] at hb;cases hb
       ·have: ¬c.dN<listed.size:=by rw[hI.lsize];exact h2
        simp[this] at hb
     ·simpa using hb
    have hnow:c.now (listed.setIfInBounds c.ia true)=c.blk false:=by
     unfold Own.now;rw[hseti,if_pos rfl,getD_set_ne false hnec,hno]
    obtain⟨xs,hxs,hxa,hloc⟩:=hP.at_ [];obtain⟨j2,k1,k2,k3,k4,k5⟩:=place_own (q:=p) hS hI.cZ (by simp[qR,hpl]) (by simp only[qR,List.getElem?_map,hp,Option.map_some,Own.now,hnl];rfl) (hI.free p c hp hnl) h6 h7 h8 h9 (by
     intro y hy;obtain⟨o',ho',rfl⟩:=List.mem_map.1 hy;unfold Own.now;split
     ·exact .inr ⟨_,rfl⟩
     ·exact .inl rfl)
    have hne': ∀b,b≠s.σ.length+p->b<j.length->j2[b]? =j[b]? :=fun b hb hlt=>k4 b hlt (by simpa using hb);refine step j2 w' v (by rw[WG hL hp (.inl rfl),hnow];exact k1) k3 (fun b hb=>hne' b (by omega) (by rw[hI.jlen];omega)) (fun q' o' hq' hl'=> ?_) (fun k av x hk hd hx=> ?_) (fun av x hu hx=> ?_) (fun k av hk hgt=> ?_)
    ·have hqp:q'≠p:=fun h=>by
      subst h;rw[hp] at hq';cases hq';rw[hseti] at hl';cases hl'
     have hql:q'<L.length:=(List.getElem?_eq_some_iff.1 hq').1;rw[hne' _ (by omega) (by rw[hI.jlen];omega)];refine hI.free q' o' hq' ?_;rwa [getD_set_ne false (fun h=>(hL p q' c o' hp hq' (fun e=>hqp e.symm) c.ia (.inl rfl)).1 h.symm)] at hl'
    ·exact hx.mono k3 hI.cZ.lt k4 (hw.hav k av hk fun h=>hd (by rw[h];exact hdst))
    ·exact hx.mono k3 hI.cZ.lt k4 (wF (n:=s.σ.length) (by simp) av hu)
    ·rw[←hxs,kW hok hmn him ho hk him (Nat.le_refl _),hxa _ _ hia] at hgt;split at hgt
     ·rename_i hlt;obtain rfl:=Option.some.inj hgt;exact⟨hlt,k2⟩
     ·simp at hgt
   ·
    obtain⟨os,hos,hgs,hds,hls,hd,hacs⟩:=hw.st him;obtain rfl:o=os:=by rw[ho] at hos;exact Option.some.inj hos
    have hia1:listed.getD c.ia false=true:=hI.toCore.far hall hd;have hq0:(qR L listed)[p]? =some (c.blk false):=by simp only[qR,List.getElem?_map,hp,Option.map_some,Own.now,hia1,hnl,if_true]
    have hwn:Region.wanted o (yielded ops.toArray a.tmps)=true:=by simp[Region.wanted,hgs]
    rw[if_pos hwn];refine EN (hacs (qR L listed) hq0) (late rfl (fun d h=>by rw[hds] at h;cases h) hls) fun v w' r' σ' j' h6 h7 h8 h9 h10 h11=> ?_;obtain⟨rfl,rfl⟩:=h11;obtain rfl:j'=j:=by
     have hl:j'.length=j.length:=by rw[h6.len,hI.cZ.len];simp
     apply List.ext_getElem?;intro b;rcases Nat.lt_or_ge b j.length with h|h
     ·exact h9 b h (by simp)
     ·rw[List.getElem?_eq_none h,List.getElem?_eq_none (by omega)]
    have hnow:c.now (listed.setIfInBounds c.dN true)=c.blk true:=by
     unfold Own.now;rw[hseti,getD_set_ne false (fun h=>hnec h.symm),hia1,if_pos rfl]
    have mono: ∀{av:AV} {v:Value},R w j' av v->R w' j' av v:=fun hR=>hR.kM h8 hI.cZ.lt (.refl _ _);refine step j' w' v (by rw[WG hL hp (.inr rfl),hnow];exact h6) h8 (fun _ _=>rfl) (fun q' o' hq' hl'=> ?_) (fun k av x _ _ hx=>mono hx) (fun av x _ hx=>mono hx) (fun k av hk=>by rw[hds] at hk;cases hk);refine hI.free q' o' hq' ?_;by_cases hqp:q'=p
    ·subst hqp;rw[hp] at hq';cases hq';rwa [getD_set_ne false (fun h=>hnec h.symm)] at hl'
    ·rwa [getD_set_ne false (fun h=>(hL p q' c o' hp hq' (fun e=>hqp e.symm) c.dN (.inr rfl)).1 h.symm)] at hl'
  |none=>
   obtain⟨xs,hxs,hxa,hloc⟩:=hP.at_ (qR L listed);have hLc:=hloc i o him ho hia;have hrel:Rel j0 ((⟨s.N,(dF s (ops.take m) xs i).t,s.σ++qR L listed,s.mv⟩:St).bf (looks ops o)) j a w:=by
    refine⟨hI.defers,hI.jw,hI.size,fun k av hk=> ?_,hI.cZ,hj0,hI.ag⟩;simp only[St.bf,iE] at hk;split at hk
    ·rename_i hkl;exact hI.toCore.looks hok hmn hxs him ho h0 hall (by simpa using hkl) hk
    ·simp at hk
   have htau:qR L (listed.setIfInBounds i true)=qR L listed:=tauK_keep (Es hia);have hN2: ∀(q:Nat) o,L[q]? =some o->(listed.setIfInBounds i true).getD o.ia false=false->j[s.σ.length+q]? =some none:=fun q o hq hl=>hI.free q o hq (by
    rwa [getD_set_ne false (fun h=>(Es hia o (List.mem_of_getElem? hq)).1 h.symm)] at hl)
   have hval: ∀(w':World) (v:Value),R w' j (xs i) v->∀k av,o.dst=some k->get t1 k=some av->k<s.N/\R w' j av v:=by
    intro w' v hr k av hk hgt;rw[←hxs,kW hok hmn him ho hk him (Nat.le_refl _)] at hgt;split at hgt
    ·rename_i hlt;obtain rfl:xs i=av:=Option.some.inj hgt;exact⟨hlt,hr⟩
    ·simp at hgt
   by_cases hw:Region.wanted o (yielded ops.toArray a.tmps)=true
   ·rw[if_pos hw];exact hLc.run j0 j a w _ _ hrel hw fun w' v h1 h2 h3=>step j w' v (by rw[htau];exact h1) h2 (fun _ _=>rfl) hN2 (fun _ _ _ _ _ h=>h.kM h2 hI.cZ.lt (.refl _ _)) (fun _ _ _ h=>h.kM h2 hI.cZ.lt (.refl _ _)) (hval w' v h3)
   ·rw[if_neg hw];exact step j w Go.undef (by rw[htau];exact hI.cZ) (.refl _ _) (fun _ _=>rfl) hN2 (fun _ _ _ _ _ h=>h) (fun _ _ _ h=>h) (hval w _ (hLc.skip j0 j a w hrel (by simpa using hw)))
end
def Ep(ops:List Oper)(m:Nat):List (Nat×Tmp×Nat)->Bool
 |[]=>true
 |(ia,d,dN)::L=>decide (ia≠dN)&&L.all (fun x=>decide (ia≠x.1)&&decide (ia≠x.2.2)&&decide (dN≠x.1)&&decide (dN≠x.2.2))&&eu ops m (if Nat.blt dN m then[(ia,some d),(dN,none)] else[(ia,some d)])&&Ep ops m L
theorem FQ{ops:List Oper}{m:Nat} : ∀{L:List Own},Ep ops m (L.map fun(o:Own)=>(o.ia,o.d,o.dN))=true->Apart L
 |[],_=>fun p q o o' h=>by simp at h
 |x::xs,h=>fun p q o o' hp hq hne i hi=>by
  simp only[List.map_cons,Ep,Bool.and_eq_true,List.all_eq_true,List.mem_map,forall_exists_index,and_imp,forall_apply_eq_imp_iff₂,decide_eq_true_eq] at h;obtain⟨⟨⟨h1,h2⟩,h3⟩,h4⟩:=h;cases p with
  |zero=>
   cases q with
   |zero=>exact absurd rfl hne
   |succ q=>
    simp at hp hq;subst hp;obtain⟨⟨⟨a1,a2⟩,a3⟩,a4⟩:=h2 o' (List.mem_of_getElem? hq);rcases hi with rfl|rfl
    ·exact⟨fun e=>a1 e.symm,fun e=>a2 e.symm⟩
    ·exact⟨fun e=>a3 e.symm,fun e=>a4 e.symm⟩
  |succ p=>
   cases q with
   |zero=>
    simp at hp hq;subst hq;obtain⟨⟨⟨a1,a2⟩,a3⟩,a4⟩:=h2 o (List.mem_of_getElem? hp);rcases hi with rfl|rfl
    ·exact⟨a1,a3⟩
    ·exact⟨a2,a4⟩
   |succ q=>exact FQ h4 p q o o' (by simpa using hp) (by simpa using hq) (fun e=>hne (by rw[e])) i hi
theorem Eo{ops:List Oper}{m:Nat} : ∀{L:List Own},Ep ops m (L.map fun(o:Own)=>(o.ia,o.d,o.dN))=true->∀o∈L,o.ia≠o.dN/\eu ops m (if Nat.blt o.dN m then[(o.ia,some o.d),(o.dN,none)] else[(o.ia,some o.d)])=true
 |[],_,o,ho=>by simp at ho
 |x::xs,h,o,ho=>by
  simp only[List.map_cons,Ep,Bool.and_eq_true,decide_eq_true_eq] at h;obtain⟨⟨⟨h1,h2⟩,h3⟩,h4⟩:=h;rcases List.mem_cons.1 ho with rfl|ho
  ·exact⟨h1,h3⟩
  ·exact Eo h4 o ho
def RN(P:Program)(ops:List Oper)(m N:Nat)(t1:List (Nat×AV))(σ:List aC)(mv:List Nat)(n:Nat):Nat->List Own->Prop
 |_,[]=>True
 |b,o::os=>((∀τ:List aC,τ.length=n->acA P ops o.ia ⟨N,t1,σ++τ,mv⟩ fun r' σ'=>r'= .ptr (σ++τ).length 0/\σ'=(σ++τ)++[.var (o.cs.map .d)])/\
  cO [b] (del t1 o.d)=del t1 o.d/\
  (o.dN<m->get t1 o.d=some (.ptr b 0)/\match ql ops o.dN with
   |some os=>(match os.op with
    | .store t' p v=>p= .tmp o.d/\arg true ⟨N,t1,[],mv⟩ v fun av=>(match gQ P t' with
     |some (_,k)=>jD (cellsOf av)=true/\(cellsOf av).length=k/\o.cs.length=k/\cellsOf av=o.cs1.map .d
     |none=>False)
    |_=>False)
   |none=>False))/\RN P ops m N t1 σ mv n (b+1) os
theorem Xx{P:Program}{ops:List Oper}{m N:Nat}{t1:List (Nat×AV)}{σ:List aC}{mv:List Nat}{n:Nat} : ∀{L:List Own} {b q:Nat} {o:Own},RN P ops m N t1 σ mv n b L->L[q]? =some o->RN P ops m N t1 σ mv n (b+q) [o]
 |[],b,q,o,_,h=>by simp at h
 |x::xs,b,0,o,h,hq=>by simp at hq;subst hq;exact⟨h.1,trivial⟩
 |x::xs,b,q+1,o,h,hq=>by
  rw[show b+(q+1)=b+1+q by omega];exact Xx h.2 (by simpa using hq)
theorem store_at{P:Program}{tt:TypeId}{N:Nat}{t1:List (Nat×AV)}{σ τ:List aC}{mv:List Nat}{z:List AV}{av:AV}{b:Bool}{k q:Nat}(h1:gQ P tt=some (b,k))(h2:jD (cellsOf av)=true)(h3:(cellsOf av).length=k)(h4:z.length=k)(hq:τ[q]? =some (.var z)):
  qU P tt ⟨N,t1,σ++τ,mv⟩ (.ptr (σ.length+q) 0) av fun s'=>(AV.undef= .undef)/\s'.σ=σ++τ.set q (.var (cellsOf av)):=by
 unfold qU;rw[h1];refine⟨h2,h3,?_⟩;have hs:kV (σ++τ) (.ptr (σ.length+q) 0) (cellsOf av)=some (True,σ++τ.set q (.var (cellsOf av))):=by
  unfold kV;have hd:z.drop k=[]:=List.drop_eq_nil_of_le (by omega);simp[List.getElem?_append_right,hq,h3,h4,jE,hd]
 show(match kV (σ++τ) (.ptr (σ.length+q) 0) (cellsOf av) with|some (side,σ')=>side/\_|none=>False)
 rw[hs];exact⟨trivial,rfl,rfl⟩
theorem arg_ptr{g:Bool}{s:St}{d:Tmp}{b off:Nat}{K:AV->Prop}(h:get s.t d=some (.ptr b off))(hk:K (.ptr b off)):arg g s (.tmp d) K:=by
 unfold arg;rw[show val s (.tmp d)=get s.t d from rfl,h];exact hk
theorem awp_vars{P:Program}{Q:Exit->St->Prop}{N:Nat}{t:List (Nat×AV)}{σ:List aC}{mv:List Nat}{id:Nat}{ops:List Oper}(m:Nat)(L:List Own)(hm:P.follows .mixedOrders=true)(hok:(dW ops m&&Nat.ble m ops.length&&Ep ops m (L.map fun(o:Own)=>(o.ia,o.d,o.dN)))=true){t1:List (Nat×AV)}
  (h1: ∀(τ:List aC) (K:St->Prop),(∀σ' mv',K ⟨N,t1,σ',mv'⟩)->jG P ops (yB σ.length L) [] [] (ops.take m) 0 ⟨N,t,σ++τ,mv⟩ K)
  (h2:RN P ops m N t1 σ mv L.length σ.length L)
  (h3:bI P false ops (ops.drop m) ⟨N,t1,σ++L.map (fun o=>o.blk (Nat.blt o.dN m)),mv⟩ (Q .normal)):dY P (.region id ops.toArray true) Q ⟨N,t,σ,mv⟩:=by
 intro j0 j a w hr;simp only[Bool.and_eq_true,Nat.ble_eq] at hok;obtain⟨⟨hok,hmn⟩,hown⟩:=hok;have hP:PureK P ⟨N,t,σ,mv⟩ ops m t1 (yB σ.length L):=⟨fun τ=>by
  have h:=h1 τ (fun s'=>s'.t=t1) (fun _ _=>rfl);have hlen:(ops.take m).length=m:=by simp;omega
  obtain⟨xs,hK,hia,hloc⟩:=ES h;have hext:=Steps.qV ⟨N,t,σ,mv⟩ (σ++τ) (ops.take m) xs;refine⟨xs,?_,fun i r hi=>hia i r (by simpa using hi),fun i o him ho h3=> ?_⟩
  ·rw[hlen,hext] at hK;exact hK
  ·have:=hloc i o (by rw[jU him];exact ho) (by simpa using h3) rfl;rw[hext] at this;exact this⟩
 have hr':Rel j0 ⟨N,t,σ,mv⟩ j a w.drew:=hr.after (gY j w) hr.cZ.drew (Nat.le_refl _) (.refl _ []);have hf: ∀k b,k<ops.length->(Array.replicate ops.toArray.size false).getD k b=false:=by
  intro k b hk;simp[hk]
 have hjl:j.length=σ.length:=hr'.cZ.len;have hW: ∀(q:Nat) (o:Own),L[q]? =some o->OwnK P ops m L ⟨N,t,σ,mv⟩ t1 q o:=by
  intro q o hq;have hc:=(Eo hown o (List.mem_of_getElem? hq)).2;obtain⟨⟨g1,g2,g3⟩,_⟩:=Xx h2 hq;obtain⟨oa,hoa,hga,hda,hlt,hself,tK,_⟩:=bG hc (k:=0) (by split<;>simp);have e0: ∀c:Bool,oZ (if c then[(o.ia,some o.d),(o.dN,none)] else[(o.ia,some o.d)]) 0=o.ia/\ZF (if c then[(o.ia,some o.d),(o.dN,none)] else[(o.ia,some o.d)]) 0=some o.d:=fun c=>by cases c<;>exact⟨rfl,rfl⟩
  rw[(e0 _).1] at hoa hlt tK;rw[(e0 _).2] at hda;refine⟨⟨oa,hoa,hlt,hga,hda,hself,tK,fun τ hτ=> ?_⟩,fun hl=> ?_,fun k av hk hne=> ?_⟩
  ·have:=g1 τ hτ;unfold acA at this;rw[jc,hoa] at this;exact this
  ·have hb:Nat.blt o.dN m=true:=by simpa using hl
   rw[hb] at hc;obtain⟨os,hos,hgs,hds,_,_,hls,hd⟩:=bG hc (k:=1) (by simp);have hos:ops[o.dN]? =some os:=hos;have hd:Gx ops m 3 os o.ia=true:=(hd (by omega)).1;refine⟨os,hos,hgs,hds,hls,hd,fun τ hτ=> ?_⟩;obtain⟨k1,k2⟩:=g3 hl;rw[jc,hos] at k2;unfold Hr;split at k2
   ·rename_i os' he;cases he
    split at k2
    ·rename_i t' p v hop;obtain⟨rfl,k2⟩:=k2;obtain⟨av,k3,k4⟩:=arg_ex k2;rw[hop];refine arg_ptr k1 (k4 _ _ ?_);split at k3
     ·rename_i b k hk;obtain⟨a1,a2,a3,a4⟩:=k3;have:=store_at (N:=N) (t1:=t1) (σ:=σ) (mv:=mv) hk a1 a2 (by simpa[Own.blk] using a3) hτ;rw[a4] at this;exact this
     ·exact k3.elim
    ·exact k2.elim
   ·exact k2.elim
  ·have h9:get (del t1 o.d) k=some av:=by rw[Cj,if_neg (fun e=>hne e.symm)];exact hk
   exact BM g2 k av (get_mem h9)
 have hext:Ev j w.drew (j++List.replicate L.length none) w.drew:=⟨Nat.le_refl _,fun _ _ _=>rfl,fun b _ hm=>(by
  rcases List.mem_append.1 hm with h|h
  ·exact h
  ·have:=List.eq_of_mem_replicate h;cases this),fun _ _=>rfl,fun _ _=>rfl,rfl,rfl,rfl,fun _ r h=>⟨r,h⟩⟩
 have hagx:Ag j (j++List.replicate L.length none) []:=fun b hb _=>by rw[List.getElem?_append_left hb]
 have htau0:qR L (Array.replicate ops.toArray.size false)=L.map fun _=>aC.dead:=by
  refine List.map_congr_left fun o ho=> ?_;obtain⟨q,hq,rfl⟩:=List.mem_iff_getElem.1 ho;obtain⟨oa,_,hlt,_⟩:=(hW q L[q] (List.getElem?_eq_getElem hq)).al;unfold Own.now;rw[hf _ false (by omega)];rfl
 have mZ:aS w.drew (j++List.replicate L.length none) (σ++L.map fun _=>aC.dead):=by
  refine⟨by simp[hjl],fun b cb hb=> ?_,fun b b' cb hb hb'=> ?_,fun b x hx=> ?_⟩
  ·rw[List.getElem?_append] at hb;split at hb
   ·exact hr'.cZ.lt b cb hb
   ·rw[List.getElem?_replicate] at hb;split at hb<;>simp at hb
  ·rw[List.getElem?_append] at hb hb';split at hb
   ·split at hb'
    ·exact hr'.cZ.inj b b' cb hb hb'
    ·rw[List.getElem?_replicate] at hb';split at hb'<;>simp at hb'
   ·rw[List.getElem?_replicate] at hb;split at hb<;>simp at hb
  ·rw[List.getElem?_append] at hx;split at hx
   ·rename_i hb;obtain⟨o,ho,hB⟩:=hr'.cZ.blk b x hx;exact⟨o,by rw[List.getElem?_append_left (by omega)];exact ho,hB.mono hext hr'.cZ.lt hagx fun _ _=>rfl⟩
   ·rename_i hb;have hlt:b-σ.length<L.length:=by have:=(List.getElem?_eq_some_iff.1 hx).1;simpa using this
    rw[List.getElem?_map,List.getElem?_eq_getElem hlt] at hx;simp at hx;subst hx;exact⟨none,by rw[List.getElem?_append_right (by omega),List.getElem?_replicate,if_pos (by omega)],trivial⟩
 refine wpIn_region_any hm (phaseK hok hmn hr'.cZ (FQ hown) (fun o ho=>(Eo hown o ho).1) hW hP h3 _ (j++List.replicate L.length none) a w.drew _ ?_ ⟨?_,by rw[htau0];exact mZ,by have:=hr'.len0;show j0.js.length<=σ.length;omega,fun b hb hn=> ?_,fun q o hq _=> ?_⟩ ((gY j w).trans hext))
 ·rw[xk];simp
 ·have hC:=Core.start (t1:=t1) (U:=fun av=>av.under σ.length) hmn hr' fun k av hk=>by have:=(hr'.tmp k av hk).2.under;rw[hjl] at this;exact this
  exact⟨hC.defers.mono hext,hC.jw,hC.size,hC.lsize,hC.lB,hC.cl,fun q oq k av h1 h2 h3 h4 h5=>(by rw[hf q true (by omega)] at h4;cases h4),fun k av h1 h2=>by
   have:=hC.c2 k av h1 h2;exact⟨this.1,this.2.1,this.2.2.kM hext hr'.cZ.lt hagx⟩⟩
 ·rw[List.getElem?_append_left (by have:=hr'.len0;omega)];exact hr'.ag b hb hn
 ·have hlt:q<L.length:=(List.getElem?_eq_some_iff.1 hq).1;show(j++List.replicate L.length none)[σ.length+q]? =some none
  rw[List.getElem?_append_right (by omega),List.getElem?_replicate,if_pos (by omega)]
theorem VZ{P:Program}{Q:Exit->St->Prop}{N:Nat}{t:List (Nat×AV)}{σ:List aC}{mv:List Nat}{id:Nat}{ops:List Oper}(m:Nat)(L:List Own)(hm:P.follows .mixedOrders=true)(hok:(dW ops m&&Nat.ble m ops.length&&Ep ops m (L.map fun(o:Own)=>(o.ia,o.d,o.dN)))=true){t1:List (Nat×AV)}
  (h1: ∀(τ:List aC) (K:St->Prop),(∀σ' mv',K ⟨N,t1,σ',mv'⟩)->jG P ops (yB σ.length L) [] [] (ops.take m) 0 ⟨N,t,σ++τ,mv⟩ K)
  (h2:RN P ops m N t1 σ mv L.length σ.length L)
  (h3: ∀K:St->Prop,(∀s',Q .normal s'->K s')->bI P false ops (ops.drop m) ⟨N,t1,σ++L.map (fun o=>o.blk (Nat.blt o.dN m)),mv⟩ K):dY P (.region id ops.toArray true) Q ⟨N,t,σ,mv⟩:=
 awp_vars m L hm hok h1 h2 (h3 _ fun s' h=>h)
attribute [go_sem] yB Own.blk RN acA
end Go.aU.Vars
namespace Go.aU
open Go.ChangeShapes Go.WideShapes Go.ChangeAt Go.RowKit Go.Deep
def RDs(w:World)(ds:List D)(cs:List Value):Prop:=cs.length=ds.length/\∀k,k<ds.length->RD w [] (ds.getD k default) (cs.getD k Go.undef)
theorem RDs.nil(w:World):RDs w [] []:=⟨rfl,by simp⟩
theorem RDs.append{w:World}{a b:List D}{c e:List Value}(h:RDs w a c)(k:RDs w b e):RDs w (a++b) (c++e):=by
 refine⟨by simp[h.1,k.1],fun i hi=> ?_⟩;rcases Nat.lt_or_ge i a.length with hl|hl
 ·have:=h.2 i hl;rw[List.getD_eq_getElem?_getD,List.getD_eq_getElem?_getD,List.getElem?_append_left hl,List.getElem?_append_left (by rw[h.1];exact hl)];rwa [List.getD_eq_getElem?_getD,List.getD_eq_getElem?_getD] at this
 ·have:=k.2 (i-a.length) (by simp at hi;omega);rw[List.getD_eq_getElem?_getD,List.getD_eq_getElem?_getD,List.getElem?_append_right hl,List.getElem?_append_right (by rw[h.1];exact hl),h.1];rwa [List.getD_eq_getElem?_getD,List.getD_eq_getElem?_getD] at this
theorem RDs.one{w:World}{d:D}{c:Value}(h:RD w [] d c):RDs w [d] [c]:=⟨rfl,fun k hk=>by
 have:k=0:=by simpa using hk
 subst this;exact h⟩
def Opn(P:Program)(t:TypeId)(g:List D->Prop):Prop:=
 ∀(H:Type) (enc:TypeId×Value->H) (w:World) (base:Nat) (spare:Nat->Bool) (held:Bool) (fuel:Nat) (cs:List Value) (x:DataW H×List MemPlace),DataW.trod enc P w base spare held fuel t cs=some x->∃ds,g ds/\RDs w ds cs
section
variable {P : Program} {t : TypeId}
theorem Opn.mono{g g':List D->Prop}(h:Opn P t g)(hg: ∀ds,g ds->g' ds):Opn P t g':=fun H enc w base spare held fuel cs x hx=>
 let⟨ds,h1,h2⟩:=h H enc w base spare held fuel cs x hx
 ⟨ds,hg ds h1,h2⟩
theorem opn_int{k:IntKind}(ht:P.underlying t=some (.int k)):Opn P t fun ds=> ∃n,ds=[.v (.int k n)]/\(Lit.int k n).wf=true:=by
 intro H enc w base spare held fuel cs x hx;obtain⟨n,rfl,_,hw⟩:=DataW.trod_int ht hx;exact⟨_,⟨n,rfl,hw⟩,.one (.v _)⟩
theorem opn_bool(ht:P.underlying t=some .bool):Opn P t fun ds=> ∃b,ds=[.v (.bool b)]:=by
 intro H enc w base spare held fuel cs x hx;obtain⟨n,rfl,_⟩:=DataW.trod_bool ht hx;exact⟨_,⟨n,rfl⟩,.one (.v _)⟩
theorem aap(ht:P.underlying t=some .string):Opn P t fun ds=> ∃s:ByteArray,ds=[.v (.string s)]/\s.size<=maxLen:=by
 intro H enc w base spare held fuel cs x hx;obtain⟨n,rfl,_,hw⟩:=DataW.trod_string ht hx;exact⟨_,⟨n,rfl,hw⟩,.one (.v _)⟩
def Goods:List (List D->Prop)->List D->Prop
 |[],ds=>ds=[]
 |g::gs,ds=> ∃a b,ds=a++b/\g a/\Goods gs b
def vS(P:Program)(tot:Nat):Nat->List Field->Bool
 |off,[]=>Nat.beq off tot
 |off,f::fs=>Nat.beq f.offset off&&vS P tot (off+P.cellsOf f.type) fs
inductive All2{α β:Type}(r:α->β->Prop):List α->List β->Prop
 |nil:All2 r [] []
 |cons {a:α} {b:β} {as0:List α} {bs:List β} (h:r a b) (t:All2 r as0 bs):All2 r (a::as0) (b::bs)
theorem JR{tot:Nat} : ∀{fs:List Field} {off:Nat},vS P tot off fs=true->off<=tot
 |[],off,h=>by have:=Nat.eq_of_beq_eq_true h;omega
 |f::fs,off,h=>by
  simp[vS] at h;have:=JR h.2;omega
theorem Og{H:Type}{enc:TypeId×Value->H}{w:World}{base:Nat}{spare:Nat->Bool}{held:Bool}{fuel:Nat}{cs:List Value} :
  ∀{fs:List Field} {gs:List (List D->Prop)} {off:Nat},All2 (fun f g=>Opn P f.type g) fs gs->vS P cs.length off fs=true->
   (∀f∈fs,∃y,DataW.trod enc P w base spare held fuel f.type ((cs.drop f.offset).take (P.cellsOf f.type))=some y)->∃ds,Goods gs ds/\RDs w ds (cs.drop off)
 |[],_,off,.nil,hf,_=>by
  have:=Nat.eq_of_beq_eq_true hf;refine⟨[],rfl,?_⟩;rw[List.drop_eq_nil_of_le (by omega)];exact .nil w
 |f::fs,_,off,.cons h hs,hf,hy=>by
  simp[vS] at hf;obtain⟨h1,h2⟩:=hf;have hle:=JR h2;obtain⟨y,hy0⟩:=hy f (by simp);obtain⟨a,ga,ra⟩:=h _ _ _ _ _ _ _ _ _ hy0;obtain⟨b,gb,rb⟩:=Og hs h2 fun f' hf'=>hy f' (List.mem_cons_of_mem _ hf');refine⟨a++b,⟨a,b,rfl,ga,gb⟩,?_⟩;have:=ra.append rb;rwa [h1,←List.drop_drop,List.take_append_drop] at this
theorem dA{fs:Array Field}{gs:List (List D->Prop)}(ht:P.underlying t=some (.struct fs))(hat:vS P (P.cellsOf t) 0 fs.toList=true)(h:All2 (fun f g=>Opn P f.type g) fs.toList gs):Opn P t (Goods gs):=by
 intro H enc w base spare held fuel cs x hx;obtain⟨xs,n,_,_,hlen,hxl,hf⟩:=DataW.trod_struct ht hx;rw[←hlen] at hat;have:=Og (H:=H) (enc:=enc) (w:=w) (base:=base) (spare:=spare) (held:=held) (fuel:=n) (cs:=cs) (off:=0) h hat ?_
 ·simpa using this
 intro f hm;obtain⟨i,hi⟩:=List.getElem?_of_mem hm;have hi':fs[i]? =some f:=by simpa using hi
 have hlt:i<xs.length:=by rw[hxl];exact(Array.getElem?_eq_some_iff.1 hi').1
 exact⟨xs[i],(hf i f hi').trans (List.getElem?_eq_getElem hlt)⟩
theorem Zx(b off n:Nat):(⟨b,off,none⟩:Addr).add n=⟨b,off+n,none⟩:=by
 unfold Addr.add;split<;>simp_all
theorem fG{e:TypeId}{g:List D->Prop}{sz:Nat}(d0:List D)(ht:P.underlying t=some (.slice e))(hC:P.cellsOf e=sz)(hsz:0<sz)(h:Opn P e g)(h0:g d0):Opn P t fun ds=> ∃n row,ds=[.sl none sz n row]/\n<=maxLen/\∀i,g (row i):=by
 intro H enc w base spare held fuel cs x hx;rcases open_slice ht hx with⟨rfl,_⟩|⟨a,len,cap,m,n,DD,Pl,rfl,hb,hl,hm,hmm,_,hi⟩
 ·exact⟨_,⟨0,fun _=>d0,rfl,by simp,fun _=>h0⟩,.one (.zero none 0 (.inl rfl) fun _=>rfl)⟩
 ·have hml:len<=m:=by rw[hmm];split<;>omega
  have key: ∀i,∃ds,g ds/\(i<len->∃cs',cs'.length=sz/\(∀k,k<sz->w.cell? (a.add (i*sz+k))=some (cs'.getD k Go.undef))/\RDs w ds cs'):=by
   intro i;by_cases hil:i<len
   ·obtain⟨cs',h1,h2⟩:=hi i (by omega);rw[hC] at h1;obtain⟨_,hcl,hat⟩:=World.cells?_some h1;obtain⟨ds,g1,g2⟩:=h _ _ _ _ _ _ _ _ _ h2;refine⟨ds,g1,fun _=>⟨cs',hcl,fun k hk=> ?_,g2⟩⟩;have:=hat k hk;rw[←Go.Deep.add_add,this,List.getD_eq_getElem?_getD,List.getElem?_eq_getElem (by omega)];rfl
   ·exact⟨d0,h0,fun hh=>absurd hh hil⟩
  obtain⟨row,hgr⟩: ∃row:Nat->List aU.D,∀i,g (row i)/\(i<len->∃cs',cs'.length=sz/\(∀k,k<sz->w.cell? (a.add (i*sz+k))=some (cs'.getD k Go.undef))/\RDs w (row i) cs'):=⟨fun i=>(key i).choose,fun i=>(key i).choose_spec⟩;have hg:=fun i=>(hgr i).1;have hrow:=fun i=>(hgr i).2;refine⟨_,⟨len,row,rfl,by omega,hg⟩,.one ?_⟩;rcases Nat.eq_zero_or_pos len with hz|hp
  ·subst hz;exact .zero (some a) cap (.inl rfl) (by simp)
  ·have hcell: ∀i,i<len->∃cs',cs'.length=sz/\(∀k,k<sz->w.cell? (a.add (i*sz+k))=some (cs'.getD k Go.undef))/\RDs w (row i) cs':=fun i hi=>hrow i hi;obtain⟨c0,_,hc0,_⟩:=hcell 0 hp;have h00:=hc0 0 hsz;obtain⟨b,off,spot⟩:=a;have hspot:spot=none:=by simpa[Addr.add] using World.cell?_spot h00
   subst hspot;have hlt:b<w.heap.size:=by
    rcases Nat.lt_or_ge b w.heap.size with hlt|hge
    ·exact hlt
    ·simp[World.cell?,Addr.add,hge] at h00
   refine .sl ⟨b,off,none⟩ cap (fun i k=>(w.cell? ⟨b,off+i*sz+k,none⟩).getD Go.undef) (.inl rfl) hl rfl hlt (by simp) (fun i hi=> ?_) (fun i hi k hk=> ?_) (fun i hi k hk=> ?_)
   ·obtain⟨c,k1,k2,k3⟩:=hcell i hi;rw[←k3.1,k1]
   ·obtain⟨c,k1,k2,k3⟩:=hcell i hi;have:=k2 k hk;rw[Zx] at this;rw[Nat.add_assoc];rw[this];rfl
   ·obtain⟨c,k1,k2,k3⟩:=hcell i hi;have:=k2 k hk;rw[Zx] at this;rw[Nat.add_assoc,this];exact k3.2 k (by rw[←k3.1,k1];exact hk)
end
section
variable {P : Program} {t : TypeId} {H : Type} {enc : TypeId × Value -> H} {w : World} {base : Nat} {spare : Nat -> Bool} {held : Bool} {v : Value} {d : DataW H} {p : List MemPlace} {r : Reach} {b0 : Nat} {g : List D -> Prop}
theorem arg_agg(h:Opn P t g)(hv: ∃cs,v= .agg cs)(hd:DataW.Trod enc P w base spare held t v d p): ∃ds,g ds/\R w [] (.agg (ds.map .d)) v:=by
 obtain⟨cs,rfl⟩:=hv;obtain⟨fuel,hf⟩:=hd;obtain⟨ds,h1,h2⟩:=h _ _ _ _ _ _ _ _ _ hf;refine⟨ds,h1,.agg cs (by have:=h2.1;simpa[Value.cells] using this) fun k hk=> ?_⟩;have hk':k<ds.length:=by simpa using hk
 have:=h2.2 k hk';have e1:(ds.map AV.d).getD k .undef=AV.d (ds.getD k default):=by simp[List.getD_eq_getElem?_getD,hk']
 rw[e1];refine .d ?_;simpa[Value.cells,Array.getD_eq_getD_getElem?,List.getD_eq_getElem?_getD] using this
theorem P8{x:Array Field}(hs:P.underlying t=some (.struct x))(h:Opn P t g)(hv:Value.okWide P w r b0 t v)(hd:DataW.Trod enc P w base spare held t v d p): ∃ds,g ds/\R w [] (.agg (ds.map .d)) v:=by
 obtain⟨cs,rfl,_⟩:=okWide_struct hs hv;exact arg_agg h ⟨cs,rfl⟩ hd
theorem V8{k:IntKind}(ht:P.underlying t=some (.int k))(hv:Value.okWide P w r b0 t v)(hd:DataW.Trod enc P w base spare held t v d p): ∃n,(Lit.int k n).wf=true/\R w [] (.d (.v (.int k n))) v:=by
 obtain⟨n,rfl,_,_,hw⟩:=open_int ht hv hd;exact⟨n,hw,.d (.v _)⟩
end
theorem Rs.cons{w:World}{x:AV}{v:Value}{xs:List AV}{vs:List Value}(h:R w [] x v)(t:Rs w [] xs vs.toArray):Rs w [] (x::xs) (v::vs).toArray:=
 ⟨by have:=t.1;simpa using this,fun k hk=>by
  cases k with
  |zero=>simpa using h
  |succ k=>have:=t.2 k (by simpa using hk);simpa using this⟩
end Go.aU
