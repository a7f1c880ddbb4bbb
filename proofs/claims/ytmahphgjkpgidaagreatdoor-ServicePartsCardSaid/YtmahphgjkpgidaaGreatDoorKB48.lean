/- Contracts and lemmas, joined out of smaller texts by a program; no conditions. -/
import Derived.Test.YtmahphgjkpgidaaGreatDoorRows
import Derived.Test.YtmahphgjkpgidaaGreatDoorKB41
import Derived.HandedShaped
import Derived.Deep.DeepHandedRow
import Derived.Lib.LaidTab
import Derived.LaidLaws
set_option linter.unusedVariables false
set_option linter.unusedSimpArgs false
set_option maxRecDepth 100000
namespace Go.aU
open Go.RowKit
theorem zh{P:Program}{f:FuncId}{avs:List AV}{args:Array Value}{w:World}{c b:Nat}{vs:Array Value}(h:aA P f avs [.tab b vs,.loc c] (.d (.v (.bool true))))(hm: ∃m,w.cell? ⟨c,0,none⟩=some (.int .i64 m))
  (ht: ∃e f,w.heap[b]? =some (.cells vs e f)) (hr:Rs w [none,none] avs args):Calls P f args w fun e w'=>e= .returned (.bool true)/\Below w.heap.size w w':=by
 have hc:c<w.heap.size:=by
  obtain⟨m,hm⟩:=hm;apply Classical.byContradiction;intro hn;have:w.heap[c]? =none:=by simp;omega
  simp[World.cell?,this] at hm
 obtain⟨e,fz,ht⟩:=ht;have hb:b<w.heap.size:=(Array.getElem?_eq_some_iff.1 ht).1;have hS:aT w [none,none] [.tab b vs,.loc c]:=⟨rfl,fun b cb hb=>by
   rcases b with _|_|b<;>simp at hb,fun b b' cb hb=>by
   rcases b with _|_|b<;>simp at hb,fun q x hx=>by
   rcases q with _|_|q
   ·simp at hx;subst hx;exact⟨none,rfl,rfl,hb,by simp,e,by simp[World.shape?,ht],fun i=>by simp[World.cell?,ht]⟩
   ·simp at hx;subst hx;exact⟨none,rfl,rfl,hc,by simp,hm⟩
   ·simp at hx⟩
 refine(h.2 [none,none] w args hS hr).mono ?_;rintro e w' ⟨v,r,σ',j',X,rfl,h1,h2,h3,h4,h5,rfl,rfl,rfl⟩;cases h2 with
 |d h2=>
  cases h2
  exact⟨rfl,⟨h3.os,h3.tape,h3.output,h3.size,fun k hk=>h3.keep k hk (by simp)⟩⟩
theorem RD.none2{w:World}{d:D}{v:Value}(h:RD w [] d v):RD w [Option.none,Option.none] d v:=by
 induction h with
 |v x=>exact .v x
 |sl a c val h1 h2 h3 h4 h5 h6 h7 h8 ih=>exact .sl a c val h1 h2 h3 h4 (by simp) h6 h7 ih
 |zero p c h1 h2=>exact .zero p c h1 h2
theorem R.vX{w:World}{d:D}{v:Value}(h:R w [] (.d d) v):R w [Option.none,Option.none] (.d d) v:=by
 cases h with|d h=>exact .d h.none2
theorem R.xG{w:World}{ds:List D}{v:Value}(h:R w [] (.agg (ds.map .d)) v):R w [Option.none,Option.none] (.agg (ds.map .d)) v:=by
 cases h with
 |agg vs hs h=>
  refine .agg vs hs fun k hk=> ?_;have:=h k hk;have hk':k<ds.length:=by simpa using hk
  have e:(ds.map AV.d).getD k .undef= .d (ds[k]'hk'):=by simp[List.getD_eq_getElem?_getD,hk']
  rw[e] at this⊢;exact this.vX
theorem Po(w:World):Rs w [none,none] [] #[]:=⟨rfl,by simp⟩
theorem RsT.cons{w:World}{x:AV}{v:Value}{xs:List AV}{vs:List Value}(h:R w [none,none] x v)(t:Rs w [none,none] xs vs.toArray):Rs w [none,none] (x::xs) (v::vs).toArray:=
 ⟨by have:=t.1;simpa using this,fun k hk=>by
  cases k with
  |zero=>simpa using h
  |succ k=>have:=t.2 k (by simpa using hk);simpa using this⟩
end Go.aU
namespace Go.Proofs.YtmahphgjkpgidaaGreatDoor
open Go.aU Go.Proofs.Tryz
open Go.ChangeShapes Go.WideShapes Go.ChangeAt Go.RowKit
theorem own:ownKnob prog.godebug=none:=by kernel_rfl
theorem laidOut:laidOutB prog=true:=by kernel_rfl
theorem yX(w:World)(h:w.ShapedOpen prog): ∃m,w.cell? ⟨1,0,none⟩=some (.int .i64 m):=
 Go.Proofs.cell_of_shapedOpen_int (zero:= #[.int .i64 0]) (t:=3) h (of_decide_eq_true (by kernel_rfl)) (by kernel_rfl) rfl (by kernel_rfl) (by kernel_rfl) underlying3
theorem Ve{P:Program}{x:String×DataW Unit}{r:List (String×DataW Unit)}{w:World}(h:laidMet P (x::r) w):laidMet P r w:=by
 obtain⟨ps,h1,h2,h3⟩:=h;obtain⟨g,t,cs,fuel,p,q,_,_,_,_,h4,rfl⟩:=h1;exact⟨q,h4,(List.nodup_append.1 h2).2.1,fun b off hm=>h3 b off (List.mem_append.2 (.inr hm))⟩
def cellsD:DataW Unit->Array Value
 | .agg ds=>(ds.map fun d=>match d with
  | .lit (.int k z)=>Value.int k z
  |_=>Go.undef).toArray
 |_=> #[]
def setC(vs:Array Value):Obj->Obj
 | .cells _ t frozen=> .cells vs t frozen
 |o=>o
noncomputable def laidWorld(os:Os):World:=
 { World.holding prog os ⟨#[],#[],[]⟩ with heap:=(((World.holding prog os ⟨#[],#[],[]⟩).heap.modify 0 (setC (cellsD Rows.laid_internal_strconv_uint64pow10))).modify 2 (setC (cellsD Rows.laid_math_bits_deBruijn32tab))).modify 3 (setC (cellsD Rows.laid_math_bits_deBruijn64tab)) }
theorem laid_met (os : Os) (args : Array Value) : laidMet prog [("math/bits.deBruijn32tab", Rows.laid_math_bits_deBruijn32tab), ("math/bits.deBruijn64tab", Rows.laid_math_bits_deBruijn64tab), ("internal/strconv.uint64pow10", Rows.laid_internal_strconv_uint64pow10)] ((laidWorld os).forCall (fun _ _ => 0) ⟨#[], args, []⟩).memory :=
 laidMet_of_run' 8 (by kernel_rfl) (by kernel_rfl)
theorem powIs {w : World} (h : laidMet prog [("math/bits.deBruijn32tab", Rows.laid_math_bits_deBruijn32tab), ("math/bits.deBruijn64tab", Rows.laid_math_bits_deBruijn64tab), ("internal/strconv.uint64pow10", Rows.laid_internal_strconv_uint64pow10)] w) : ∃ e f, w.heap[0]? = some (.cells gK e f) := by
 have hg : prog.globalNamed "internal/strconv.uint64pow10" = some 0 := by kernel_rfl
 have h2 : laidMet prog [("internal/strconv.uint64pow10", Rows.laid_internal_strconv_uint64pow10)] w := Ve (Ve h)
 have h3 : Lib.TabIs prog w "internal/strconv.uint64pow10" .u64 Lib.pow10Tab := by
  exact Lib.tabIs_of_head (g:=0) (t:=483) (e:=261) (n:=20) hg (by kernel_rfl) (by kernel_rfl) (by kernel_rfl) (by kernel_rfl) (by kernel_rfl) h2
 unfold Lib.TabIs World.var? at h3;rw[hg] at h3;simp only[Option.bind_some] at h3;split at h3
 ·rename_i C e f hC;simp only[Option.some.injEq] at h3;subst h3;exact⟨e,f,hC⟩
 ·cases h3
theorem fH:Opn prog 3 fun ds=> ∃n,ds=[I n]/\(Lit.int .i64 n).wf=true:=opn_int underlying3
theorem opn4:Opn prog 4 fun ds=> ∃b,ds=[B b]:=opn_bool underlying4
theorem opn9:Opn prog 9 fun ds=> ∃s:ByteArray,ds=[Sb s]/\s.size<=maxLen:=opn_string underlying9
theorem opn92:Opn prog 92 fun ds=> ∃x:Span,ds=x.enc:=(bY underlying92 (by kernel_rfl) (.cons fH (.cons fH .nil))).mono fun ds h=>by
 obtain⟨_,_,rfl,⟨a0,rfl,_⟩,_,_,rfl,⟨a1,rfl,_⟩,rfl⟩:=h;exact⟨⟨a0,a1⟩,rfl⟩
theorem opn111:Opn prog 111 fun ds=> ∃x:eF,ds=x.enc:=(bY underlying111 (by kernel_rfl) (.cons fH (.cons fH .nil))).mono fun ds h=>by
 obtain⟨_,_,rfl,⟨a0,rfl,_⟩,_,_,rfl,⟨a1,rfl,_⟩,rfl⟩:=h;exact⟨⟨a0,a1⟩,rfl⟩
theorem opn76:Opn prog 76 fun ds=> ∃x:rU,ds=x.enc:=(bY underlying76 (by kernel_rfl) (.cons fH (.cons fH .nil))).mono fun ds h=>by
 obtain⟨_,_,rfl,⟨a0,rfl,_⟩,_,_,rfl,⟨a1,rfl,_⟩,rfl⟩:=h;exact⟨⟨a0,a1⟩,rfl⟩
theorem opn165:Opn prog 165 fun ds=> ∃x:Rule,ds=x.enc:=(bY underlying165 (by kernel_rfl) (.cons fH (.cons fH (.cons fH (.cons opn4 (.cons opn92 .nil)))))).mono fun ds h=>by
 obtain⟨_,_,rfl,⟨a0,rfl,_⟩,_,_,rfl,⟨a1,rfl,_⟩,_,_,rfl,⟨a2,rfl,_⟩,_,_,rfl,⟨a3,rfl⟩,_,_,rfl,⟨a4,rfl⟩,rfl⟩:=h;exact⟨⟨a0,a1,a2,a3,a4⟩,rfl⟩
theorem opn168:Opn prog 168 fun ds=> ∃x:iq,ds=x.enc:=(bY underlying168 (by kernel_rfl) (.cons fH (.cons opn9 (.cons opn111 (.cons opn111 .nil))))).mono fun ds h=>by
 obtain⟨_,_,rfl,⟨a0,rfl,_⟩,_,_,rfl,⟨a1,rfl,_⟩,_,_,rfl,⟨a2,rfl⟩,_,_,rfl,⟨a3,rfl⟩,rfl⟩:=h;exact⟨⟨a0,a1,a2,a3⟩,rfl⟩
theorem opn171:Opn prog 171 fun ds=> ∃x:jW,ds=x.enc:=(bY underlying171 (by kernel_rfl) (.cons fH (.cons fH (.cons fH (.cons opn4 (.cons opn92 .nil)))))).mono fun ds h=>by
 obtain⟨_,_,rfl,⟨a0,rfl,_⟩,_,_,rfl,⟨a1,rfl,_⟩,_,_,rfl,⟨a2,rfl,_⟩,_,_,rfl,⟨a3,rfl⟩,_,_,rfl,⟨a4,rfl⟩,rfl⟩:=h;exact⟨⟨a0,a1,a2,a3,a4⟩,rfl⟩
theorem opn174:Opn prog 174 fun ds=> ∃x:jG,ds=x.enc:=(bY underlying174 (by kernel_rfl) (.cons fH (.cons fH (.cons fH (.cons fH (.cons opn92 .nil)))))).mono fun ds h=>by
 obtain⟨_,_,rfl,⟨a0,rfl,_⟩,_,_,rfl,⟨a1,rfl,_⟩,_,_,rfl,⟨a2,rfl,_⟩,_,_,rfl,⟨a3,rfl,_⟩,_,_,rfl,⟨a4,rfl⟩,rfl⟩:=h;exact⟨⟨a0,a1,a2,a3,a4⟩,rfl⟩
theorem opn54:Opn prog 54 fun ds=> ∃x:Row,ds=x.enc:=(bY underlying54 (by kernel_rfl) (.cons fH (.cons fH (.cons fH .nil)))).mono fun ds h=>by
 obtain⟨_,_,rfl,⟨a0,rfl,_⟩,_,_,rfl,⟨a1,rfl,_⟩,_,_,rfl,⟨a2,rfl,_⟩,rfl⟩:=h;exact⟨⟨a0,a1,a2⟩,rfl⟩
theorem opn157:Opn prog 157 fun ds=> ∃x:Cnt,ds=x.enc:=(bY underlying157 (by kernel_rfl) (.cons fH (.cons fH .nil))).mono fun ds h=>by
 obtain⟨_,_,rfl,⟨a0,rfl,_⟩,_,_,rfl,⟨a1,rfl,_⟩,rfl⟩:=h;exact⟨⟨a0,a1⟩,rfl⟩
theorem opn81:Opn prog 81 fun ds=> ∃x:sO,ds=x.enc:=(bY underlying81 (by kernel_rfl) (.cons fH (.cons fH (.cons fH (.cons fH .nil))))).mono fun ds h=>by
 obtain⟨_,_,rfl,⟨a0,rfl,_⟩,_,_,rfl,⟨a1,rfl,_⟩,_,_,rfl,⟨a2,rfl,_⟩,_,_,rfl,⟨a3,rfl,_⟩,rfl⟩:=h;exact⟨⟨a0,a1,a2,a3⟩,rfl⟩
theorem opn125:Opn prog 125 fun ds=> ∃x:iE,ds=x.enc:=(bY underlying125 (by kernel_rfl) (.cons fH (.cons fH (.cons opn76 (.cons opn76 .nil))))).mono fun ds h=>by
 obtain⟨_,_,rfl,⟨a0,rfl,_⟩,_,_,rfl,⟨a1,rfl,_⟩,_,_,rfl,⟨a2,rfl⟩,_,_,rfl,⟨a3,rfl⟩,rfl⟩:=h;exact⟨⟨a0,a1,a2,a3⟩,rfl⟩
theorem opn159:Opn prog 159 fun ds=> ∃x:dU,ds=x.enc:=(bY underlying159 (by kernel_rfl) (.cons fH (.cons fH (.cons fH (.cons fH (.cons fH (.cons fH (.cons fH .nil)))))))).mono fun ds h=>by
 obtain⟨_,_,rfl,⟨a0,rfl,_⟩,_,_,rfl,⟨a1,rfl,_⟩,_,_,rfl,⟨a2,rfl,_⟩,_,_,rfl,⟨a3,rfl,_⟩,_,_,rfl,⟨a4,rfl,_⟩,_,_,rfl,⟨a5,rfl,_⟩,_,_,rfl,⟨a6,rfl,_⟩,rfl⟩:=h;exact⟨⟨a0,a1,a2,a3,a4,a5,a6⟩,rfl⟩
theorem opn94:Opn prog 94 fun ds=> ∃x:jH,ds=x.enc:=(bY underlying94 (by kernel_rfl) (.cons fH (.cons fH (.cons opn92 .nil)))).mono fun ds h=>by
 obtain⟨_,_,rfl,⟨a0,rfl,_⟩,_,_,rfl,⟨a1,rfl,_⟩,_,_,rfl,⟨a2,rfl⟩,rfl⟩:=h;exact⟨⟨a0,a1,a2⟩,rfl⟩
theorem opn161:Opn prog 161 fun ds=> ∃x:lD,ds=x.enc:=(bY underlying161 (by kernel_rfl) (.cons fH (.cons fH .nil))).mono fun ds h=>by
 obtain⟨_,_,rfl,⟨a0,rfl,_⟩,_,_,rfl,⟨a1,rfl,_⟩,rfl⟩:=h;exact⟨⟨a0,a1⟩,rfl⟩
theorem opn84:Opn prog 84 fun ds=> ∃x:sN,ds=x.enc:=(bY underlying84 (by kernel_rfl) (.cons fH (.cons fH (.cons fH .nil)))).mono fun ds h=>by
 obtain⟨_,_,rfl,⟨a0,rfl,_⟩,_,_,rfl,⟨a1,rfl,_⟩,_,_,rfl,⟨a2,rfl,_⟩,rfl⟩:=h;exact⟨⟨a0,a1,a2⟩,rfl⟩
theorem opn40:Opn prog 40 fun ds=> ∃y,ds=[y]/\∃n g,y=SL none 1 encI n g/\n<=maxLen:=(eH (sz:=1) (encI 0) underlying40 (by kernel_rfl) (by omega) fH ⟨_,rfl,by decide⟩).mono fun ds h=>by
 obtain⟨n,row,rfl,hn,h⟩:=h;exact⟨_,rfl,n,fun i=>(h i).choose,congrArg (D.sl none 1 n) (funext fun i=>(h i).choose_spec.1),hn⟩
theorem opn41:Opn prog 41 fun ds=> ∃y,ds=[y]/\∃n g,y=SL none 1 encS n g/\n<=maxLen:=(eH (sz:=1) (encS .empty) underlying41 (by kernel_rfl) (by omega) opn9 ⟨_,rfl,by decide⟩).mono fun ds h=>by
 obtain⟨n,row,rfl,hn,h⟩:=h;exact⟨_,rfl,n,fun i=>(h i).choose,congrArg (D.sl none 1 n) (funext fun i=>(h i).choose_spec.1),hn⟩
theorem opn71:Opn prog 71 fun ds=> ∃y,ds=[y]/\∃n g,y=SL none 2 Cnt.enc n g/\n<=maxLen:=(eH (sz:=2) (Cnt.enc default) underlying71 (by kernel_rfl) (by omega) opn157 ⟨_,rfl⟩).mono fun ds h=>by
 obtain⟨n,row,rfl,hn,h⟩:=h;exact⟨_,rfl,n,fun i=>(h i).choose,congrArg (D.sl none 2 n) (funext fun i=>(h i).choose_spec),hn⟩
theorem opn73:Opn prog 73 fun ds=> ∃x:Bx,ds=x.enc:=(bY underlying73 (by kernel_rfl) (.cons fH (.cons fH (.cons fH (.cons fH (.cons opn71 .nil)))))).mono fun ds h=>by
 obtain⟨_,_,rfl,⟨a0,rfl,_⟩,_,_,rfl,⟨a1,rfl,_⟩,_,_,rfl,⟨a2,rfl,_⟩,_,_,rfl,⟨a3,rfl,_⟩,_,_,rfl,⟨y4,rfl,n4,g4,rfl,h4⟩,rfl⟩:=h;exact⟨⟨a0,a1,a2,a3,n4,g4⟩,rfl⟩
theorem opn113:Opn prog 113 fun ds=> ∃x:kP,ds=x.enc:=(bY underlying113 (by kernel_rfl) (.cons fH (.cons opn111 (.cons fH (.cons opn40 .nil))))).mono fun ds h=>by
 obtain⟨_,_,rfl,⟨a0,rfl,_⟩,_,_,rfl,⟨a1,rfl⟩,_,_,rfl,⟨a2,rfl,_⟩,_,_,rfl,⟨y3,rfl,n3,g3,rfl,h3⟩,rfl⟩:=h;exact⟨⟨a0,a1,a2,n3,g3⟩,rfl⟩
theorem opn22:Opn prog 22 fun ds=> ∃y,ds=[y]/\∃n g,y=SL none 5 kP.enc n g/\n<=maxLen:=(eH (sz:=5) (kP.enc default) underlying22 (by kernel_rfl) (by omega) opn113 ⟨_,rfl⟩).mono fun ds h=>by
 obtain⟨n,row,rfl,hn,h⟩:=h;exact⟨_,rfl,n,fun i=>(h i).choose,congrArg (D.sl none 5 n) (funext fun i=>(h i).choose_spec),hn⟩
theorem opn23:Opn prog 23 fun ds=> ∃y,ds=[y]/\∃n g,y=SL none 6 Rule.enc n g/\n<=maxLen:=(eH (sz:=6) (Rule.enc default) underlying23 (by kernel_rfl) (by omega) opn165 ⟨_,rfl⟩).mono fun ds h=>by
 obtain⟨n,row,rfl,hn,h⟩:=h;exact⟨_,rfl,n,fun i=>(h i).choose,congrArg (D.sl none 6 n) (funext fun i=>(h i).choose_spec),hn⟩
theorem opn24:Opn prog 24 fun ds=> ∃y,ds=[y]/\∃n g,y=SL none 6 iq.enc n g/\n<=maxLen:=(eH (sz:=6) (iq.enc default) underlying24 (by kernel_rfl) (by omega) opn168 ⟨_,rfl⟩).mono fun ds h=>by
 obtain⟨n,row,rfl,hn,h⟩:=h;exact⟨_,rfl,n,fun i=>(h i).choose,congrArg (D.sl none 6 n) (funext fun i=>(h i).choose_spec),hn⟩
theorem opn25:Opn prog 25 fun ds=> ∃y,ds=[y]/\∃n g,y=SL none 6 jW.enc n g/\n<=maxLen:=(eH (sz:=6) (jW.enc default) underlying25 (by kernel_rfl) (by omega) opn171 ⟨_,rfl⟩).mono fun ds h=>by
 obtain⟨n,row,rfl,hn,h⟩:=h;exact⟨_,rfl,n,fun i=>(h i).choose,congrArg (D.sl none 6 n) (funext fun i=>(h i).choose_spec),hn⟩
theorem opn26:Opn prog 26 fun ds=> ∃y,ds=[y]/\∃n g,y=SL none 6 jG.enc n g/\n<=maxLen:=(eH (sz:=6) (jG.enc default) underlying26 (by kernel_rfl) (by omega) opn174 ⟨_,rfl⟩).mono fun ds h=>by
 obtain⟨n,row,rfl,hn,h⟩:=h;exact⟨_,rfl,n,fun i=>(h i).choose,congrArg (D.sl none 6 n) (funext fun i=>(h i).choose_spec),hn⟩
theorem opn29:Opn prog 29 fun ds=> ∃y,ds=[y]/\∃n g,y=SL none 5 Bx.enc n g/\n<=maxLen:=(eH (sz:=5) (Bx.enc default) underlying29 (by kernel_rfl) (by omega) opn73 ⟨_,rfl⟩).mono fun ds h=>by
 obtain⟨n,row,rfl,hn,h⟩:=h;exact⟨_,rfl,n,fun i=>(h i).choose,congrArg (D.sl none 5 n) (funext fun i=>(h i).choose_spec),hn⟩
theorem opn30:Opn prog 30 fun ds=> ∃y,ds=[y]/\∃n g,y=SL none 4 sO.enc n g/\n<=maxLen:=(eH (sz:=4) (sO.enc default) underlying30 (by kernel_rfl) (by omega) opn81 ⟨_,rfl⟩).mono fun ds h=>by
 obtain⟨n,row,rfl,hn,h⟩:=h;exact⟨_,rfl,n,fun i=>(h i).choose,congrArg (D.sl none 4 n) (funext fun i=>(h i).choose_spec),hn⟩
theorem opn31:Opn prog 31 fun ds=> ∃y,ds=[y]/\∃n g,y=SL none 6 iE.enc n g/\n<=maxLen:=(eH (sz:=6) (iE.enc default) underlying31 (by kernel_rfl) (by omega) opn125 ⟨_,rfl⟩).mono fun ds h=>by
 obtain⟨n,row,rfl,hn,h⟩:=h;exact⟨_,rfl,n,fun i=>(h i).choose,congrArg (D.sl none 6 n) (funext fun i=>(h i).choose_spec),hn⟩
theorem opn32:Opn prog 32 fun ds=> ∃y,ds=[y]/\∃n g,y=SL none 7 dU.enc n g/\n<=maxLen:=(eH (sz:=7) (dU.enc default) underlying32 (by kernel_rfl) (by omega) opn159 ⟨_,rfl⟩).mono fun ds h=>by
 obtain⟨n,row,rfl,hn,h⟩:=h;exact⟨_,rfl,n,fun i=>(h i).choose,congrArg (D.sl none 7 n) (funext fun i=>(h i).choose_spec),hn⟩
theorem opn33:Opn prog 33 fun ds=> ∃y,ds=[y]/\∃n g,y=SL none 4 jH.enc n g/\n<=maxLen:=(eH (sz:=4) (jH.enc default) underlying33 (by kernel_rfl) (by omega) opn94 ⟨_,rfl⟩).mono fun ds h=>by
 obtain⟨n,row,rfl,hn,h⟩:=h;exact⟨_,rfl,n,fun i=>(h i).choose,congrArg (D.sl none 4 n) (funext fun i=>(h i).choose_spec),hn⟩
theorem opn35:Opn prog 35 fun ds=> ∃y,ds=[y]/\∃n g,y=SL none 2 lD.enc n g/\n<=maxLen:=(eH (sz:=2) (lD.enc default) underlying35 (by kernel_rfl) (by omega) opn161 ⟨_,rfl⟩).mono fun ds h=>by
 obtain⟨n,row,rfl,hn,h⟩:=h;exact⟨_,rfl,n,fun i=>(h i).choose,congrArg (D.sl none 2 n) (funext fun i=>(h i).choose_spec),hn⟩
theorem opn36:Opn prog 36 fun ds=> ∃y,ds=[y]/\∃n g,y=SL none 3 sN.enc n g/\n<=maxLen:=(eH (sz:=3) (sN.enc default) underlying36 (by kernel_rfl) (by omega) opn84 ⟨_,rfl⟩).mono fun ds h=>by
 obtain⟨n,row,rfl,hn,h⟩:=h;exact⟨_,rfl,n,fun i=>(h i).choose,congrArg (D.sl none 3 n) (funext fun i=>(h i).choose_spec),hn⟩
theorem opn39:Opn prog 39 fun ds=> ∃y,ds=[y]/\∃n g,y=SL none 3 Row.enc n g/\n<=maxLen:=(eH (sz:=3) (Row.enc default) underlying39 (by kernel_rfl) (by omega) opn54 ⟨_,rfl⟩).mono fun ds h=>by
 obtain⟨n,row,rfl,hn,h⟩:=h;exact⟨_,rfl,n,fun i=>(h i).choose,congrArg (D.sl none 3 n) (funext fun i=>(h i).choose_spec),hn⟩
theorem opn100:Opn prog 100 fun ds=> ∃x:fU,ds=x.enc/\x.nu<=9223372036854775807/\x.nb<=9223372036854775807:=(bY underlying100 (by kernel_rfl) (.cons fH (.cons fH (.cons fH (.cons fH (.cons fH (.cons fH (.cons opn40 (.cons opn40 .nil))))))))).mono fun ds h=>by
 obtain⟨_,_,rfl,⟨a0,rfl,_⟩,_,_,rfl,⟨a1,rfl,_⟩,_,_,rfl,⟨a2,rfl,_⟩,_,_,rfl,⟨a3,rfl,_⟩,_,_,rfl,⟨a4,rfl,_⟩,_,_,rfl,⟨a5,rfl,_⟩,_,_,rfl,⟨y6,rfl,n6,g6,rfl,h6⟩,_,_,rfl,⟨y7,rfl,n7,g7,rfl,h7⟩,rfl⟩:=h;exact⟨⟨a0,a1,a2,a3,a4,a5,n6,g6,n7,g7⟩,rfl,h6,h7⟩
theorem opn34:Opn prog 34 fun ds=> ∃y,ds=[y]/\∃(n:Nat) (g:Nat->fU),y=SL none 8 fU.enc n g/\n<=maxLen/\∀i,(g i).nu<=9223372036854775807/\(g i).nb<=9223372036854775807:=(eH (sz:=8) (fU.enc ⟨0,0,0,0,0,0,0,fun _=>0,0,fun _=>0⟩) underlying34 (by kernel_rfl) (by omega) opn100 ⟨_,rfl,by decide,by decide⟩).mono fun ds h=>by
 obtain⟨n,row,rfl,hn,h⟩:=h;exact⟨_,rfl,n,fun i=>(h i).choose,congrArg (D.sl none 8 n) (funext fun i=>(h i).choose_spec.1),hn,fun i=>(h i).choose_spec.2⟩
theorem opn28:Opn prog 28 fun ds=> ∃p:oC,ds=p.enc/\p.ns<=9223372036854775807/\p.np<=9223372036854775807:=(bY underlying28 (by kernel_rfl) (.cons opn22 (.cons opn23 (.cons opn24 (.cons fH (.cons opn25 (.cons opn26 .nil))))))).mono fun ds h=>by
 obtain⟨_,_,rfl,⟨y0,rfl,n0,g0,rfl,h0⟩,_,_,rfl,⟨y1,rfl,n1,g1,rfl,h1⟩,_,_,rfl,⟨y2,rfl,n2,g2,rfl,h2⟩,_,_,rfl,⟨a3,rfl,_⟩,_,_,rfl,⟨y4,rfl,n4,g4,rfl,h4⟩,_,_,rfl,⟨y5,rfl,n5,g5,rfl,h5⟩,rfl⟩:=h;exact⟨⟨n0,g0,n1,g1,n2,g2,a3,n4,g4,n5,g5⟩,rfl,h0,h2⟩
def encUse(u:Use):List D:=u.P.enc++[SL none 5 Bx.enc u.nb u.gb,SL none 4 sO.enc u.nf u.gf,SL none 6 iE.enc u.nv u.gv,SL none 7 dU.enc u.nr u.gr,I u.lT,SL none 4 jH.enc u.nk u.gk,SL none 8 fU.enc u.nt u.gt,SL none 2 lD.enc u.nl u.gl,SL none 3 sN.enc u.nw u.gw,I u.Changed]
theorem opn38:Opn prog 38 fun ds=> ∃u:Use,ds=encUse u/\LW u:=(bY underlying38 (by kernel_rfl) (.cons opn28 (.cons opn29 (.cons opn30 (.cons opn31 (.cons opn32 (.cons fH (.cons opn33 (.cons opn34 (.cons opn35 (.cons opn36 (.cons fH .nil)))))))))))).mono fun ds h=>by
 obtain⟨_,_,rfl,⟨p,rfl,hs,hp⟩,_,_,rfl,⟨y1,rfl,n1,g1,rfl,h1⟩,_,_,rfl,⟨y2,rfl,n2,g2,rfl,h2⟩,_,_,rfl,⟨y3,rfl,n3,g3,rfl,h3⟩,_,_,rfl,⟨y4,rfl,n4,g4,rfl,h4⟩,_,_,rfl,⟨a5,rfl,_⟩,_,_,rfl,⟨y6,rfl,n6,g6,rfl,h6⟩,_,_,rfl,⟨y7,rfl,n7,g7,rfl,h7,hb⟩,_,_,rfl,⟨y8,rfl,n8,g8,rfl,h8⟩,_,_,rfl,⟨y9,rfl,n9,g9,rfl,h9⟩,_,_,rfl,⟨a10,rfl,_⟩,rfl⟩:=h;exact⟨⟨p,n1,g1,n2,g2,n3,g3,n4,g4,a5,n6,g6,n7,g7,n8,g8,n9,g9,a10⟩,rfl,⟨hs,hp,h1,h7,fun i _=>(hb i).1,fun i _=>(hb i).2⟩⟩
theorem opn43:Opn prog 43 fun ds=> ∃e:Ev,ds=e.enc/\(e.cn=none/\e.ct=none)/\e.nn<=9223372036854775807/\e.nt<=9223372036854775807:=(bY underlying43 (by kernel_rfl) (.cons fH (.cons fH (.cons fH (.cons opn40 (.cons opn41 .nil)))))).mono fun ds h=>by
 obtain⟨_,_,rfl,⟨a0,rfl,_⟩,_,_,rfl,⟨a1,rfl,_⟩,_,_,rfl,⟨a2,rfl,_⟩,_,_,rfl,⟨y3,rfl,n3,g3,rfl,h3⟩,_,_,rfl,⟨y4,rfl,n4,g4,rfl,h4⟩,rfl⟩:=h;exact⟨⟨a0,a1,a2,none,n3,g3,none,n4,g4⟩,rfl,⟨rfl,rfl⟩,h3,h4⟩
open Go.dh
theorem opn47:Opn prog 47 fun ds=> ∃y,ds=[y]/\∃(n:Nat) (g:Nat->Ev),y=SL none 5 Ev.enc n g/\n<=maxLen/\∀i,((g i).cn=none/\(g i).ct=none)/\(g i).nn<=9223372036854775807/\(g i).nt<=9223372036854775807:=(eH (sz:=5) (Ev.enc default) underlying47 (by kernel_rfl) (by omega) opn43 ⟨_,rfl,⟨rfl,rfl⟩,by decide,by decide⟩).mono fun ds h=>by
 obtain⟨n,row,rfl,hn,h⟩:=h;exact⟨_,rfl,n,fun i=>(h i).choose,congrArg (D.sl none 5 n) (funext fun i=>(h i).choose_spec.1),hn,fun i=>(h i).choose_spec.2⟩
end Go.Proofs.YtmahphgjkpgidaaGreatDoor
