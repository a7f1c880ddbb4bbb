/- Contracts and lemmas, joined out of smaller texts by a program; no conditions. -/
import Derived.Test.YthlhlnbcjlpigaaGreatDoorRows
import Derived.Test.YthlhlnbcjlpigaaGreatDoorKB35
import Derived.HandedShaped
import Derived.Deep.DeepHandedRow
import Derived.Lib.LaidTab
import Derived.LaidLaws
set_option linter.unusedVariables false
set_option linter.unusedSimpArgs false
namespace Go.aU
open Go.RowKit
theorem OH{P:Program}{f:FuncId}{avs:List AV}{args:Array Value}{w:World}{c b:Nat}{vs:Array Value}(h:ay P f avs [.tab b vs,.loc c] (.d (.v (.bool true))))(hm: ∃m,w.cell? ⟨c,0,none⟩=some (.int .i64 m))
  (ht: ∃e f,w.heap[b]? =some (.cells vs e f)) (hr:Rs w [none,none] avs args):Calls P f args w fun e w'=>e= .returned (.bool true)/\Below w.heap.size w w':=by
 have hc:c<w.heap.size:=by
  obtain⟨m,hm⟩:=hm;apply Classical.byContradiction;intro hn;have:w.heap[c]? =none:=by simp;omega
  simp[World.cell?,this] at hm
 obtain⟨e,fz,ht⟩:=ht;have hb:b<w.heap.size:=(Array.getElem?_eq_some_iff.1 ht).1;have hS:aS w [none,none] [.tab b vs,.loc c]:=⟨rfl,fun b cb hb=>by
   rcases b with _|_|b<;>simp at hb,fun b b' cb hb=>by
   rcases b with _|_|b<;>simp at hb,fun q x hx=>by
   rcases q with _|_|q
   ·simp at hx;subst hx;exact⟨none,rfl,rfl,hb,by simp,e,by simp[World.shape?,ht],fun i=>by simp[World.cell?,ht]⟩
   ·simp at hx;subst hx;exact⟨none,rfl,rfl,hc,by simp,hm⟩
   ·simp at hx⟩
 refine(h.2 [none,none] w args hS hr).mono ?_;rintro e w' ⟨v,r,σ',j',X,rfl,h1,h2,h3,h4,h5,rfl,rfl,rfl⟩;cases h2 with
 |d h2=>
  cases h2
  exact⟨rfl,⟨h3.os,h3.tape,h3.output,h3.size,fun k hk=>h3.keep k hk (by simp)⟩⟩
theorem RD.none2{w:World}{d:D}{v:Value}(h:RD w [] d v):RD w [Option.none,Option.none] d v:=by
 induction h with
 |v x=>exact .v x
 |sl a c val h1 h2 h3 h4 h5 h6 h7 h8 ih=>exact .sl a c val h1 h2 h3 h4 (by simp) h6 h7 ih
 |zero p c h1 h2=>exact .zero p c h1 h2
theorem R.Ls{w:World}{d:D}{v:Value}(h:R w [] (.d d) v):R w [Option.none,Option.none] (.d d) v:=by
 cases h with|d h=>exact .d h.none2
theorem R.RJ{w:World}{ds:List D}{v:Value}(h:R w [] (.agg (ds.map .d)) v):R w [Option.none,Option.none] (.agg (ds.map .d)) v:=by
 cases h with
 |agg vs hs h=>
  refine .agg vs hs fun k hk=> ?_;have:=h k hk;have hk':k<ds.length:=by simpa using hk
  have e:(ds.map AV.d).getD k .undef= .d (ds[k]'hk'):=by simp[List.getD_eq_getElem?_getD,hk']
  rw[e] at this⊢;exact this.Ls
theorem rsT_nil(w:World):Rs w [none,none] [] #[]:=⟨rfl,by simp⟩
theorem RsT.cons{w:World}{x:AV}{v:Value}{xs:List AV}{vs:List Value}(h:R w [none,none] x v)(t:Rs w [none,none] xs vs.toArray):Rs w [none,none] (x::xs) (v::vs).toArray:=
 ⟨by have:=t.1;simpa using this,fun k hk=>by
  cases k with
  |zero=>simpa using h
  |succ k=>have:=t.2 k (by simpa using hk);simpa using this⟩
end Go.aU
namespace Go.Proofs.YthlhlnbcjlpigaaGreatDoor
open Go.aU Go.Proofs.Tryz
open Go.ChangeShapes Go.WideShapes Go.ChangeAt Go.RowKit
theorem own:ownKnob prog.godebug=none:=by kernel_rfl
theorem laidOut:laidOutB prog=true:=by kernel_rfl
theorem OA(w:World)(h:w.ShapedOpen prog): ∃m,w.cell? ⟨1,0,none⟩=some (.int .i64 m):=
 Go.Proofs.cell_of_shapedOpen_int (zero:= #[.int .i64 0]) (t:=3) h (of_decide_eq_true (by kernel_rfl)) (by kernel_rfl) rfl (by kernel_rfl) (by kernel_rfl) underlying3
theorem Sv{P:Program}{x:String×DataW Unit}{r:List (String×DataW Unit)}{w:World}(h:laidMet P (x::r) w):laidMet P r w:=by
 obtain⟨ps,h1,h2,h3⟩:=h;obtain⟨g,t,cs,fuel,p,q,_,_,_,_,h4,rfl⟩:=h1;exact⟨q,h4,(List.nodup_append.1 h2).2.1,fun b off hm=>h3 b off (List.mem_append.2 (.inr hm))⟩
def cellsD:DataW Unit->Array Value
 | .agg ds=>(ds.map fun d=>match d with
  | .lit (.int k z)=>Value.int k z
  |_=>Go.undef).toArray
 |_=> #[]
def setC(vs:Array Value):Obj->Obj
 | .cells _ t frozen=> .cells vs t frozen
 |o=>o
noncomputable def laidWorld(os:Os):World:=
 { World.holding prog os ⟨#[],#[],[]⟩ with heap:=(((World.holding prog os ⟨#[],#[],[]⟩).heap.modify 0 (setC (cellsD Rows.laid_internal_strconv_uint64pow10))).modify 2 (setC (cellsD Rows.laid_math_bits_deBruijn32tab))).modify 3 (setC (cellsD Rows.laid_math_bits_deBruijn64tab)) }
theorem laid_met (os : Os) (args : Array Value) : laidMet prog [("math/bits.deBruijn32tab", Rows.laid_math_bits_deBruijn32tab), ("math/bits.deBruijn64tab", Rows.laid_math_bits_deBruijn64tab), ("internal/strconv.uint64pow10", Rows.laid_internal_strconv_uint64pow10)] ((laidWorld os).forCall (fun _ _ => 0) ⟨#[], args, []⟩).memory :=
 laidMet_of_run' 8 (by kernel_rfl) (by kernel_rfl)
theorem powIs {w : World} (h : laidMet prog [("math/bits.deBruijn32tab", Rows.laid_math_bits_deBruijn32tab), ("math/bits.deBruijn64tab", Rows.laid_math_bits_deBruijn64tab), ("internal/strconv.uint64pow10", Rows.laid_internal_strconv_uint64pow10)] w) : ∃ e f, w.heap[0]? = some (.cells iR e f) := by
 have hg : prog.globalNamed "internal/strconv.uint64pow10" = some 0 := by kernel_rfl
 have h2 : laidMet prog [("internal/strconv.uint64pow10", Rows.laid_internal_strconv_uint64pow10)] w := Sv (Sv h)
 have h3 : Lib.TabIs prog w "internal/strconv.uint64pow10" .u64 Lib.pow10Tab := by
  exact Lib.tabIs_of_head (g:=0) (t:=420) (e:=246) (n:=20) hg (by kernel_rfl) (by kernel_rfl) (by kernel_rfl) (by kernel_rfl) (by kernel_rfl) h2
 unfold Lib.TabIs World.var? at h3;rw[hg] at h3;simp only[Option.bind_some] at h3;split at h3
 ·rename_i C e f hC;simp only[Option.some.injEq] at h3;subst h3;exact⟨e,f,hC⟩
 ·cases h3
theorem fH:Opn prog 3 fun ds=> ∃n,ds=[I n]/\(Lit.int .i64 n).wf=true:=opn_int underlying3
theorem opn4:Opn prog 4 fun ds=> ∃b,ds=[B b]:=opn_bool underlying4
theorem opn9:Opn prog 9 fun ds=> ∃s:ByteArray,ds=[Sb s]/\s.size<=maxLen:=aap underlying9
theorem UH:Opn prog 146 fun ds=> ∃x:Span,ds=x.enc:=(dA underlying146 (by kernel_rfl) (.cons fH (.cons fH .nil))).mono fun ds h=>by
 obtain⟨_,_,rfl,⟨a0,rfl,_⟩,_,_,rfl,⟨a1,rfl,_⟩,rfl⟩:=h;exact⟨⟨a0,a1⟩,rfl⟩
theorem opn87:Opn prog 87 fun ds=> ∃x:fU,ds=x.enc:=(dA underlying87 (by kernel_rfl) (.cons fH (.cons fH .nil))).mono fun ds h=>by
 obtain⟨_,_,rfl,⟨a0,rfl,_⟩,_,_,rfl,⟨a1,rfl,_⟩,rfl⟩:=h;exact⟨⟨a0,a1⟩,rfl⟩
theorem opn42:Opn prog 42 fun ds=> ∃x:sH,ds=x.enc:=(dA underlying42 (by kernel_rfl) (.cons fH (.cons fH .nil))).mono fun ds h=>by
 obtain⟨_,_,rfl,⟨a0,rfl,_⟩,_,_,rfl,⟨a1,rfl,_⟩,rfl⟩:=h;exact⟨⟨a0,a1⟩,rfl⟩
theorem opn168:Opn prog 168 fun ds=> ∃x:Rule,ds=x.enc:=(dA underlying168 (by kernel_rfl) (.cons fH (.cons fH (.cons fH (.cons opn4 (.cons UH .nil)))))).mono fun ds h=>by
 obtain⟨_,_,rfl,⟨a0,rfl,_⟩,_,_,rfl,⟨a1,rfl,_⟩,_,_,rfl,⟨a2,rfl,_⟩,_,_,rfl,⟨a3,rfl⟩,_,_,rfl,⟨a4,rfl⟩,rfl⟩:=h;exact⟨⟨a0,a1,a2,a3,a4⟩,rfl⟩
theorem opn171:Opn prog 171 fun ds=> ∃x:iU,ds=x.enc:=(dA underlying171 (by kernel_rfl) (.cons fH (.cons opn9 (.cons opn87 (.cons opn87 .nil))))).mono fun ds h=>by
 obtain⟨_,_,rfl,⟨a0,rfl,_⟩,_,_,rfl,⟨a1,rfl,_⟩,_,_,rfl,⟨a2,rfl⟩,_,_,rfl,⟨a3,rfl⟩,rfl⟩:=h;exact⟨⟨a0,a1,a2,a3⟩,rfl⟩
theorem opn174:Opn prog 174 fun ds=> ∃x:kP,ds=x.enc:=(dA underlying174 (by kernel_rfl) (.cons fH (.cons fH (.cons fH (.cons opn4 (.cons UH .nil)))))).mono fun ds h=>by
 obtain⟨_,_,rfl,⟨a0,rfl,_⟩,_,_,rfl,⟨a1,rfl,_⟩,_,_,rfl,⟨a2,rfl,_⟩,_,_,rfl,⟨a3,rfl⟩,_,_,rfl,⟨a4,rfl⟩,rfl⟩:=h;exact⟨⟨a0,a1,a2,a3,a4⟩,rfl⟩
theorem opn177:Opn prog 177 fun ds=> ∃x:qJ,ds=x.enc:=(dA underlying177 (by kernel_rfl) (.cons fH (.cons fH (.cons fH (.cons fH (.cons UH .nil)))))).mono fun ds h=>by
 obtain⟨_,_,rfl,⟨a0,rfl,_⟩,_,_,rfl,⟨a1,rfl,_⟩,_,_,rfl,⟨a2,rfl,_⟩,_,_,rfl,⟨a3,rfl,_⟩,_,_,rfl,⟨a4,rfl⟩,rfl⟩:=h;exact⟨⟨a0,a1,a2,a3,a4⟩,rfl⟩
theorem opn139:Opn prog 139 fun ds=> ∃x:Cnt,ds=x.enc:=(dA underlying139 (by kernel_rfl) (.cons fH (.cons fH .nil))).mono fun ds h=>by
 obtain⟨_,_,rfl,⟨a0,rfl,_⟩,_,_,rfl,⟨a1,rfl,_⟩,rfl⟩:=h;exact⟨⟨a0,a1⟩,rfl⟩
theorem opn94:Opn prog 94 fun ds=> ∃x:nU,ds=x.enc:=(dA underlying94 (by kernel_rfl) (.cons fH (.cons fH (.cons fH (.cons fH .nil))))).mono fun ds h=>by
 obtain⟨_,_,rfl,⟨a0,rfl,_⟩,_,_,rfl,⟨a1,rfl,_⟩,_,_,rfl,⟨a2,rfl,_⟩,_,_,rfl,⟨a3,rfl,_⟩,rfl⟩:=h;exact⟨⟨a0,a1,a2,a3⟩,rfl⟩
theorem opn124:Opn prog 124 fun ds=> ∃x:fJ,ds=x.enc:=(dA underlying124 (by kernel_rfl) (.cons fH (.cons fH (.cons opn42 (.cons opn42 .nil))))).mono fun ds h=>by
 obtain⟨_,_,rfl,⟨a0,rfl,_⟩,_,_,rfl,⟨a1,rfl,_⟩,_,_,rfl,⟨a2,rfl⟩,_,_,rfl,⟨a3,rfl⟩,rfl⟩:=h;exact⟨⟨a0,a1,a2,a3⟩,rfl⟩
theorem opn143:Opn prog 143 fun ds=> ∃x:eU,ds=x.enc:=(dA underlying143 (by kernel_rfl) (.cons fH (.cons fH (.cons fH (.cons fH (.cons fH (.cons fH (.cons fH .nil)))))))).mono fun ds h=>by
 obtain⟨_,_,rfl,⟨a0,rfl,_⟩,_,_,rfl,⟨a1,rfl,_⟩,_,_,rfl,⟨a2,rfl,_⟩,_,_,rfl,⟨a3,rfl,_⟩,_,_,rfl,⟨a4,rfl,_⟩,_,_,rfl,⟨a5,rfl,_⟩,_,_,rfl,⟨a6,rfl,_⟩,rfl⟩:=h;exact⟨⟨a0,a1,a2,a3,a4,a5,a6⟩,rfl⟩
theorem opn148:Opn prog 148 fun ds=> ∃x:iy,ds=x.enc:=(dA underlying148 (by kernel_rfl) (.cons fH (.cons fH (.cons UH .nil)))).mono fun ds h=>by
 obtain⟨_,_,rfl,⟨a0,rfl,_⟩,_,_,rfl,⟨a1,rfl,_⟩,_,_,rfl,⟨a2,rfl⟩,rfl⟩:=h;exact⟨⟨a0,a1,a2⟩,rfl⟩
theorem opn160:Opn prog 160 fun ds=> ∃x:H6,ds=x.enc:=(dA underlying160 (by kernel_rfl) (.cons fH (.cons fH .nil))).mono fun ds h=>by
 obtain⟨_,_,rfl,⟨a0,rfl,_⟩,_,_,rfl,⟨a1,rfl,_⟩,rfl⟩:=h;exact⟨⟨a0,a1⟩,rfl⟩
theorem opn73:Opn prog 73 fun ds=> ∃x:sG,ds=x.enc:=(dA underlying73 (by kernel_rfl) (.cons fH (.cons fH (.cons fH .nil)))).mono fun ds h=>by
 obtain⟨_,_,rfl,⟨a0,rfl,_⟩,_,_,rfl,⟨a1,rfl,_⟩,_,_,rfl,⟨a2,rfl,_⟩,rfl⟩:=h;exact⟨⟨a0,a1,a2⟩,rfl⟩
theorem opn65:Opn prog 65 fun ds=> ∃y,ds=[y]/\∃n g,y=SL none 1 encI n g/\n<=maxLen:=(fG (sz:=1) (encI 0) underlying65 (by kernel_rfl) (by omega) fH ⟨_,rfl,by decide⟩).mono fun ds h=>by
 obtain⟨n,row,rfl,hn,h⟩:=h;exact⟨_,rfl,n,fun i=>(h i).choose,congrArg (D.sl none 1 n) (funext fun i=>(h i).choose_spec.1),hn⟩
theorem opn97:Opn prog 97 fun ds=> ∃y,ds=[y]/\∃n g,y=SL none 2 Cnt.enc n g/\n<=maxLen:=(fG (sz:=2) (Cnt.enc default) underlying97 (by kernel_rfl) (by omega) opn139 ⟨_,rfl⟩).mono fun ds h=>by
 obtain⟨n,row,rfl,hn,h⟩:=h;exact⟨_,rfl,n,fun i=>(h i).choose,congrArg (D.sl none 2 n) (funext fun i=>(h i).choose_spec),hn⟩
theorem opn99:Opn prog 99 fun ds=> ∃x:Bx,ds=x.enc:=(dA underlying99 (by kernel_rfl) (.cons fH (.cons fH (.cons fH (.cons fH (.cons opn97 .nil)))))).mono fun ds h=>by
 obtain⟨_,_,rfl,⟨a0,rfl,_⟩,_,_,rfl,⟨a1,rfl,_⟩,_,_,rfl,⟨a2,rfl,_⟩,_,_,rfl,⟨a3,rfl,_⟩,_,_,rfl,⟨y4,rfl,n4,g4,rfl,h4⟩,rfl⟩:=h;exact⟨⟨a0,a1,a2,a3,n4,g4⟩,rfl⟩
theorem opn89:Opn prog 89 fun ds=> ∃x:nV,ds=x.enc:=(dA underlying89 (by kernel_rfl) (.cons fH (.cons opn87 (.cons fH (.cons opn65 .nil))))).mono fun ds h=>by
 obtain⟨_,_,rfl,⟨a0,rfl,_⟩,_,_,rfl,⟨a1,rfl⟩,_,_,rfl,⟨a2,rfl,_⟩,_,_,rfl,⟨y3,rfl,n3,g3,rfl,h3⟩,rfl⟩:=h;exact⟨⟨a0,a1,a2,n3,g3⟩,rfl⟩
theorem opn22:Opn prog 22 fun ds=> ∃y,ds=[y]/\∃n g,y=SL none 5 nV.enc n g/\n<=maxLen:=(fG (sz:=5) (nV.enc default) underlying22 (by kernel_rfl) (by omega) opn89 ⟨_,rfl⟩).mono fun ds h=>by
 obtain⟨n,row,rfl,hn,h⟩:=h;exact⟨_,rfl,n,fun i=>(h i).choose,congrArg (D.sl none 5 n) (funext fun i=>(h i).choose_spec),hn⟩
theorem opn23:Opn prog 23 fun ds=> ∃y,ds=[y]/\∃n g,y=SL none 6 Rule.enc n g/\n<=maxLen:=(fG (sz:=6) (Rule.enc default) underlying23 (by kernel_rfl) (by omega) opn168 ⟨_,rfl⟩).mono fun ds h=>by
 obtain⟨n,row,rfl,hn,h⟩:=h;exact⟨_,rfl,n,fun i=>(h i).choose,congrArg (D.sl none 6 n) (funext fun i=>(h i).choose_spec),hn⟩
theorem opn24:Opn prog 24 fun ds=> ∃y,ds=[y]/\∃n g,y=SL none 6 iU.enc n g/\n<=maxLen:=(fG (sz:=6) (iU.enc default) underlying24 (by kernel_rfl) (by omega) opn171 ⟨_,rfl⟩).mono fun ds h=>by
 obtain⟨n,row,rfl,hn,h⟩:=h;exact⟨_,rfl,n,fun i=>(h i).choose,congrArg (D.sl none 6 n) (funext fun i=>(h i).choose_spec),hn⟩
theorem opn25:Opn prog 25 fun ds=> ∃y,ds=[y]/\∃n g,y=SL none 6 kP.enc n g/\n<=maxLen:=(fG (sz:=6) (kP.enc default) underlying25 (by kernel_rfl) (by omega) opn174 ⟨_,rfl⟩).mono fun ds h=>by
 obtain⟨n,row,rfl,hn,h⟩:=h;exact⟨_,rfl,n,fun i=>(h i).choose,congrArg (D.sl none 6 n) (funext fun i=>(h i).choose_spec),hn⟩
theorem opn26:Opn prog 26 fun ds=> ∃y,ds=[y]/\∃n g,y=SL none 6 qJ.enc n g/\n<=maxLen:=(fG (sz:=6) (qJ.enc default) underlying26 (by kernel_rfl) (by omega) opn177 ⟨_,rfl⟩).mono fun ds h=>by
 obtain⟨n,row,rfl,hn,h⟩:=h;exact⟨_,rfl,n,fun i=>(h i).choose,congrArg (D.sl none 6 n) (funext fun i=>(h i).choose_spec),hn⟩
theorem opn29:Opn prog 29 fun ds=> ∃y,ds=[y]/\∃n g,y=SL none 5 Bx.enc n g/\n<=maxLen:=(fG (sz:=5) (Bx.enc default) underlying29 (by kernel_rfl) (by omega) opn99 ⟨_,rfl⟩).mono fun ds h=>by
 obtain⟨n,row,rfl,hn,h⟩:=h;exact⟨_,rfl,n,fun i=>(h i).choose,congrArg (D.sl none 5 n) (funext fun i=>(h i).choose_spec),hn⟩
theorem opn30:Opn prog 30 fun ds=> ∃y,ds=[y]/\∃n g,y=SL none 4 nU.enc n g/\n<=maxLen:=(fG (sz:=4) (nU.enc default) underlying30 (by kernel_rfl) (by omega) opn94 ⟨_,rfl⟩).mono fun ds h=>by
 obtain⟨n,row,rfl,hn,h⟩:=h;exact⟨_,rfl,n,fun i=>(h i).choose,congrArg (D.sl none 4 n) (funext fun i=>(h i).choose_spec),hn⟩
theorem opn31:Opn prog 31 fun ds=> ∃y,ds=[y]/\∃n g,y=SL none 6 fJ.enc n g/\n<=maxLen:=(fG (sz:=6) (fJ.enc default) underlying31 (by kernel_rfl) (by omega) opn124 ⟨_,rfl⟩).mono fun ds h=>by
 obtain⟨n,row,rfl,hn,h⟩:=h;exact⟨_,rfl,n,fun i=>(h i).choose,congrArg (D.sl none 6 n) (funext fun i=>(h i).choose_spec),hn⟩
theorem opn32:Opn prog 32 fun ds=> ∃y,ds=[y]/\∃n g,y=SL none 7 eU.enc n g/\n<=maxLen:=(fG (sz:=7) (eU.enc default) underlying32 (by kernel_rfl) (by omega) opn143 ⟨_,rfl⟩).mono fun ds h=>by
 obtain⟨n,row,rfl,hn,h⟩:=h;exact⟨_,rfl,n,fun i=>(h i).choose,congrArg (D.sl none 7 n) (funext fun i=>(h i).choose_spec),hn⟩
theorem opn33:Opn prog 33 fun ds=> ∃y,ds=[y]/\∃n g,y=SL none 4 iy.enc n g/\n<=maxLen:=(fG (sz:=4) (iy.enc default) underlying33 (by kernel_rfl) (by omega) opn148 ⟨_,rfl⟩).mono fun ds h=>by
 obtain⟨n,row,rfl,hn,h⟩:=h;exact⟨_,rfl,n,fun i=>(h i).choose,congrArg (D.sl none 4 n) (funext fun i=>(h i).choose_spec),hn⟩
theorem opn35:Opn prog 35 fun ds=> ∃y,ds=[y]/\∃n g,y=SL none 2 H6.enc n g/\n<=maxLen:=(fG (sz:=2) (H6.enc default) underlying35 (by kernel_rfl) (by omega) opn160 ⟨_,rfl⟩).mono fun ds h=>by
 obtain⟨n,row,rfl,hn,h⟩:=h;exact⟨_,rfl,n,fun i=>(h i).choose,congrArg (D.sl none 2 n) (funext fun i=>(h i).choose_spec),hn⟩
theorem opn36:Opn prog 36 fun ds=> ∃y,ds=[y]/\∃n g,y=SL none 3 sG.enc n g/\n<=maxLen:=(fG (sz:=3) (sG.enc default) underlying36 (by kernel_rfl) (by omega) opn73 ⟨_,rfl⟩).mono fun ds h=>by
 obtain⟨n,row,rfl,hn,h⟩:=h;exact⟨_,rfl,n,fun i=>(h i).choose,congrArg (D.sl none 3 n) (funext fun i=>(h i).choose_spec),hn⟩
theorem opn75:Opn prog 75 fun ds=> ∃x:nJ,ds=x.enc/\x.nu<=9223372036854775807/\x.nb<=9223372036854775807:=(dA underlying75 (by kernel_rfl) (.cons fH (.cons fH (.cons fH (.cons fH (.cons fH (.cons fH (.cons opn65 (.cons opn65 .nil))))))))).mono fun ds h=>by
 obtain⟨_,_,rfl,⟨a0,rfl,_⟩,_,_,rfl,⟨a1,rfl,_⟩,_,_,rfl,⟨a2,rfl,_⟩,_,_,rfl,⟨a3,rfl,_⟩,_,_,rfl,⟨a4,rfl,_⟩,_,_,rfl,⟨a5,rfl,_⟩,_,_,rfl,⟨y6,rfl,n6,g6,rfl,h6⟩,_,_,rfl,⟨y7,rfl,n7,g7,rfl,h7⟩,rfl⟩:=h;exact⟨⟨a0,a1,a2,a3,a4,a5,n6,g6,n7,g7⟩,rfl,h6,h7⟩
theorem opn34:Opn prog 34 fun ds=> ∃y,ds=[y]/\∃(n:Nat) (g:Nat->nJ),y=SL none 8 nJ.enc n g/\n<=maxLen/\∀i,(g i).nu<=9223372036854775807/\(g i).nb<=9223372036854775807:=(fG (sz:=8) (nJ.enc ⟨0,0,0,0,0,0,0,fun _=>0,0,fun _=>0⟩) underlying34 (by kernel_rfl) (by omega) opn75 ⟨_,rfl,by decide,by decide⟩).mono fun ds h=>by
 obtain⟨n,row,rfl,hn,h⟩:=h;exact⟨_,rfl,n,fun i=>(h i).choose,congrArg (D.sl none 8 n) (funext fun i=>(h i).choose_spec.1),hn,fun i=>(h i).choose_spec.2⟩
theorem opn28:Opn prog 28 fun ds=> ∃p:qw,ds=p.enc/\p.ns<=9223372036854775807/\p.np<=9223372036854775807:=(dA underlying28 (by kernel_rfl) (.cons opn22 (.cons opn23 (.cons opn24 (.cons fH (.cons opn25 (.cons opn26 .nil))))))).mono fun ds h=>by
 obtain⟨_,_,rfl,⟨y0,rfl,n0,g0,rfl,h0⟩,_,_,rfl,⟨y1,rfl,n1,g1,rfl,h1⟩,_,_,rfl,⟨y2,rfl,n2,g2,rfl,h2⟩,_,_,rfl,⟨a3,rfl,_⟩,_,_,rfl,⟨y4,rfl,n4,g4,rfl,h4⟩,_,_,rfl,⟨y5,rfl,n5,g5,rfl,h5⟩,rfl⟩:=h;exact⟨⟨n0,g0,n1,g1,n2,g2,a3,n4,g4,n5,g5⟩,rfl,h0,h2⟩
def encUse(u:Use):List D:=u.P.enc++[SL none 5 Bx.enc u.nb u.gb,SL none 4 nU.enc u.nf u.gf,SL none 6 fJ.enc u.nv u.gv,SL none 7 eU.enc u.nr u.gr,I u.nI,SL none 4 iy.enc u.nk u.gk,SL none 8 nJ.enc u.nt u.gt,SL none 2 H6.enc u.nl u.gl,SL none 3 sG.enc u.nw u.gw,I u.Changed]
theorem opn38:Opn prog 38 fun ds=> ∃u:Use,ds=encUse u/\Wi u:=(dA underlying38 (by kernel_rfl) (.cons opn28 (.cons opn29 (.cons opn30 (.cons opn31 (.cons opn32 (.cons fH (.cons opn33 (.cons opn34 (.cons opn35 (.cons opn36 (.cons fH .nil)))))))))))).mono fun ds h=>by
 obtain⟨_,_,rfl,⟨p,rfl,hs,hp⟩,_,_,rfl,⟨y1,rfl,n1,g1,rfl,h1⟩,_,_,rfl,⟨y2,rfl,n2,g2,rfl,h2⟩,_,_,rfl,⟨y3,rfl,n3,g3,rfl,h3⟩,_,_,rfl,⟨y4,rfl,n4,g4,rfl,h4⟩,_,_,rfl,⟨a5,rfl,_⟩,_,_,rfl,⟨y6,rfl,n6,g6,rfl,h6⟩,_,_,rfl,⟨y7,rfl,n7,g7,rfl,h7,hb⟩,_,_,rfl,⟨y8,rfl,n8,g8,rfl,h8⟩,_,_,rfl,⟨y9,rfl,n9,g9,rfl,h9⟩,_,_,rfl,⟨a10,rfl,_⟩,rfl⟩:=h;exact⟨⟨p,n1,g1,n2,g2,n3,g3,n4,g4,a5,n6,g6,n7,g7,n8,g8,n9,g9,a10⟩,rfl,⟨hs,hp,h1,h7,fun i _=>(hb i).1,fun i _=>(hb i).2⟩⟩
end Go.Proofs.YthlhlnbcjlpigaaGreatDoor
