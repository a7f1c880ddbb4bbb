/- Lemmas, no conditions. -/
import Derived.Test.YthpplckmbbachaaGreatDoorRows
import Derived.Test.YthpplckmbbachaaGreatDoorKB45
import Derived.HandedShaped
import Derived.Deep.DeepHandedRow
import Derived.Lib.LaidTab
import Derived.LaidLaws
set_option linter.unusedVariables false
set_option linter.unusedSimpArgs false
set_option maxRecDepth 100000
namespace Go.aI
open Go.RowKit
theorem EX{P f QQ args w c b vs}(h:ak P f QQ [.tab b vs,.loc c] (.d (.v (.bool true))))(hm: ∃m,w.cell? ⟨c,0,none⟩=some (.int .i64 m))
  (ht: ∃e f,w.heap[b]? =some (.cells vs e f)) (hr:Rs w [none,none] QQ args):Calls P f args w fun e w'=>e= .returned (.bool true)/\Below w.heap.size w w':=by
 have hc:c<w.heap.size:=by
  obtain⟨m,hm⟩:=hm;apply Classical.byContradiction;intro hn;have:w.heap[c]? =none:=by simp;omega
  simp[World.cell?,this] at hm
 obtain⟨e,fz,ht⟩:=ht;have hb:b<w.heap.size:=(Array.getElem?_eq_some_iff.1 ht).1;have hS:aQ w [none,none] [.tab b vs,.loc c]:=⟨rfl,fun b cb hb=>by
   rcases b with _|_|b<;>simp at hb,fun b b' cb hb=>by
   rcases b with _|_|b<;>simp at hb,fun q x hx=>by
   rcases q with _|_|q
   ·simp at hx;subst hx;exact⟨none,rfl,rfl,hb,an,e,by simp[World.shape?,ht],fun i=>by simp[World.cell?,ht]⟩
   ·simp at hx;subst hx;exact⟨none,rfl,rfl,hc,an,hm⟩
   ·simp at hx⟩
 refine(h.2 [none,none] w args hS hr).mono ?_;rintro e w' ⟨v,r,σ',j',X,rfl,h1,h2,h3,h4,h5,rfl,rfl,rfl⟩;cases h2 with
 |d h2=>
  cases h2
  exact⟨rfl,⟨h3.os,h3.tape,h3.output,h3.size,fun k hk=>h3.keep k hk an⟩⟩
theorem RD.ae0{w d v}(h:RD w [] d v):RD w [Option.none,Option.none] d v:=by
 induction h with
 |v x=>exact .v x
 |sl a c val h1 h2 h3 h4 h5 h6 h7 h8 ih=>exact .sl a c val h1 h2 h3 h4 an h6 h7 ih
 |zero p c h1 h2=>exact .zero p c h1 h2
theorem R.CT{w d v}(h:R w [] (.d d) v):R w [Option.none,Option.none] (.d d) v:=by
 cases h with|d h=>exact .d h.ae0
theorem R.zw{w}{ds:List D}{v}(h:R w [] (.agg (ds.map .d)) v):R w [Option.none,Option.none] (.agg (ds.map .d)) v:=by
 cases h with
 |agg vs hs h=>
  refine .agg vs hs fun k hk=> ?_;have:=h k hk;have hk':k<ds.length:=rI;have e:(ds.map AV.d).getD k .undef= .d (ds[k]'hk'):=by simp[List.getD_eq_getElem?_getD,hk']
  rw[e] at this⊢;exact this.CT
theorem RC(w):Rs w [none,none] [] #[]:=⟨rfl,an⟩
theorem RsT.cons{w x v xs vs}(h:R w [none,none] x v)(t:Rs w [none,none] xs vs.toArray):Rs w [none,none] (x::xs) (v::vs).toArray:=
 ⟨by have:=t.1;simpa using this,fun k hk=>by
  cases k with
  |zero=>simpa using h
  |succ k=>have:=t.2 k rI;simpa using this⟩
end Go.aI
namespace Go.Proofs.YthpplckmbbachaaGreatDoor
open Go.aI Go.Proofs.Tryz
open Go.ChangeShapes Go.WideShapes Go.ChangeAt Go.RowKit
theorem own:ownKnob prog.godebug=none:=by kernel_rfl
theorem laidOut:laidOutB prog=true:=by kernel_rfl
theorem EO(w:World)(h:w.ShapedOpen prog): ∃m,w.cell? ⟨1,0,none⟩=some (.int .i64 m):=
 Go.Proofs.cell_of_shapedOpen_int (zero:= #[.int .i64 0]) (t:=3) h (of_decide_eq_true aD) aD rfl aD aD underlying3
theorem HV{P x r w}(h:laidMet P (x::r) w):laidMet P r w:=by
 obtain⟨ps,h1,h2,h3⟩:=h;obtain⟨g,t,cs,fuel,p,q,_,_,_,_,h4,rfl⟩:=h1;exact⟨q,h4,(List.nodup_append.1 h2).2.1,fun b off hm=>h3 b off (List.mem_append.2 (.inr hm))⟩
def cellsD:DataW Unit->Array Value
 | .agg ds=>(ds.map fun d=>match d with
  | .lit (.int k z)=>Value.int k z
  |_=>Go.undef).toArray
 |_=> #[]
def acX(vs:Array Value):Obj->Obj
 | .cells _ t frozen=> .cells vs t frozen
 |o=>o
noncomputable def laidWorld(os:Os):World:=
 { World.holding prog os ⟨#[],#[],[]⟩ with heap:=(((World.holding prog os ⟨#[],#[],[]⟩).heap.modify 0 (acX (cellsD Rows.laid_internal_strconv_uint64pow10))).modify 2 (acX (cellsD Rows.laid_math_bits_deBruijn32tab))).modify 3 (acX (cellsD Rows.laid_math_bits_deBruijn64tab)) }
theorem laid_met (os : Os) (args : Array Value) : laidMet prog [("math/bits.deBruijn32tab", Rows.laid_math_bits_deBruijn32tab), ("math/bits.deBruijn64tab", Rows.laid_math_bits_deBruijn64tab), ("internal/strconv.uint64pow10", Rows.laid_internal_strconv_uint64pow10)] ((laidWorld os).forCall (fun _ _ => 0) ⟨#[], args, []⟩).memory :=
 laidMet_of_run' 8 aD aD
theorem abV {w} (h : laidMet prog [("math/bits.deBruijn32tab", Rows.laid_math_bits_deBruijn32tab), ("math/bits.deBruijn64tab", Rows.laid_math_bits_deBruijn64tab), ("internal/strconv.uint64pow10", Rows.laid_internal_strconv_uint64pow10)] w) : ∃ e f, w.heap[0]? = some (.cells dG e f) := by
 have hg : prog.globalNamed "internal/strconv.uint64pow10" = some 0 := aD
 have h2 : laidMet prog [("internal/strconv.uint64pow10", Rows.laid_internal_strconv_uint64pow10)] w := HV (HV h)
 have h3 : Lib.TabIs prog w "internal/strconv.uint64pow10" .u64 Lib.pow10Tab := by
  exact Lib.tabIs_of_head (g:=0) (t:=466) (e:=315) (n:=20) hg aD aD aD aD aD h2
 unfold Lib.TabIs World.var? at h3;rw[hg] at h3;simp only[Option.bind_some] at h3;split at h3
 ·rename_i C e f hC;simp only[Option.some.injEq] at h3;subst h3;exact⟨e,f,hC⟩
 ·cases h3
theorem di:Opn prog 3 fun ds=> ∃n,ds=[I n]/\(Lit.int .i64 n).wf=true:=Z8 underlying3
theorem aeL:Opn prog 4 fun ds=> ∃b,ds=[B b]:=Xg underlying4
theorem aeF:Opn prog 9 fun ds=> ∃s,ds=[Sb s]/\s.size<=maxLen:=P1 underlying9
theorem JI:Opn prog 140 fun ds=> ∃x:Span,ds=x.enc:=(bZ underlying140 aD (.cons di (.cons di .nil))).mono fun ds h=>by
 obtain⟨_,_,rfl,⟨a0,rfl,_⟩,_,_,rfl,⟨a1,rfl,_⟩,rfl⟩:=h;exact⟨⟨a0,a1⟩,rfl⟩
theorem Xh:Opn prog 88 fun ds=> ∃x:dV,ds=x.enc:=(bZ underlying88 aD (.cons di (.cons di .nil))).mono fun ds h=>by
 obtain⟨_,_,rfl,⟨a0,rfl,_⟩,_,_,rfl,⟨a1,rfl,_⟩,rfl⟩:=h;exact⟨⟨a0,a1⟩,rfl⟩
theorem ab0:Opn prog 67 fun ds=> ∃x:yK,ds=x.enc:=(bZ underlying67 aD (.cons di (.cons di .nil))).mono fun ds h=>by
 obtain⟨_,_,rfl,⟨a0,rfl,_⟩,_,_,rfl,⟨a1,rfl,_⟩,rfl⟩:=h;exact⟨⟨a0,a1⟩,rfl⟩
theorem adl:Opn prog 142 fun ds=> ∃x:Rule,ds=x.enc:=(bZ underlying142 aD (.cons di (.cons di (.cons di (.cons aeL (.cons JI .nil)))))).mono fun ds h=>by
 obtain⟨_,_,rfl,⟨a0,rfl,_⟩,_,_,rfl,⟨a1,rfl,_⟩,_,_,rfl,⟨a2,rfl,_⟩,_,_,rfl,⟨a3,rfl⟩,_,_,rfl,⟨a4,rfl⟩,rfl⟩:=h;exact⟨⟨a0,a1,a2,a3,a4⟩,rfl⟩
theorem adk:Opn prog 147 fun ds=> ∃x:dF,ds=x.enc:=(bZ underlying147 aD (.cons di (.cons aeF (.cons Xh (.cons Xh .nil))))).mono fun ds h=>by
 obtain⟨_,_,rfl,⟨a0,rfl,_⟩,_,_,rfl,⟨a1,rfl,_⟩,_,_,rfl,⟨a2,rfl⟩,_,_,rfl,⟨a3,rfl⟩,rfl⟩:=h;exact⟨⟨a0,a1,a2,a3⟩,rfl⟩
theorem adj:Opn prog 152 fun ds=> ∃x:fM,ds=x.enc:=(bZ underlying152 aD (.cons di (.cons di (.cons di (.cons aeL (.cons JI .nil)))))).mono fun ds h=>by
 obtain⟨_,_,rfl,⟨a0,rfl,_⟩,_,_,rfl,⟨a1,rfl,_⟩,_,_,rfl,⟨a2,rfl,_⟩,_,_,rfl,⟨a3,rfl⟩,_,_,rfl,⟨a4,rfl⟩,rfl⟩:=h;exact⟨⟨a0,a1,a2,a3,a4⟩,rfl⟩
theorem adi:Opn prog 157 fun ds=> ∃x:fu,ds=x.enc:=(bZ underlying157 aD (.cons di (.cons di (.cons di (.cons di (.cons JI .nil)))))).mono fun ds h=>by
 obtain⟨_,_,rfl,⟨a0,rfl,_⟩,_,_,rfl,⟨a1,rfl,_⟩,_,_,rfl,⟨a2,rfl,_⟩,_,_,rfl,⟨a3,rfl,_⟩,_,_,rfl,⟨a4,rfl⟩,rfl⟩:=h;exact⟨⟨a0,a1,a2,a3,a4⟩,rfl⟩
theorem aeI:Opn prog 54 fun ds=> ∃x:Row,ds=x.enc:=(bZ underlying54 aD (.cons di (.cons di (.cons di .nil)))).mono fun ds h=>by
 obtain⟨_,_,rfl,⟨a0,rfl,_⟩,_,_,rfl,⟨a1,rfl,_⟩,_,_,rfl,⟨a2,rfl,_⟩,rfl⟩:=h;exact⟨⟨a0,a1,a2⟩,rfl⟩
theorem adh:Opn prog 163 fun ds=> ∃x:Cnt,ds=x.enc:=(bZ underlying163 aD (.cons di (.cons di .nil))).mono fun ds h=>by
 obtain⟨_,_,rfl,⟨a0,rfl,_⟩,_,_,rfl,⟨a1,rfl,_⟩,rfl⟩:=h;exact⟨⟨a0,a1⟩,rfl⟩
theorem aeD:Opn prog 99 fun ds=> ∃x:l4,ds=x.enc:=(bZ underlying99 aD (.cons di (.cons di (.cons di (.cons di .nil))))).mono fun ds h=>by
 obtain⟨_,_,rfl,⟨a0,rfl,_⟩,_,_,rfl,⟨a1,rfl,_⟩,_,_,rfl,⟨a2,rfl,_⟩,_,_,rfl,⟨a3,rfl,_⟩,rfl⟩:=h;exact⟨⟨a0,a1,a2,a3⟩,rfl⟩
theorem adb:Opn prog 194 fun ds=> ∃x:hY,ds=x.enc:=(bZ underlying194 aD (.cons di (.cons di (.cons ab0 (.cons ab0 .nil))))).mono fun ds h=>by
 obtain⟨_,_,rfl,⟨a0,rfl,_⟩,_,_,rfl,⟨a1,rfl,_⟩,_,_,rfl,⟨a2,rfl⟩,_,_,rfl,⟨a3,rfl⟩,rfl⟩:=h;exact⟨⟨a0,a1,a2,a3⟩,rfl⟩
theorem adg:Opn prog 173 fun ds=> ∃x:cT,ds=x.enc:=(bZ underlying173 aD (.cons di (.cons di (.cons di (.cons di (.cons di (.cons di (.cons di .nil)))))))).mono fun ds h=>by
 obtain⟨_,_,rfl,⟨a0,rfl,_⟩,_,_,rfl,⟨a1,rfl,_⟩,_,_,rfl,⟨a2,rfl,_⟩,_,_,rfl,⟨a3,rfl,_⟩,_,_,rfl,⟨a4,rfl,_⟩,_,_,rfl,⟨a5,rfl,_⟩,_,_,rfl,⟨a6,rfl,_⟩,rfl⟩:=h;exact⟨⟨a0,a1,a2,a3,a4,a5,a6⟩,rfl⟩
theorem adf:Opn prog 179 fun ds=> ∃x:ju,ds=x.enc:=(bZ underlying179 aD (.cons di (.cons di (.cons JI .nil)))).mono fun ds h=>by
 obtain⟨_,_,rfl,⟨a0,rfl,_⟩,_,_,rfl,⟨a1,rfl,_⟩,_,_,rfl,⟨a2,rfl⟩,rfl⟩:=h;exact⟨⟨a0,a1,a2⟩,rfl⟩
theorem ade:Opn prog 185 fun ds=> ∃x:kE,ds=x.enc:=(bZ underlying185 aD (.cons di (.cons di .nil))).mono fun ds h=>by
 obtain⟨_,_,rfl,⟨a0,rfl,_⟩,_,_,rfl,⟨a1,rfl,_⟩,rfl⟩:=h;exact⟨⟨a0,a1⟩,rfl⟩
theorem aeH:Opn prog 75 fun ds=> ∃x:ke,ds=x.enc:=(bZ underlying75 aD (.cons di (.cons di (.cons di .nil)))).mono fun ds h=>by
 obtain⟨_,_,rfl,⟨a0,rfl,_⟩,_,_,rfl,⟨a1,rfl,_⟩,_,_,rfl,⟨a2,rfl,_⟩,rfl⟩:=h;exact⟨⟨a0,a1,a2⟩,rfl⟩
theorem RS:Opn prog 40 fun ds=> ∃y,ds=[y]/\∃n g,y=SL none 1 encI n g/\n<=maxLen:=(cW (sz:=1) (encI 0) underlying40 aD aa di ⟨_,rfl,aH⟩).mono fun ds h=>by
 obtain⟨n,row,rfl,hn,h⟩:=h;exact⟨_,rfl,n,fun i=>(h i).choose,congrArg (D.sl none 1 n) (funext fun i=>(h i).choose_spec.1),hn⟩
theorem aeK:Opn prog 41 fun ds=> ∃y,ds=[y]/\∃n g,y=SL none 1 encS n g/\n<=maxLen:=(cW (sz:=1) (encS .empty) underlying41 aD aa aeF ⟨_,rfl,aH⟩).mono fun ds h=>by
 obtain⟨n,row,rfl,hn,h⟩:=h;exact⟨_,rfl,n,fun i=>(h i).choose,congrArg (D.sl none 1 n) (funext fun i=>(h i).choose_spec.1),hn⟩
theorem adn:Opn prog 116 fun ds=> ∃y,ds=[y]/\∃n g,y=SL none 2 Cnt.enc n g/\n<=maxLen:=(cW (sz:=2) (Cnt.enc default) underlying116 aD aa adh ⟨_,rfl⟩).mono fun ds h=>by
 obtain⟨n,row,rfl,hn,h⟩:=h;exact⟨_,rfl,n,fun i=>(h i).choose,congrArg (D.sl none 2 n) (funext fun i=>(h i).choose_spec),hn⟩
theorem adm:Opn prog 118 fun ds=> ∃x:Bx,ds=x.enc:=(bZ underlying118 aD (.cons di (.cons di (.cons di (.cons di (.cons adn .nil)))))).mono fun ds h=>by
 obtain⟨_,_,rfl,⟨a0,rfl,_⟩,_,_,rfl,⟨a1,rfl,_⟩,_,_,rfl,⟨a2,rfl,_⟩,_,_,rfl,⟨a3,rfl,_⟩,_,_,rfl,⟨y4,rfl,n4,g4,rfl,h4⟩,rfl⟩:=h;exact⟨⟨a0,a1,a2,a3,n4,g4⟩,rfl⟩
theorem aeE:Opn prog 90 fun ds=> ∃x:ej,ds=x.enc:=(bZ underlying90 aD (.cons di (.cons Xh (.cons di (.cons RS .nil))))).mono fun ds h=>by
 obtain⟨_,_,rfl,⟨a0,rfl,_⟩,_,_,rfl,⟨a1,rfl⟩,_,_,rfl,⟨a2,rfl,_⟩,_,_,rfl,⟨y3,rfl,n3,g3,rfl,h3⟩,rfl⟩:=h;exact⟨⟨a0,a1,a2,n3,g3⟩,rfl⟩
theorem aeZ:Opn prog 22 fun ds=> ∃y,ds=[y]/\∃n g,y=SL none 5 ej.enc n g/\n<=maxLen:=(cW (sz:=5) (ej.enc default) underlying22 aD aa aeE ⟨_,rfl⟩).mono fun ds h=>by
 obtain⟨n,row,rfl,hn,h⟩:=h;exact⟨_,rfl,n,fun i=>(h i).choose,congrArg (D.sl none 5 n) (funext fun i=>(h i).choose_spec),hn⟩
theorem aeY:Opn prog 23 fun ds=> ∃y,ds=[y]/\∃n g,y=SL none 6 Rule.enc n g/\n<=maxLen:=(cW (sz:=6) (Rule.enc default) underlying23 aD aa adl ⟨_,rfl⟩).mono fun ds h=>by
 obtain⟨n,row,rfl,hn,h⟩:=h;exact⟨_,rfl,n,fun i=>(h i).choose,congrArg (D.sl none 6 n) (funext fun i=>(h i).choose_spec),hn⟩
theorem aeX:Opn prog 24 fun ds=> ∃y,ds=[y]/\∃n g,y=SL none 6 dF.enc n g/\n<=maxLen:=(cW (sz:=6) (dF.enc default) underlying24 aD aa adk ⟨_,rfl⟩).mono fun ds h=>by
 obtain⟨n,row,rfl,hn,h⟩:=h;exact⟨_,rfl,n,fun i=>(h i).choose,congrArg (D.sl none 6 n) (funext fun i=>(h i).choose_spec),hn⟩
theorem aeW:Opn prog 25 fun ds=> ∃y,ds=[y]/\∃n g,y=SL none 6 fM.enc n g/\n<=maxLen:=(cW (sz:=6) (fM.enc default) underlying25 aD aa adj ⟨_,rfl⟩).mono fun ds h=>by
 obtain⟨n,row,rfl,hn,h⟩:=h;exact⟨_,rfl,n,fun i=>(h i).choose,congrArg (D.sl none 6 n) (funext fun i=>(h i).choose_spec),hn⟩
theorem aeV:Opn prog 26 fun ds=> ∃y,ds=[y]/\∃n g,y=SL none 6 fu.enc n g/\n<=maxLen:=(cW (sz:=6) (fu.enc default) underlying26 aD aa adi ⟨_,rfl⟩).mono fun ds h=>by
 obtain⟨n,row,rfl,hn,h⟩:=h;exact⟨_,rfl,n,fun i=>(h i).choose,congrArg (D.sl none 6 n) (funext fun i=>(h i).choose_spec),hn⟩
theorem aeT:Opn prog 29 fun ds=> ∃y,ds=[y]/\∃n g,y=SL none 5 Bx.enc n g/\n<=maxLen:=(cW (sz:=5) (Bx.enc default) underlying29 aD aa adm ⟨_,rfl⟩).mono fun ds h=>by
 obtain⟨n,row,rfl,hn,h⟩:=h;exact⟨_,rfl,n,fun i=>(h i).choose,congrArg (D.sl none 5 n) (funext fun i=>(h i).choose_spec),hn⟩
theorem aeS:Opn prog 30 fun ds=> ∃y,ds=[y]/\∃n g,y=SL none 4 l4.enc n g/\n<=maxLen:=(cW (sz:=4) (l4.enc default) underlying30 aD aa aeD ⟨_,rfl⟩).mono fun ds h=>by
 obtain⟨n,row,rfl,hn,h⟩:=h;exact⟨_,rfl,n,fun i=>(h i).choose,congrArg (D.sl none 4 n) (funext fun i=>(h i).choose_spec),hn⟩
theorem aeR:Opn prog 31 fun ds=> ∃y,ds=[y]/\∃n g,y=SL none 6 hY.enc n g/\n<=maxLen:=(cW (sz:=6) (hY.enc default) underlying31 aD aa adb ⟨_,rfl⟩).mono fun ds h=>by
 obtain⟨n,row,rfl,hn,h⟩:=h;exact⟨_,rfl,n,fun i=>(h i).choose,congrArg (D.sl none 6 n) (funext fun i=>(h i).choose_spec),hn⟩
theorem aeQ:Opn prog 32 fun ds=> ∃y,ds=[y]/\∃n g,y=SL none 7 cT.enc n g/\n<=maxLen:=(cW (sz:=7) (cT.enc default) underlying32 aD aa adg ⟨_,rfl⟩).mono fun ds h=>by
 obtain⟨n,row,rfl,hn,h⟩:=h;exact⟨_,rfl,n,fun i=>(h i).choose,congrArg (D.sl none 7 n) (funext fun i=>(h i).choose_spec),hn⟩
theorem aeP:Opn prog 33 fun ds=> ∃y,ds=[y]/\∃n g,y=SL none 4 ju.enc n g/\n<=maxLen:=(cW (sz:=4) (ju.enc default) underlying33 aD aa adf ⟨_,rfl⟩).mono fun ds h=>by
 obtain⟨n,row,rfl,hn,h⟩:=h;exact⟨_,rfl,n,fun i=>(h i).choose,congrArg (D.sl none 4 n) (funext fun i=>(h i).choose_spec),hn⟩
theorem aeN:Opn prog 35 fun ds=> ∃y,ds=[y]/\∃n g,y=SL none 2 kE.enc n g/\n<=maxLen:=(cW (sz:=2) (kE.enc default) underlying35 aD aa ade ⟨_,rfl⟩).mono fun ds h=>by
 obtain⟨n,row,rfl,hn,h⟩:=h;exact⟨_,rfl,n,fun i=>(h i).choose,congrArg (D.sl none 2 n) (funext fun i=>(h i).choose_spec),hn⟩
theorem aeM:Opn prog 36 fun ds=> ∃y,ds=[y]/\∃n g,y=SL none 3 ke.enc n g/\n<=maxLen:=(cW (sz:=3) (ke.enc default) underlying36 aD aa aeH ⟨_,rfl⟩).mono fun ds h=>by
 obtain⟨n,row,rfl,hn,h⟩:=h;exact⟨_,rfl,n,fun i=>(h i).choose,congrArg (D.sl none 3 n) (funext fun i=>(h i).choose_spec),hn⟩
theorem ab2:Opn prog 39 fun ds=> ∃y,ds=[y]/\∃n g,y=SL none 3 Row.enc n g/\n<=maxLen:=(cW (sz:=3) (Row.enc default) underlying39 aD aa aeI ⟨_,rfl⟩).mono fun ds h=>by
 obtain⟨n,row,rfl,hn,h⟩:=h;exact⟨_,rfl,n,fun i=>(h i).choose,congrArg (D.sl none 3 n) (funext fun i=>(h i).choose_spec),hn⟩
theorem aeG:Opn prog 77 fun ds=> ∃x:ek,ds=x.enc/\x.nu<=9223372036854775807/\x.nb<=9223372036854775807:=(bZ underlying77 aD (.cons di (.cons di (.cons di (.cons di (.cons di (.cons di (.cons RS (.cons RS .nil))))))))).mono fun ds h=>by
 obtain⟨_,_,rfl,⟨a0,rfl,_⟩,_,_,rfl,⟨a1,rfl,_⟩,_,_,rfl,⟨a2,rfl,_⟩,_,_,rfl,⟨a3,rfl,_⟩,_,_,rfl,⟨a4,rfl,_⟩,_,_,rfl,⟨a5,rfl,_⟩,_,_,rfl,⟨y6,rfl,n6,g6,rfl,h6⟩,_,_,rfl,⟨y7,rfl,n7,g7,rfl,h7⟩,rfl⟩:=h;exact⟨⟨a0,a1,a2,a3,a4,a5,n6,g6,n7,g7⟩,rfl,h6,h7⟩
theorem aeO:Opn prog 34 fun ds=> ∃y,ds=[y]/\∃n g,y=SL none 8 ek.enc n g/\n<=maxLen/\∀i,(g i).nu<=9223372036854775807/\(g i).nb<=9223372036854775807:=(cW (sz:=8) (ek.enc ⟨0,0,0,0,0,0,0,fun _=>0,0,fun _=>0⟩) underlying34 aD aa aeG ⟨_,rfl,aH,aH⟩).mono fun ds h=>by
 obtain⟨n,row,rfl,hn,h⟩:=h;exact⟨_,rfl,n,fun i=>(h i).choose,congrArg (D.sl none 8 n) (funext fun i=>(h i).choose_spec.1),hn,fun i=>(h i).choose_spec.2⟩
theorem aeU:Opn prog 28 fun ds=> ∃p:u5,ds=p.enc/\p.ns<=9223372036854775807/\p.np<=9223372036854775807:=(bZ underlying28 aD (.cons aeZ (.cons aeY (.cons aeX (.cons di (.cons aeW (.cons aeV .nil))))))).mono fun ds h=>by
 obtain⟨_,_,rfl,⟨y0,rfl,n0,g0,rfl,h0⟩,_,_,rfl,⟨y1,rfl,n1,g1,rfl,h1⟩,_,_,rfl,⟨y2,rfl,n2,g2,rfl,h2⟩,_,_,rfl,⟨a3,rfl,_⟩,_,_,rfl,⟨y4,rfl,n4,g4,rfl,h4⟩,_,_,rfl,⟨y5,rfl,n5,g5,rfl,h5⟩,rfl⟩:=h;exact⟨⟨n0,g0,n1,g1,n2,g2,a3,n4,g4,n5,g5⟩,rfl,h0,h2⟩
def adW(u:Use):List D:=u.P.enc++[SL none 5 Bx.enc u.nb u.gb,SL none 4 l4.enc u.nf u.gf,SL none 6 hY.enc u.nv u.gv,SL none 7 cT.enc u.nr u.gr,I u.gq,SL none 4 ju.enc u.nk u.gk,SL none 8 ek.enc u.nt u.gt,SL none 2 kE.enc u.nl u.gl,SL none 3 ke.enc u.nw u.gw,I u.Changed]
theorem ab3:Opn prog 38 fun ds=> ∃u,ds=adW u/\KT u:=(bZ underlying38 aD (.cons aeU (.cons aeT (.cons aeS (.cons aeR (.cons aeQ (.cons di (.cons aeP (.cons aeO (.cons aeN (.cons aeM (.cons di .nil)))))))))))).mono fun ds h=>by
 obtain⟨_,_,rfl,⟨p,rfl,hs,hp⟩,_,_,rfl,⟨y1,rfl,n1,g1,rfl,h1⟩,_,_,rfl,⟨y2,rfl,n2,g2,rfl,h2⟩,_,_,rfl,⟨y3,rfl,n3,g3,rfl,h3⟩,_,_,rfl,⟨y4,rfl,n4,g4,rfl,h4⟩,_,_,rfl,⟨a5,rfl,_⟩,_,_,rfl,⟨y6,rfl,n6,g6,rfl,h6⟩,_,_,rfl,⟨y7,rfl,n7,g7,rfl,h7,hb⟩,_,_,rfl,⟨y8,rfl,n8,g8,rfl,h8⟩,_,_,rfl,⟨y9,rfl,n9,g9,rfl,h9⟩,_,_,rfl,⟨a10,rfl,_⟩,rfl⟩:=h;exact⟨⟨p,n1,g1,n2,g2,n3,g3,n4,g4,a5,n6,g6,n7,g7,n8,g8,n9,g9,a10⟩,rfl,⟨hs,hp,h1,h7,fun i _=>(hb i).1,fun i _=>(hb i).2⟩⟩
theorem ab1:Opn prog 43 fun ds=> ∃e:Ev,ds=e.enc/\(e.cn=none/\e.ct=none)/\e.nn<=9223372036854775807/\e.nt<=9223372036854775807:=(bZ underlying43 aD (.cons di (.cons di (.cons di (.cons RS (.cons aeK .nil)))))).mono fun ds h=>by
 obtain⟨_,_,rfl,⟨a0,rfl,_⟩,_,_,rfl,⟨a1,rfl,_⟩,_,_,rfl,⟨a2,rfl,_⟩,_,_,rfl,⟨y3,rfl,n3,g3,rfl,h3⟩,_,_,rfl,⟨y4,rfl,n4,g4,rfl,h4⟩,rfl⟩:=h;exact⟨⟨a0,a1,a2,none,n3,g3,none,n4,g4⟩,rfl,⟨rfl,rfl⟩,h3,h4⟩
open Go.bI
theorem aeJ:Opn prog 47 fun ds=> ∃y,ds=[y]/\∃n g,y=SL none 5 Ev.enc n g/\n<=maxLen/\∀i,((g i).cn=none/\(g i).ct=none)/\(g i).nn<=9223372036854775807/\(g i).nt<=9223372036854775807:=(cW (sz:=5) (Ev.enc default) underlying47 aD aa ab1 ⟨_,rfl,⟨rfl,rfl⟩,aH,aH⟩).mono fun ds h=>by
 obtain⟨n,row,rfl,hn,h⟩:=h;exact⟨_,rfl,n,fun i=>(h i).choose,congrArg (D.sl none 5 n) (funext fun i=>(h i).choose_spec.1),hn,fun i=>(h i).choose_spec.2⟩
end Go.Proofs.YthpplckmbbachaaGreatDoor
