/- Lemmas, no conditions. -/
import Derived.Test.YthpplckmbbachaaGreatDoorKB5
import Derived.Shelf.SlSortCmp.WholeK
import Derived.Laws.Externs
import Derived.Lib.Overlaps
set_option linter.unusedVariables false
set_option linter.unusedSimpArgs false
namespace Go.aI
open Go.Sort Go.Proofs
section
variable {α : Type} [Inhabited α] {enc : α -> List Value} {k : Nat}
end
end Go.aI
namespace Go.aI
theorem EI{w j σ}(hS:aQ w j σ){b sz lo k n' row}(h1':sz≠1)(hb:σ[b]? =some (.arr sz n' row))(hk:0<k)(hz:0<sz){v}(h:R w j (.ms b sz lo k) v):
  ∃(c cb off:Nat) (e:TypeId) (m:Nat),v= .slice (some ⟨cb,off,none⟩) k c/\j[b]? =some (some cb)/\w.shape? cb=some (e,m)/\m≠0/\(∀o,w.frozen? ⟨cb,o,none⟩=false):=by
 cases h with
 | @ms _ _ _ _ cb c e m h1 h2 h3 h4=>
  refine⟨_,cb,_,e,m,rfl,h1,h2,?_,fun o=> ?_⟩
  ·have:0<(lo+c)*sz:=Nat.mul_pos aa aa;omega
  ·obtain⟨o',ho,hB⟩:=hS.blk b _ hb;rw[h1] at ho;cases ho
   obtain⟨C,e',⟨f,hC,hfz⟩,_⟩:=hB;grind [World.frozen?]
 |ms0 p h1=>omega
 |oY p e m h1 h2 h3 h4=>omega
theorem XS.overlaps {P f} (fn tS tR e size) (hf : P.funcs[f]? = some fn) (hname : (fn.name == "runtime.NumGoroutine") = false) (hbody : fn.body.isNone = true) (hn : Extern.findNext fn = none)
  (he:Extern.find fn=some (Extern.SlicesOverlaps.overlaps #[tS,tS] #[tR])) (ht:P.underlying tS=some (.slice e)) (hz: ∀w,(Go.sizeOf e).run P w= .ok size w) {σ a b sz sz' lo lo' k k' n n' row row'}
  (hne:a≠b) (ha:σ[a]? =some (.arr sz n row)) (hb:σ[b]? =some (.arr sz' n' row')) (hk:0<k) (hk':0<k') (hz1:1<sz) (hz1':1<sz'):XS P f [.ms a sz lo k,.ms b sz' lo' k'] σ (.d (.v (.bool false))):=by
 intro j w vs hS hrs;have h0:=hrs.2 0 an;have h1:=hrs.2 1 an;have hs:vs.size=2:=hrs.1;have hvs:vs= #[vs.getD 0 Go.undef,vs.getD 1 Go.undef]:=by
  apply Array.ext
  ·grind
  ·intro i hi1 hi2;rw[hs] at hi1;rcases i with _|_|i
   ·simp_all
   ·simp_all
   ·omega
 generalize vs.getD 0 Go.undef=v0 at h0 hvs
 generalize vs.getD 1 Go.undef=v1 at h1 hvs
 subst hvs;refine⟨.bool false,?_,.d (.v _)⟩;rw[run_callFunc_extern hf hname hbody hn he];obtain⟨c,ca,off,e1,m1,rfl,hj,h2,h3,h4⟩:=EI hS aa ha hk aa (by simpa using h0);obtain⟨c',cb,off',e2,m2,rfl,hj',h2',h3',h4'⟩:=EI hS aa hb hk' aa He;rw[Lib.run_overlaps_apart w tS tR e ht size hz ⟨ca,off,none⟩ ⟨cb,off',none⟩ k c k' c' (fun h=>hne (hS.inj a b ca hj ai)) e1 e2 m1 m2 h2 h2' h3' (h4 off) (h4 m1)];rfl
theorem TP{P}(w){tS tR e size}(ht:P.underlying tS=some (.slice e))(hz: ∀w,(Go.sizeOf e).run P w= .ok size w)(a b la ca lb cb)(hne:a.block≠b.block)
  {tA tB kA kB} (hsa:w.shape? a.block=some (tA,kA)) (hsb:w.shape? b.block=some (tB,kB)) (hkA:kA≠0) (hkB:kB≠0) (hfb:w.frozen? b=false) (hfe:w.frozen? { block:=b.block,off:=kB } =false):
  (Extern.SlicesOverlaps.overlaps #[tS,tS] #[tR] #[.slice (some a) la ca,.slice (some b) lb cb]).run P w= .ok (.bool false) w:=by
 have hnb:(a.block !=b.block)=true:=ai;have hnb':(a.block==b.block)=false:=ai;have step: ∀{α β:Type} (x:Sem α) (f:α->Sem β) (v:α),x.run P w= .ok v w->(Bind.bind x f).run P w=(f v).run P w:=by
  simp_all
 refine(step (underlying tS) _ _ (run_underlying ht w)).trans ?_;refine(step (sizeOf e) _ _ (hz w)).trans ?_;cases kA with
 |zero=>grind
 |succ kA=>
 cases kB with
 |zero=>grind
 |succ kB=>
  by_cases h0:la=0\/lb=0\/size=0
  ·simp[h0]
  ·cases hfa:w.frozen? a<;>cases hfc:w.frozen? { block:=a.block,off:=kA+1 } <;>
    simp[h0,hnb,hnb',frozen,noView,viewAt,mayBeOne,stringish,shape,Sem.run,hsa,hsb,hfa,hfc,hfb,hfe]
theorem XS.HE {P f} (fn tS tR e size) (hf : P.funcs[f]? = some fn) (hname : (fn.name == "runtime.NumGoroutine") = false) (hbody : fn.body.isNone = true) (hn : Extern.findNext fn = none)
  (he:Extern.find fn=some (Extern.SlicesOverlaps.overlaps #[tS,tS] #[tR])) (ht:P.underlying tS=some (.slice e)) (hz: ∀w,(Go.sizeOf e).run P w= .ok size w) {σ q b sz sz' lo' k k' c n' row row'}
  (hb:σ[b]? =some (.arr sz' n' row')) (hk:0<k) (hk':0<k') (hz1:1<sz) (hz1':1<sz'):XS P f [.d (.sl q sz k row),.mc b sz' lo' k' c] σ (.d (.v (.bool false))):=by
 intro j w vs hS hrs;have h0:=hrs.2 0 an;have h1:=hrs.2 1 an;have hs:vs.size=2:=hrs.1;have hvs:vs= #[vs.getD 0 Go.undef,vs.getD 1 Go.undef]:=by
  apply Array.ext
  ·grind
  ·intro i hi1 hi2;rw[hs] at hi1;rcases i with _|_|i
   ·simp_all
   ·simp_all
   ·omega
 generalize vs.getD 0 Go.undef=v0 at h0 hvs
 generalize vs.getD 1 Go.undef=v1 at h1 hvs
 subst hvs;refine⟨.bool false,?_,.d (.v _)⟩;rw[run_callFunc_extern hf hname hbody hn he];have h0:R w j (.d (.sl q sz k row)) v0:=ai;have h1:R w j (.mc b sz' lo' k' c) v1:=ai;have h1:R w j (.ms b sz' lo' k') v1:=by cases h1<;>grind
 obtain⟨c',cb,off',e2,m2,rfl,hj',h2',h3',h4'⟩:=EI hS aa hb hk' aa h1;cases h0 with
 |d h0=>
 cases h0 with
 |zero p c hcap hp=>omega
 |sl a c val hcap hle ha hlt hbj hlen hcell hrel=>
  have hsa: ∃e2 m2,w.shape? a.block=some (e2,m2)/\m2≠0:=by
   grind [World.cell?,World.shape?]
  obtain⟨e1,m1,hsa,hm1⟩:=hsa;rw[TP w ht hz a ⟨cb,off',none⟩ k c k' c' (fun h=>hbj ai) hsa h2' hm1 h3' (h4' off') (h4' m2)];rfl
end Go.aI
