/- Contracts and lemmas, joined out of smaller texts by a program; no conditions. -/
import Derived.Test.YtmahphgjkpgidaaGreatDoorKB10
import Derived.Test.YtmahphgjkpgidaaGreatDoorKB11
set_option linter.unusedVariables false
set_option linter.unusedSimpArgs false
set_option maxHeartbeats 400000
set_option maxRecDepth 100000
namespace Go.Proofs.YtmahphgjkpgidaaGreatDoor
open Go.aU Go.dh Go.Proofs.Tryz
end Go.Proofs.YtmahphgjkpgidaaGreatDoor
namespace Go.aU
open Go
theorem tab_cells{w:World}{j:Js}{σ:List aG}(hS:aT w j σ){b c:Nat}{vs:Array Value}(h:σ[b]? =some (.tab c vs)): ∃e f,w.heap[c]? =some (.cells vs e f):=by
 obtain⟨o,_,hB⟩:=hS.blk b _ h;obtain⟨_,_,_,e,h4,h5⟩:=hB;unfold World.shape? at h4;cases hc:w.heap[c]? with
 |none=>simp[hc] at h4
 |some ob=>
  rw[hc] at h4;cases ob with
  |cells C e' f=>
   simp only[Option.some.injEq,Prod.mk.injEq] at h4;refine⟨e',f,?_⟩;have hC:C=vs:=by
    apply Array.ext
    ·exact h4.2
    ·intro i h1 h2;have h6:=h5 i;simp only[World.cell?,hc] at h6;rw[Array.getElem?_eq_getElem h1,Array.getElem?_eq_getElem h2] at h6;simpa using h6
   rw[hC]
  |_=>simp at h4
end Go.aU
