/- Contracts and lemmas, joined out of smaller texts by a program; no conditions. -/
import Derived.Test.YthlhlnbcjlpigaaGreatDoorKB4
import Derived.Test.YthlhlnbcjlpigaaGreatDoorKB5
set_option linter.unusedVariables false
set_option linter.unusedSimpArgs false
set_option maxHeartbeats 400000
set_option maxRecDepth 100000
namespace Go.Proofs.YthlhlnbcjlpigaaGreatDoor
open Go.aU Go.bY Go.Shelf Go.RowKit Go.Lib Go.Sort Go.Proofs.Tryz
theorem ay.of_calls1{P:Program}{f:FuncId}{v r:Value}(hen:dO P f=true)(h: ∀w,Calls P f #[v] w fun e w'=>e= .returned r/\w'=w)(σ:List aC):ay P f [.d (.v v)] σ (.d (.v r)):=by
 refine⟨hen,fun j w vs hs hr=> ?_⟩;have hv:vs= #[v]:=by
  have h0:=kD (show R w j (.d (.v v)) (vs.getD 0 Go.undef) from hr.2 0 (by simp));apply Array.ext
  ·simpa using hr.1
  ·intro i h1 h2;have hi:i=0:=by simpa using h2
   subst hi;rw[←(nG h1).2];exact h0
 subst hv;exact(h w).mono fun e w' ⟨he,hw⟩=>⟨r,.d (.v r),σ,j,[],he,by rw[hw];exact hs,.d (.v r),by rw[hw];exact .refl _ _,Nat.le_refl _,.refl _ _,rfl,rfl,rfl⟩
theorem bitsLen_cs(σ:List aC)(n:Nat)(h:n<1000000000):ay prog 129 [.d (.v (.int .u64 n))] σ (.d (I (Lib.bitLen n:Nat))):=by
 refine ay.of_calls1 T.en129 (fun w=> ?_) σ;have h:=Any.bits_Len (SlLaysF0.n15.bits (P:=prog) (ρ:=sortRule_ren) { sortRule with }) (n:Int) w (by omega) (by omega);rwa [Int.toNat_natCast] at h
end Go.Proofs.YthlhlnbcjlpigaaGreatDoor
namespace Go.Proofs.YthlhlnbcjlpigaaGreatDoor
open Go.aU Go.bY Go.Proofs.Tryz
variable (σ : List aC)
end Go.Proofs.YthlhlnbcjlpigaaGreatDoor
