/- Lemmas, no conditions. -/
import Derived.Test.YthpplckmbbachaaGreatDoorKB11
set_option linter.unusedVariables false
set_option linter.unusedSimpArgs false
set_option maxHeartbeats 400000
set_option maxRecDepth 100000
namespace Go.Proofs.YthpplckmbbachaaGreatDoor
open Go.aI Go.bI Go.Shelf Go.RowKit Go.Lib Go.Sort Go.Proofs.Tryz
theorem ak.Ub{P f v r}(hen:cG P f=true)(h: ∀w,Calls P f #[v] w fun e w'=>e= .returned r/\w'=w)(σ):ak P f [.d (.v v)] σ (.d (.v r)):=by
 refine⟨hen,fun j w vs hs hr=> ?_⟩;have hv:vs= #[v]:=by
  have h0:=iu (show R w j (.d (.v v)) (vs.getD 0 Go.undef) from hr.2 0 an);apply Array.ext
  ·simpa using hr.1
  ·intro i h1 h2;have hi:i=0:=ai;subst hi;simp_all
 subst hv;exact(h w).mono fun e w' ⟨he,hw⟩=>⟨r,.d (.v r),σ,j,[],he,ai,.d (.v r),by rw[hw];exact .refl _ _,Nat.le_refl _,.refl _ _,rfl,rfl,rfl⟩
theorem QN(σ)(n:Nat)(h:n<1000000000):ak prog 182 [.d (.v (.int .u64 n))] σ (.d (I (Lib.bitLen n:Nat))):=by
 refine ak.Ub T.afM (fun w=> ?_) σ;have h:=Any.bits_Len (SlLaysF0.n15.bits (P:=prog) (ρ:=w8) { WB with }) (n:Int) w aa aa;rwa [Int.toNat_natCast] at h
end Go.Proofs.YthpplckmbbachaaGreatDoor
namespace Go.Proofs.YthpplckmbbachaaGreatDoor
open Go.aI Go.bI Go.Proofs.Tryz
variable (σ : List aZ)
end Go.Proofs.YthpplckmbbachaaGreatDoor
namespace Go.Proofs.YthpplckmbbachaaGreatDoor
open Go.aI Go.bI
def apart(a b:Rule):Prop:=a.In.Until<=b.In.From\/b.In.Until<=a.In.From
theorem apart.symm{a b}(h:apart a b):apart b a:=h.elim .inr .inl
end Go.Proofs.YthpplckmbbachaaGreatDoor
