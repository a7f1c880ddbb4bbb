/- The order of a class's rules: slices.SortFunc by its contract off the shelf. -/
import Derived.Test.YtplpklikapkloaaBh
import Derived.Test.YtplpklikapkloaaAzs
import Derived.Test.YtplpklikapkloaaSm
namespace Go.Proofs.Ytplpklikapkloaa
open Go.Abs Go.Arch Go.Shelf Go.RowKit Go.Lib Go.Sort
set_option linter.unusedVariables false
set_option linter.unusedSimpArgs false
set_option maxRecDepth 100000

def FRule := { r : Rule // formed r = true }
instance : Inhabited FRule := ⟨⟨⟨1, 1, 0, false, ⟨0, 1⟩⟩, by decide⟩⟩
def encV (r : FRule) : List Value := [.int .i64 r.1.ID, .int .i64 r.1.Class, .int .i64 r.1.Years, .bool r.1.YearEnd, .int .i64 r.1.In.From, .int .i64 r.1.In.Until]
theorem encV_enc (r : FRule) : Rule.enc r.1 = (encV r).map .v := rfl
def cmpF (a b : FRule) : Int := a.1.In.From - b.1.In.From

set_option maxHeartbeats 1000000 in
theorem closure65 (a b : FRule) (W : World) : Calls Try.prog 65 #[.agg (encV a).toArray, .agg (encV b).toArray] W fun e w' => e = .returned (.int .i64 (cmpF a b)) ∧ ∃ q os', w' = grow (W.drewN q) os' := by
  obtain ⟨⟨a1, a2, a3, a4, ⟨a5, a6⟩⟩, ha⟩ := a
  obtain ⟨⟨b1, b2, b3, b4, ⟨b5, b6⟩⟩, hb⟩ := b
  have h1 := formed_in ha
  have h2 := formed_in hb
  simp only at h1 h2
  obtain ⟨h11, h12, h13⟩ := h1
  obtain ⟨h21, h22, h23⟩ := h2
  unfold cmpF encV
  simp only
  clear ha hb
  go_enter Try.func65, Try.ntmps65
  go_wp2
  go_ret
  exact ⟨rfl, 0, _, by rw [alloc_eq_grow, alloc_eq_grow, grow_grow]; rfl⟩

theorem cmpF_swo : SWO (ltOf cmpF) where
  irrefl x := by unfold ltOf cmpF; simp
  trans x y z h1 h2 := by unfold ltOf cmpF at *; simp at *; omega
  ntrans x y z h1 h2 := by unfold ltOf cmpF at *; simp at *; omega

theorem CSF.of_calls1 {P : Program} {f : FuncId} {v r : Value} (hen : entersB P f = true) (h : ∀ w, Calls P f #[v] w fun e w' => e = .returned r ∧ w' = w) (σ : List Blk) : CSF P f [.d (.v v)] σ (.d (.v r)) := by
  refine ⟨hen, fun j w vs hs hr => ?_⟩
  have hv : vs = #[v] := by
    have h0 := R_v (show R w j (.d (.v v)) (vs.getD 0 Go.undef) from hr.2 0 (by simp))
    apply Array.ext
    · simpa using hr.1
    · intro i h1 h2
      have hi : i = 0 := by simpa using h2
      subst hi
      rw [← (arr_get h1).2]; exact h0
  subst hv
  exact (h w).mono fun e w' ⟨he, hw⟩ => ⟨r, .d (.v r), σ, j, [], he, by rw [hw]; exact hs, .d (.v r), by rw [hw]; exact .refl _ _, Nat.le_refl _, .refl _ _, rfl, rfl, rfl⟩

theorem bitsLen_cs (σ : List Blk) (n : Nat) (h : n < 1000000000) : CSF Try.prog 71 [.d (.v (.int .u64 n))] σ (.d (I (Lib.bitLen n : Nat))) := by
  refine CSF.of_calls1 T.en71 (fun w => ?_) σ
  have h := Any.bits_Len (SlLaysF0.n15.bits (P := Try.prog) (ρ := Try.sortRule_ren) { Try.sortRule with }) (n : Int) w (by omega) (by omega)
  rwa [Int.toNat_natCast] at h

theorem sort_perm {n : Nat} {x : Nat → FRule} {d : Array FRule} (h : PermIn 0 n (lst n x).toArray d) : d.size = n ∧ (d.toList.map (·.1)).Perm (lst n fun i => (x i).1) := by
  obtain ⟨h1, _, h3⟩ := h
  have hs : d.size = n := by simpa [lst_length] using h1
  refine ⟨hs, ?_⟩
  have e1 : (d.extract 0 n).toList = d.toList := by rw [← hs]; simp
  have e2 : ((lst n x).toArray.extract 0 n).toList = lst n x := by
    simp only [List.extract_toArray, List.extract_eq_take_drop, List.drop_zero, Nat.sub_zero]
    exact List.take_of_length_le (by rw [lst_length]; exact Nat.le_refl _)
  rw [e1, e2] at h3
  have := h3.map (·.1)
  have e3 : (lst n x).map (·.1) = lst n fun i => (x i).1 := by simp [lst]
  rwa [e3] at this

set_option maxHeartbeats 1000000 in
theorem sortRule1_cs (σ τ : List Blk) (n : Nat) (g : Nat → Rule) (hf : ∀ i, i < n → formed (g i) = true) (hn0 : 0 < n) (hn : n < 1000000000) :
    CS Try.prog 64 [.ms σ.length 6 0 n, .clo (.func 65) [] []] (σ ++ .arr 6 n (fun i => Rule.enc (g i)) :: τ) (fun r σ' X => r = .tup [] ∧ X = [] ∧ ∃ L : List Rule, L.Perm (lst n g) ∧ L.Pairwise (fun a b => a.In.From ≤ b.In.From) ∧ σ' = σ ++ .arr 6 n (fun i => Rule.enc (nth L i)) :: τ) := by
  refine ⟨T.en64, fun j w vs hS hR => ?_⟩
  obtain ⟨hsz, hrel⟩ := hR
  have r0 : R w j (.ms σ.length 6 0 n) (vs.getD 0 Go.undef) := by simpa using hrel 0 (by simp)
  have r1 : R w j (.clo (.func 65) [] []) (vs.getD 1 Go.undef) := by simpa using hrel 1 (by simp)
  have hsz : vs.size = 2 := by simpa using hsz
  have hvs : vs = #[vs.getD 0 Go.undef, vs.getD 1 Go.undef] := by
    apply Array.ext
    · simp [hsz]
    · intro i h1 h2
      have hi : i = 0 ∨ i = 1 := by simp at h2; omega
      rcases hi with rfl | rfl
      · rw [← (arr_get h1).2]; rfl
      · rw [← (arr_get h1).2]; rfl
  rw [hvs]
  generalize vs.getD 0 Go.undef = v0 at r0
  generalize vs.getD 1 Go.undef = v1 at r1
  cases r1 with
  | clo ff cc h1 h2 h3 h4 =>
  have e1 : ff = #[] := Array.eq_empty_of_size_eq_zero (by simpa using h1)
  have e2 : cc = #[] := Array.eq_empty_of_size_eq_zero (by simpa using h2)
  subst e1 e2
  cases r0 with
  | ms0 p h => omega
  | @ms _ _ _ _ cb c e m hj hs hc hm =>
  have hb : (σ ++ Blk.arr 6 n (fun i => Rule.enc (g i)) :: τ)[σ.length]? = some (.arr 6 n fun i => Rule.enc (g i)) := by simp
  let x : Nat → FRule := fun i => if h : formed (g i) = true then ⟨g i, h⟩ else default
  have hx : ∀ i, i < n → (x i).1 = g i := fun i hi => by simp [x, hf i hi]
  have hk : ∀ y, (encV y).length = 6 := fun y => rfl
  have hH : HoldsK encV 6 w cb 0 (lst n x).toArray := holds_of hS hj hb (fun i hi => by rw [← hx i hi]; rfl) hk
  have eg : ∀ args w, (callFunc 65 args).run Try.prog w = .ok (.enter 65 args) w := enters_of Try.func65 (by kernel_rfl) rfl
  have hds : (lst n x).toArray.size = n := by simp [lst_length]
  have hcon := AnyQ.slices_SortFunc Try.sortRule 6 Try.isAgg28 Try.sizeOf28 encV hk (fun y v hv => by simp [encV] at hv; rcases hv with rfl | rfl | rfl | rfl | rfl | rfl <;> rfl) cmpF cmpF_swo 65 #[] cb 0 c (lst n x).toArray w eg (fun _ _ _ _ a b => closure65 a b _) hH (hS.lt _ _ hj) (by rw [hds]; omega)
  rw [hds] at hcon
  change Calls Try.prog 64 _ _ _ at hcon
  simp only [Nat.zero_mul]
  refine hcon.mono ?_
  rintro e' w' ⟨rfl, d', q, os, hp, hso, rfl⟩
  obtain ⟨hd, hperm⟩ := sort_perm hp
  obtain ⟨g1, g2⟩ := sorted_rel (m := q) (os := os) hS hj hb (row' := fun i => Rule.enc (nth (d'.toList.map (·.1)) i)) (fun i hi => by
    rw [getElem!_pos d' i (by omega)]
    have : nth (d'.toList.map (·.1)) i = (d'[i]'(by omega)).1 := by simp [nth, show i < d'.size by omega]
    rw [this]; rfl) hk hd
  refine ⟨_, .tup [], _, j, [], rfl, g1, .tup #[] rfl (by simp), g2, Nat.le_refl _, .refl _ _, rfl, rfl, d'.toList.map (·.1), ?_, ?_, ?_⟩
  · refine hperm.trans (List.Perm.of_eq ?_)
    exact lst_ext.2 hx
  · rw [List.pairwise_iff_getElem]
    intro i k hi hk' hik
    simp only [List.length_map, Array.length_toList] at hi hk'
    have := hso i k (Nat.zero_le _) hik (by omega)
    rw [getElem!_pos d' i hi, getElem!_pos d' k hk'] at this
    unfold ltOf cmpF at this
    simp at this ⊢; omega
  · simp only [app_set0, List.set_cons_zero]

end Go.Proofs.Ytplpklikapkloaa
