/- Abstract values: slices of slices and strings, structs built of parts. -/
import Derived.Test.YtplpklikapkloaaAe
namespace Go.Abs
set_option linter.unusedVariables false
set_option linter.unusedSimpArgs false

section
variable {P : Program} {g : Bool} {s : St}

theorem run_v {w w' : World} {S : Sem Value} {v : Value} (h : S.run P w = .ok v w') : (do pure (Next.value (← S)) : Sem Next).run P w = .ok (.value v) w' := by
  simp [h]

/-- a bound of a slice expression -/
def bnd (g : Bool) (s : St) (x : Option Operand) (dflt : Int) (K : Int → Prop) : Prop :=
  match x with
  | none => K dflt
  | some x => arg g s x fun
    | .d (.v (.int _ i)) => K i
    | _ => False

/-- what 'bnd' says of the operand -/
def Bnd (g : Bool) (s : St) (x : Option Operand) (dflt i : Int) : Prop :=
  match x with
  | none => i = dflt
  | some x => ∃ k, Arg g s x (.d (.v (.int k i)))

theorem bnd_sound {x : Option Operand} {dflt : Int} {K : Int → Prop} (h : bnd g s x dflt K) : ∃ i, K i ∧ Bnd g s x dflt i := by
  cases x with
  | none => exact ⟨_, h, rfl⟩
  | some x =>
    obtain ⟨av, h1, h2⟩ := arg_sound h
    split at h1
    · exact ⟨_, h1, _, h2⟩
    · exact h1.elim

def sliceA (P : Program) (g : Bool) (t : TypeId) (s : St) (x : AV) (lo hi mx : Option Operand) (K : AV → Prop) : Prop :=
  match x with
  | .d (.v (.string b)) => (strT P t && mx.isNone) = true ∧ bnd g s lo 0 fun l => bnd g s hi b.size fun h => (g = true → 0 ≤ l ∧ l ≤ h ∧ h ≤ b.size) ∧ K (.d (.v (.string (b.extract l.toNat h.toNat))))
  | .d (.sl cap sz n row) => (match slA P t with
    | some (_, m) => Nat.beq m sz = true
    | none => False) ∧ bnd g s lo 0 fun l => bnd g s hi n fun h => (match mx with
      | none => (g = true → 0 ≤ l ∧ l ≤ h ∧ h ≤ n) ∧ K (.d (.sl (cap.map (· - l.toNat)) sz (h - l).toNat fun i => row (l.toNat + i)))
      | some m => hi.isSome = true ∧ bnd g s (some m) 0 fun m => (g = true → 0 ≤ l ∧ l ≤ h ∧ h ≤ m ∧ m ≤ n) ∧ K (.d (.sl (some (m - l).toNat) sz (h - l).toNat fun i => row (l.toNat + i))))
  | .d (.v (.slice none 0 0)) => (match slA P t with
    | some _ => True
    | none => False) ∧ bnd g s lo 0 fun l => bnd g s hi 0 fun h => mx.isNone = true ∧ (g = true → l = 0 ∧ h = 0) ∧ K (.d (.v (.slice none 0 0)))
  | .ms b sz lo' n => (match slA P t with
    | some (_, m) => Nat.beq m sz = true
    | none => False) ∧ bnd g s lo 0 fun l => bnd g s hi n fun h => mx.isNone = true ∧ (g = true → 0 ≤ l ∧ l ≤ h ∧ h ≤ n ∧ (l < n ∨ l = 0)) ∧ K (.ms b sz (lo' + l.toNat) (h - l).toNat)
  | _ => False

def BV (ev : Operand → Value) (x : Option Operand) (dflt i : Int) : Prop :=
  match x with
  | none => i = dflt
  | some x => ∃ k, ev x = .int k i

theorem bounds_run {isS : Bool} {len cap : Nat} {lo hi : Option Operand} {l h : Int} {ev : Operand → Value}
    (hl : BV ev lo 0 l) (hh : BV ev hi len h) (h0 : 0 ≤ l) (h1 : l ≤ h) (h2 : h ≤ cap) (w : World) :
    (Instr.sliceBounds isS len cap (lo.map ev) (hi.map ev) none).run P w = .ok (l.toNat, h.toNat, cap) w := by
  have e1 : 0 ≤ h := by omega
  have e2 : (h.toNat : Int) = h := Int.toNat_of_nonneg e1
  cases hi with
  | none =>
    simp only [BV] at hh
    subst hh
    cases lo with
    | none => simp only [BV] at hl; subst hl; simp [Instr.sliceBounds]
    | some x =>
      obtain ⟨k, hx⟩ := hl
      simp [Instr.sliceBounds, Instr.sliceBound, asIntOf, hx, h0, h1]
  | some y =>
    obtain ⟨k', hy⟩ := hh
    cases lo with
    | none => simp only [BV] at hl; subst hl; simp [Instr.sliceBounds, Instr.sliceBound, asIntOf, hy, e1, h2]
    | some x =>
      obtain ⟨k, hx⟩ := hl
      simp [Instr.sliceBounds, Instr.sliceBound, asIntOf, hx, hy, e1, h2, h0, show l ≤ max h 0 by omega]

theorem bounds_run3 {isS : Bool} {len cap : Nat} {lo : Option Operand} {hi mx : Operand} {l h m : Int} {ev : Operand → Value}
    (hl : BV ev lo 0 l) (hh : ∃ k, ev hi = .int k h) (hm : ∃ k, ev mx = .int k m) (h0 : 0 ≤ l) (h1 : l ≤ h) (h2 : h ≤ m) (h3 : m ≤ cap) (w : World) :
    (Instr.sliceBounds isS len cap (lo.map ev) (some (ev hi)) (some (ev mx))).run P w = .ok (l.toNat, h.toNat, m.toNat) w := by
  obtain ⟨k, hh⟩ := hh
  obtain ⟨k', hm⟩ := hm
  have e0 : 0 ≤ m := by omega
  have e1 : 0 ≤ h := by omega
  have e2 : h ≤ (m.toNat : Int) := by omega
  cases lo with
  | none => simp only [BV] at hl; subst hl; simp [Instr.sliceBounds, Instr.sliceBound, asIntOf, hh, hm, e0, e1, h3, show h ≤ max m 0 by omega]
  | some x =>
    obtain ⟨k, hx⟩ := hl
    simp [Instr.sliceBounds, Instr.sliceBound, asIntOf, hx, hh, hm, e0, e1, h3, h0, show h ≤ max m 0 by omega, show l ≤ max h 0 by omega]

theorem Bnd.at {x : Option Operand} {dflt i : Int} (h : Bnd g s x dflt i) (hg : g = true) {j0 : J0} {j : Js} {a : Act} {w : World} (hr : Rel j0 s j a w) : BV a.eval x dflt i := by
  cases x with
  | none => exact h
  | some x => obtain ⟨k, hk⟩ := h; exact ⟨k, R_v (hk hg j0 j a w hr)⟩

theorem slice_sound {t : TypeId} {x : Operand} {lo hi mx : Option Operand} {av : AV} {K : AV → Prop} (h : sliceA P g t s av lo hi mx K) (hx : Arg g s x av) : ∃ r, K r ∧ Yld P g s (.slice t x lo hi mx) r := by
  unfold sliceA at h
  split at h
  · rename_i b
    obtain ⟨ht, h⟩ := h
    simp only [Bool.and_eq_true] at ht
    obtain ⟨l, h, hl⟩ := bnd_sound h
    obtain ⟨hh, h, hhi⟩ := bnd_sound h
    obtain ⟨hs, hK⟩ := h
    have hu : P.underlying t = some .string := by
      have := ht.1; unfold strT at this; split at this <;> simp_all
    have hmx : mx = none := by cases mx <;> simp_all
    subst hmx
    refine ⟨_, hK, fun hg j0 j a w o ho hrel => ⟨_, ?_, .d (.v _)⟩⟩
    have h1 := R_v (hx hg j0 j a w hrel)
    obtain ⟨h2, h3, h4⟩ := hs hg
    have hb := bounds_run (P := P) (isS := false) (len := b.size) (cap := b.size) (hl.at hg hrel) (hhi.at hg hrel) h2 h3 h4 w
    simp [execOp, ho, h1, Instr.sliceAt, Instr.slice, underlying, hu, hb]
  · rename_i cap sz n row
    obtain ⟨ht, h⟩ := h
    obtain ⟨l, h, hl⟩ := bnd_sound h
    obtain ⟨hh, h, hhi⟩ := bnd_sound h
    split at ht
    · rename_i e m hsl
      have hm := Nat.eq_of_beq_eq_true ht
      subst hm
      obtain ⟨hu, inf, hinf, hsz⟩ := slA_spec hsl
      cases mx with
      | none =>
        simp only at h
        obtain ⟨hs, hK⟩ := h
        refine ⟨_, hK, fun hg j0 j a w o ho hrel => ?_⟩
        obtain ⟨h2, h3, h4⟩ := hs hg
        have h1 := hx hg j0 j a w hrel
        simp only [execOp, ho]
        generalize a.eval x = u at h1
        cases h1 with | d h1 =>
        cases h1 with
        | sl ad c val hcap hle ha hlt hb hlen hcell hr =>
          have hbr := bounds_run (P := P) (isS := true) (len := n) (cap := c) (hl.at hg hrel) (hhi.at hg hrel) h2 h3 (by omega) w
          have hrun : (Instr.sliceAt t (.slice (some ad) n c) (lo.map a.eval) (hi.map a.eval) none).run P w = .ok (.slice (if c = l.toNat then some ad else (some ad).map (·.add (l.toNat * m))) (hh.toNat - l.toNat) (c - l.toNat)) w := by
            simp [Instr.sliceAt, Instr.slice, underlying, hu, hbr, Go.sizeOf, typeInfo, hinf, hsz]
          refine ⟨_, run_v hrun, .d ?_⟩
          have e1 : (hh - l).toNat = hh.toNat - l.toNat := by omega
          rw [e1]
          have hcap' : cap.map (· - l.toNat) = none ∨ cap.map (· - l.toNat) = some (c - l.toNat) := by
            rcases hcap with rfl | rfl
            · exact .inl rfl
            · exact .inr rfl
          by_cases hcl : c = l.toNat
          · have : hh.toNat - l.toNat = 0 := by omega
            rw [if_pos hcl, this]
            exact .zero _ _ hcap' (by simp)
          · rw [if_neg hcl]
            simp only [Option.map_some]
            rw [add_off _ ha]
            refine .sl _ _ (fun i k => val (l.toNat + i) k) hcap' (by omega) rfl hlt hb (fun i hi => hlen _ (by omega)) (fun i hi k hk => ?_) (fun i hi k hk => hr _ (by omega) k hk)
            have := hcell (l.toNat + i) (by omega) k hk
            rw [Nat.add_mul, ← Nat.add_assoc] at this
            exact this
        | zero p c hcap hp =>
          have e0 : l = 0 := by omega
          have e1 : hh = 0 := by omega
          subst e0 e1
          have hbr := bounds_run (P := P) (isS := true) (len := 0) (cap := c) (hl.at hg hrel) (hhi.at hg hrel) (by omega) (by omega) (by omega) w
          have hrun : (Instr.sliceAt t (.slice p 0 c) (lo.map a.eval) (hi.map a.eval) none).run P w = .ok (.slice p 0 c) w := by
            have e2 : (p.map (·.add (0 * m))) = p := by cases p <;> simp [Addr.add]
            have e3 : (p.map (·.add 0)) = p := by cases p <;> simp [Addr.add]
            simp [Instr.sliceAt, Instr.slice, underlying, hu, hbr, Go.sizeOf, typeInfo, hinf, hsz, e2, e3]
          refine ⟨_, run_v hrun, .d ?_⟩
          refine .zero _ _ ?_ hp
          rcases hcap with rfl | rfl
          · exact .inl rfl
          · exact .inr rfl
      | some mm =>
        simp only at h
        obtain ⟨hsome, h⟩ := h
        obtain ⟨q, h, hq⟩ := bnd_sound h
        obtain ⟨hs, hK⟩ := h
        refine ⟨_, hK, fun hg j0 j a w o ho hrel => ?_⟩
        obtain ⟨h2, h3, h4, h5⟩ := hs hg
        have h1 := hx hg j0 j a w hrel
        simp only [execOp, ho]
        generalize a.eval x = u at h1
        cases hi with
        | none => simp at hsome
        | some hy =>
        cases h1 with | d h1 =>
        cases h1 with
        | sl ad c val hcap hle ha hlt hb hlen hcell hr =>
          have hbr := bounds_run3 (P := P) (isS := true) (len := n) (cap := c) (hl.at hg hrel) (hhi.at hg hrel) (hq.at hg hrel) h2 h3 h4 (by omega) w
          have hrun : (Instr.sliceAt t (.slice (some ad) n c) (lo.map a.eval) ((some hy).map a.eval) ((some mm).map a.eval)).run P w = .ok (.slice (if q.toNat = l.toNat then some ad else (some ad).map (·.add (l.toNat * m))) (hh.toNat - l.toNat) (q.toNat - l.toNat)) w := by
            simp only [Option.map_some]
            simp [Instr.sliceAt, Instr.slice, underlying, hu, hbr, Go.sizeOf, typeInfo, hinf, hsz]
          refine ⟨_, run_v hrun, .d ?_⟩
          have e1 : (hh - l).toNat = hh.toNat - l.toNat := by omega
          have e2 : (q - l).toNat = q.toNat - l.toNat := by omega
          rw [e1, e2]
          by_cases hcl : q.toNat = l.toNat
          · have : hh.toNat - l.toNat = 0 := by omega
            rw [if_pos hcl, this]
            exact .zero _ _ (.inr rfl) (by simp)
          · rw [if_neg hcl]
            simp only [Option.map_some]
            rw [add_off _ ha]
            refine .sl _ _ (fun i k => val (l.toNat + i) k) (.inr rfl) (by omega) rfl hlt hb (fun i hi => hlen _ (by omega)) (fun i hi k hk => ?_) (fun i hi k hk => hr _ (by omega) k hk)
            have := hcell (l.toNat + i) (by omega) k hk
            rw [Nat.add_mul, ← Nat.add_assoc] at this
            exact this
        | zero p c hcap hp =>
          have e0 : l = 0 := by omega
          have e1 : hh = 0 := by omega
          have e2 : q = 0 := by omega
          subst e0 e1 e2
          have hbr := bounds_run3 (P := P) (isS := true) (len := 0) (cap := c) (hl.at hg hrel) (hhi.at hg hrel) (hq.at hg hrel) (by omega) (by omega) (by omega) (by omega) w
          have hrun : (Instr.sliceAt t (.slice p 0 c) (lo.map a.eval) ((some hy).map a.eval) ((some mm).map a.eval)).run P w = .ok (.slice p 0 0) w := by
            simp only [Option.map_some]
            simp [Instr.sliceAt, Instr.slice, underlying, hu, hbr, Go.sizeOf, typeInfo, hinf, hsz]
          refine ⟨_, run_v hrun, .d ?_⟩
          exact .zero _ _ (.inr rfl) (fun _ => rfl)
    · exact ht.elim
  · obtain ⟨ht, h⟩ := h
    obtain ⟨l, h, hl⟩ := bnd_sound h
    obtain ⟨hh, h, hhi⟩ := bnd_sound h
    obtain ⟨hmx, hs, hK⟩ := h
    have hmx : mx = none := by cases mx <;> simp_all
    subst hmx
    split at ht
    · rename_i e m hsl
      obtain ⟨hu, inf, hinf, hsz⟩ := slA_spec hsl
      refine ⟨_, hK, fun hg j0 j a w o ho hrel => ?_⟩
      obtain ⟨e0, e1⟩ := hs hg
      subst e0 e1
      have h1 := R_v (hx hg j0 j a w hrel)
      have hbr := bounds_run (P := P) (isS := true) (len := 0) (cap := 0) (hl.at hg hrel) (hhi.at hg hrel) (by omega) (by omega) (by omega) w
      have hrun : (Instr.sliceAt t (.slice none 0 0) (lo.map a.eval) (hi.map a.eval) none).run P w = .ok (.slice none 0 0) w := by
        simp [Instr.sliceAt, Instr.slice, underlying, hu, hbr, Go.sizeOf, typeInfo, hinf]
      simp only [execOp, ho, h1]
      exact ⟨_, run_v hrun, .d (.v _)⟩
    · exact ht.elim
  · rename_i b sz lo' n
    obtain ⟨ht, h⟩ := h
    obtain ⟨l, h, hl⟩ := bnd_sound h
    obtain ⟨hh, h, hhi⟩ := bnd_sound h
    obtain ⟨hmx, hs, hK⟩ := h
    have hmx : mx = none := by cases mx <;> simp_all
    subst hmx
    split at ht
    · rename_i e m hsl
      have hm := Nat.eq_of_beq_eq_true ht
      subst hm
      obtain ⟨hu, inf, hinf, hsz⟩ := slA_spec hsl
      refine ⟨_, hK, fun hg j0 j a w o ho hrel => ?_⟩
      obtain ⟨h2, h3, h4, h5⟩ := hs hg
      have h1 := hx hg j0 j a w hrel
      simp only [execOp, ho]
      generalize a.eval x = u at h1
      have e1 : (hh - l).toNat = hh.toNat - l.toNat := by omega
      rw [e1]
      cases h1 with
      | @ms _ _ _ _ cb c e' m' hb hsh hn hmm =>
        have hbr := bounds_run (P := P) (isS := true) (len := n) (cap := c) (hl.at hg hrel) (hhi.at hg hrel) h2 h3 (by omega) w
        have hrun : (Instr.sliceAt t (.slice (some ⟨cb, lo' * m, none⟩) n c) (lo.map a.eval) (hi.map a.eval) none).run P w = .ok (.slice (some ⟨cb, (lo' + l.toNat) * m, none⟩) (hh.toNat - l.toNat) (c - l.toNat)) w := by
          have e2 : (if c = l.toNat then some (⟨cb, lo' * m, none⟩ : Addr) else some (Addr.add ⟨cb, lo' * m, none⟩ (l.toNat * m))) = some ⟨cb, (lo' + l.toNat) * m, none⟩ := by
            rw [add_off _ rfl, Nat.add_mul]
            rcases h5 with h5 | h5
            · rw [if_neg (by omega)]
            · subst h5; simp
          simp [Instr.sliceAt, Instr.slice, underlying, hu, hbr, Go.sizeOf, typeInfo, hinf, hsz, e2]
        refine ⟨_, run_v hrun, .ms _ _ _ hb hsh (by omega) ?_⟩
        have : lo' + l.toNat + (c - l.toNat) = lo' + c := by omega
        rw [this]; exact hmm
      | ms0 p hb =>
        have e2 : l = 0 := by omega
        have e3 : hh = 0 := by omega
        subst e2 e3
        have hbr := bounds_run (P := P) (isS := true) (len := 0) (cap := 0) (hl.at hg hrel) (hhi.at hg hrel) (by omega) (by omega) (by omega) w
        have hrun : (Instr.sliceAt t (.slice p 0 0) (lo.map a.eval) (hi.map a.eval) none).run P w = .ok (.slice p 0 0) w := by
          simp [Instr.sliceAt, Instr.slice, underlying, hu, hbr, Go.sizeOf, typeInfo, hinf, hsz]
        exact ⟨_, run_v hrun, .ms0 _ hb⟩
    · exact ht.elim
  · exact h.elim

end
end Go.Abs
