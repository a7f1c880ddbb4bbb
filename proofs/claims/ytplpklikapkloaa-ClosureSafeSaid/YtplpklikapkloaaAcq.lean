/- Abstract values: parts of aggregates; equality of aggregates. -/
import Derived.Test.YtplpklikapkloaaAc
import Derived.Laws.StructEq
namespace Go.Abs
set_option linter.unusedVariables false
set_option linter.unusedSimpArgs false

theorem arr_get {us : Array Value} {i : Nat} (h : i < us.size) : us[i]? = some us[i] ∧ us.getD i Go.undef = us[i] := by
  simp [Array.getD_eq_getD_getElem?, h]

section
variable {P : Program}
theorem part_sound {w : World} {j : Js} {t : TypeId} {agg : Bool} {m off : Nat} (ht : tyA P t = some (agg, m)) (hm : agg = false → m = 1) {cs : List AV} {us : Array Value} (hs : us.size = cs.length)
    (h : ∀ k, k < cs.length → R w j (cs.getD k .undef) (us.getD k Go.undef)) (hlt : off + m ≤ cs.length) : ∃ v, (part t us off).run P w = .ok v w ∧ R w j (loaded agg ((cs.drop off).take m)) v := by
  cases agg with
  | true =>
    refine ⟨.agg (us.extract off (off + m)), by simp [part, tyA_isAgg ht, tyA_sizeOf ht], .agg _ (by simp; omega) fun k hk => ?_⟩
    simp only [List.length_take, List.length_drop] at hk
    have := h (off + k) (by omega)
    have e1 : ((cs.drop off).take m).getD k AV.undef = cs.getD (off + k) AV.undef := by
      simp [List.getD_eq_getElem?_getD, List.getElem?_take, show k < m by omega]
    have e2 : (us.extract off (off + m)).getD k Go.undef = us.getD (off + k) Go.undef := by
      simp [Array.getD_eq_getD_getElem?, Array.getElem?_extract, show k < min (off + m) us.size - off by omega, show off + k < us.size by omega]
    rw [e1, e2]; exact this
  | false =>
    have h1 := hm rfl
    subst h1
    have := h off (by omega)
    obtain ⟨h4, h5⟩ := arr_get (us := us) (i := off) (by omega)
    rw [h5] at this
    refine ⟨us[off], by simp [part, tyA_isAgg ht, h4], ?_⟩
    have e1 : loaded false ((cs.drop off).take 1) = cs.getD off .undef := by
      have hlt : off < cs.length := by omega
      have h1 : (cs.drop off).take 1 = [cs[off]] := by rw [List.drop_eq_getElem_cons hlt]; rfl
      rw [loaded, if_neg (by simp), h1]
      simp [List.getD_eq_getElem?_getD, hlt]
    rw [e1]; exact this

/-- how a cell is compared -/
inductive EqK where
  | i
  | b
  | s

def eqFs (P : Program) (rec : TypeId → Option (List EqK)) : List Field → Nat → Option (List EqK)
  | [], _ => some []
  | f :: fs, o => if f.name = "_" || !Nat.beq f.offset o then none else match rec f.type, tyA P f.type with
    | some ks, some (_, m) => if Nat.beq ks.length m then (eqFs P rec fs (o + m)).map (ks ++ ·) else none
    | _, _ => none

/-- how the cells of a type are compared, one behind the other -/
def eqT (P : Program) : Nat → TypeId → Option (List EqK)
  | 0, _ => none
  | d + 1, t => match P.underlying t, tyA P t with
    | some (.int _), some (false, 1) => some [.i]
    | some .bool, some (false, 1) => some [.b]
    | some .string, some (false, 1) => some [.s]
    | some (.struct fs), some (true, m) => if P.stoodInHeld t then none else match eqFs P (eqT P d) fs.toList 0 with
      | some ks => if Nat.beq ks.length m then some ks else none
      | none => none
    | _, _ => none

def eq1 (k : EqK) (x y : AV) : Option Bool :=
  match k, x, y with
  | .i, .d (.v (.int k a)), .d (.v (.int k' b)) => if k = k' then some (a == b) else none
  | .b, .d (.v (.bool a)), .d (.v (.bool b)) => some (a == b)
  | .s, .d (.v (.string a)), .d (.v (.string b)) => some (a.toList == b.toList)
  | _, _, _ => none

def eqB : List EqK → List AV → List AV → Option Bool
  | [], [], [] => some true
  | k :: ks, x :: xs, y :: ys => match eq1 k x y, eqB ks xs ys with
    | some a, some b => some (a && b)
    | _, _ => none
  | _, _, _ => none

theorem eqB_append : ∀ {ks ks' : List EqK} {xs ys : List AV} {r : Bool}, eqB (ks ++ ks') xs ys = some r →
    ∃ a b, eqB ks (xs.take ks.length) (ys.take ks.length) = some a ∧ eqB ks' (xs.drop ks.length) (ys.drop ks.length) = some b ∧ r = (a && b) ∧ ks.length ≤ xs.length ∧ ks.length ≤ ys.length
  | [], ks', xs, ys, r, h => ⟨true, r, by simp [eqB], by simpa using h, by simp, by simp, by simp⟩
  | k :: ks, ks', [], ys, r, h => by simp [eqB] at h
  | k :: ks, ks', x :: xs, [], r, h => by simp [eqB] at h
  | k :: ks, ks', x :: xs, y :: ys, r, h => by
    simp only [List.cons_append, eqB] at h
    split at h
    · rename_i a b h1 h2
      obtain ⟨a', b', h3, h4, h5, h6, h7⟩ := eqB_append h2
      refine ⟨a && a', b', by simp [eqB, h1, h3], by simpa using h4, ?_, by simpa using h6, by simpa using h7⟩
      simp only [Option.some.injEq] at h
      rw [← h, h5, Bool.and_assoc]
    · cases h

theorem eqB_length : ∀ {ks : List EqK} {xs ys : List AV} {r : Bool}, eqB ks xs ys = some r → xs.length = ks.length ∧ ys.length = ks.length
  | [], [], [], _, _ => ⟨rfl, rfl⟩
  | [], _ :: _, _, _, h => by simp [eqB] at h
  | [], [], _ :: _, _, h => by simp [eqB] at h
  | k :: ks, [], _, _, h => by simp [eqB] at h
  | k :: ks, _ :: _, [], _, h => by simp [eqB] at h
  | k :: ks, x :: xs, y :: ys, r, h => by
    simp only [eqB] at h
    split at h
    · rename_i a b h1 h2
      have := eqB_length h2
      simp [this.1, this.2]
    · cases h

theorem eqT_len {d : Nat} {t : TypeId} {ks : List EqK} (h : eqT P d t = some ks) : ∃ agg, tyA P t = some (agg, ks.length) ∧ (agg = false → ks.length = 1) := by
  cases d with
  | zero => simp [eqT] at h
  | succ d =>
    unfold eqT at h
    split at h
    · rename_i h2; cases h; exact ⟨false, h2, fun _ => rfl⟩
    · rename_i h2; cases h; exact ⟨false, h2, fun _ => rfl⟩
    · rename_i h2; cases h; exact ⟨false, h2, fun _ => rfl⟩
    · rename_i fs m h1 h2
      split at h
      · cases h
      · split at h
        · rename_i ks' h3
          split at h
          · rename_i h4
            cases h
            have : ks.length = m := by simpa using h4
            exact ⟨true, by rw [this]; exact h2, fun h => by cases h⟩
          · cases h
        · cases h
    · cases h

theorem R_one {w : World} {j : Js} {x : Value} {v : Value} (h : R w j (.d (.v x)) v) : v = x := by
  cases h with | d h => cases h; rfl

theorem eq1_i {k : EqK} {x y : AV} {r : Bool} (h : eq1 k x y = some r) :
    (k = .i ∧ ∃ kk a b, x = .d (.v (.int kk a)) ∧ y = .d (.v (.int kk b)) ∧ r = (a == b)) ∨ (k = .b ∧ ∃ a b, x = .d (.v (.bool a)) ∧ y = .d (.v (.bool b)) ∧ r = (a == b)) ∨ (k = .s ∧ ∃ a b, x = .d (.v (.string a)) ∧ y = .d (.v (.string b)) ∧ r = (a.toList == b.toList)) := by
  unfold eq1 at h
  split at h
  · split at h
    · rename_i hk; cases h; subst hk; exact .inl ⟨rfl, _, _, _, rfl, rfl, rfl⟩
    · cases h
  · cases h; exact .inr (.inl ⟨rfl, _, _, rfl, rfl, rfl⟩)
  · cases h; exact .inr (.inr ⟨rfl, _, _, rfl, rfl, rfl⟩)
  · cases h

theorem eqB_one {k : EqK} {xs ys : List AV} {r : Bool} (h : eqB [k] xs ys = some r) : ∃ x y, xs = [x] ∧ ys = [y] ∧ eq1 k x y = some r := by
  match xs, ys with
  | [], _ => simp [eqB] at h
  | x :: xs, [] => simp [eqB] at h
  | x :: xs, y :: ys =>
    have hl := eqB_length h
    simp at hl
    obtain ⟨rfl, rfl⟩ := hl
    refine ⟨x, y, rfl, rfl, ?_⟩
    simp only [eqB] at h
    split at h
    · rename_i a b h1 h2
      simp only [Option.some.injEq] at h2 h
      subst h2
      rw [h1, ← h]; simp
    · cases h

theorem eqT_sound {w : World} {j : Js} : ∀ (d : Nat) {t : TypeId} {ks : List EqK}, eqT P d t = some ks → ∀ {agg : Bool}, tyA P t = some (agg, ks.length) → ∀ {xs ys : List AV} {u v : Value} {r : Bool}, eqB ks xs ys = some r → R w j (loaded agg xs) u → R w j (loaded agg ys) v →
    ∀ n, d ≤ n → (Op.equalIn n t u v).run P w = .ok r w
  | 0, t, ks, h, agg, ht, xs, ys, u, v, r, hr, hu, hv, n, hn => by simp [eqT] at h
  | d + 1, t, ks, h, agg, ht, xs, ys, u, v, r, hr, hu, hv, n, hn => by
    obtain ⟨n, rfl⟩ : ∃ n', n = n' + 1 := ⟨n - 1, by omega⟩
    unfold eqT at h
    split at h
    · rename_i hun h2
      cases h
      rw [h2] at ht; cases ht
      obtain ⟨x, y, rfl, rfl, h1⟩ := eqB_one hr
      rcases eq1_i h1 with ⟨_, kk, a, b, rfl, rfl, rfl⟩ | ⟨h, _⟩ | ⟨h, _⟩
      · obtain rfl := R_one (show R w j (.d (.v (.int kk a))) u from hu)
        obtain rfl := R_one (show R w j (.d (.v (.int kk b))) v from hv)
        exact run_equalIn_int w n t kk _ a b hun
      · cases h
      · cases h
    · rename_i hun h2
      cases h
      rw [h2] at ht; cases ht
      obtain ⟨x, y, rfl, rfl, h1⟩ := eqB_one hr
      rcases eq1_i h1 with ⟨h, _⟩ | ⟨_, a, b, rfl, rfl, rfl⟩ | ⟨h, _⟩
      · cases h
      · obtain rfl := R_one (show R w j (.d (.v (.bool a))) u from hu)
        obtain rfl := R_one (show R w j (.d (.v (.bool b))) v from hv)
        exact run_equalIn_bool' w n t a b hun
      · cases h
    · rename_i hun h2
      cases h
      rw [h2] at ht; cases ht
      obtain ⟨x, y, rfl, rfl, h1⟩ := eqB_one hr
      rcases eq1_i h1 with ⟨h, _⟩ | ⟨h, _⟩ | ⟨_, a, b, rfl, rfl, rfl⟩
      · cases h
      · cases h
      · obtain rfl := R_one (show R w j (.d (.v (.string a))) u from hu)
        obtain rfl := R_one (show R w j (.d (.v (.string b))) v from hv)
        exact run_equalIn_string w n t a b hun
    · rename_i fs m hun h2
      rw [h2] at ht; cases ht
      split at h
      · cases h
      · rename_i hst
        split at h
        · rename_i ks' hfs
          split at h
          · cases h
            cases hu with
            | agg us hus hur =>
            cases hv with
            | agg vs hvs hvr =>
            have hfo : P.fieldsOf t = fs := by simp [Program.fieldsOf, hun]
            rw [run_equalIn_struct w n t us vs (by rw [hfo]; exact hun) (by simpa using hst), hfo]
            have gen : ∀ (fl : List Field) (o : Nat) (ks : List EqK) (r : Bool), eqFs P (eqT P d) fl o = some ks → o ≤ xs.length → o ≤ ys.length → eqB ks (xs.drop o) (ys.drop o) = some r → (Op.eqFields n us vs fl).run P w = .ok r w := by
              intro fl
              induction fl with
              | nil =>
                intro o ks r h1 ho1 ho2 h2
                simp only [eqFs, Option.some.injEq] at h1
                subst h1
                have hl := eqB_length h2
                have e1 : xs.drop o = [] := List.length_eq_zero_iff.1 hl.1
                have e2 : ys.drop o = [] := List.length_eq_zero_iff.1 hl.2
                rw [e1, e2] at h2
                simp only [eqB, Option.some.injEq] at h2
                subst h2
                simp [Op.eqFields]
              | cons f fl ih =>
                intro o ks r h1 ho1 ho2 h2
                simp only [eqFs] at h1
                split at h1
                · cases h1
                · rename_i hnm
                  simp only [Bool.or_eq_true, decide_eq_true_eq, Bool.not_eq_true', not_or, Bool.not_eq_false] at hnm
                  have hoff : f.offset = o := by simpa using hnm.2
                  split at h1
                  · rename_i kf agf mf e1 e2
                    split at h1
                    · rename_i e3
                      have e3 : kf.length = mf := by simpa using e3
                      simp only [Option.map_eq_some_iff] at h1
                      obtain ⟨kr, e4, rfl⟩ := h1
                      obtain ⟨a, b, g1, g2, g3, g4, g5⟩ := eqB_append h2
                      obtain ⟨agg', e5, e6⟩ := eqT_len e1
                      rw [e2] at e5; cases e5
                      simp only [List.length_drop] at g4 g5
                      obtain ⟨pu, hpu, hru⟩ := part_sound (P := P) (w := w) (j := j) (off := f.offset) e2 (by rw [← e3]; exact e6) hus hur (by omega)
                      obtain ⟨pv, hpv, hrv⟩ := part_sound (P := P) (w := w) (j := j) (off := f.offset) e2 (by rw [← e3]; exact e6) hvs hvr (by omega)
                      rw [hoff] at hpu hpv hru hrv
                      rw [e3] at g1
                      have hq := eqT_sound d e1 (by rw [e3]; exact e2) g1 hru hrv n (by omega)
                      simp only [Op.eqFields, ne_eq, hnm.1, not_false_eq_true, if_true, Sem.run_bind, hoff, hpu, hpv, hq, Result.andThen_ok]
                      cases a with
                      | false => simp only [Bool.not_false, if_true, Sem.run_pure]; rw [g3]; rfl
                      | true =>
                        simp only [Bool.not_true, Bool.false_eq_true, if_false]
                        rw [g3, Bool.true_and]
                        refine ih (o + kf.length) kr b e4 (by omega) (by omega) ?_
                        rw [List.drop_drop, List.drop_drop] at g2
                        exact g2
                    · cases h1
                  · cases h1
            exact gen fs.toList 0 ks r hfs (by simp) (by simp) (by simpa using hr)
          · cases h
        · cases h
    · cases h

def eqA (P : Program) (t : TypeId) : Option (List EqK) := if P.eqGuardType P.depth t then none else match tyA P t with
  | some (true, _) => eqT P 30 t
  | _ => none
theorem eqA_spec {t : TypeId} {ks : List EqK} (h : eqA P t = some ks) : P.eqGuardType P.depth t = false ∧ eqT P 30 t = some ks ∧ tyA P t = some (true, ks.length) := by
  unfold eqA at h
  split at h
  · cases h
  · rename_i h1
    split at h
    · rename_i m h2
      obtain ⟨agg, h3, _⟩ := eqT_len h
      rw [h2] at h3
      simp only [Option.some.injEq, Prod.mk.injEq] at h3
      exact ⟨by cases hb : P.eqGuardType P.depth t <;> simp_all, h, by rw [h2, h3.2]⟩
    · cases h
end
end Go.Abs
