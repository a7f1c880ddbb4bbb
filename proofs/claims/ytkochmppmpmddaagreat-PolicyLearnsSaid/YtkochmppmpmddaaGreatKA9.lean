/- Contracts and lemmas (Dr, Ds), joined out of smaller texts by a program; no conditions. -/
import Derived.Test.YtkochmppmpmddaaGreatKA8
/-! Dr -/
namespace Go.Proofs.YtkochmppmpmddaaGreat
open Go.Abs Go.Arch
set_option linter.unusedVariables false
set_option linter.unusedSimpArgs false
set_option maxRecDepth 100000
set_option maxHeartbeats 1000000

theorem yearOf_mono {d e : Int} (hd : isDay d) (he : isDay e) (h : d ≤ e) : yearOf d ≤ yearOf e := by
  have h1 := yearOf_spec hd.1 hd.2
  have h2 := yearOf_spec he.1 he.2
  rcases Int.lt_or_le (yearOf e) (yearOf d) with hl | hl
  · have := beg_mono (show yearOf e + 1 ≤ yearOf d by omega); omega
  · exact hl
theorem cum_13 {y m : Int} (h1 : 1 ≤ m) (h2 : m ≤ 12) : cum y m + lenM y m ≤ cum y 13 := by
  rw [← cum_succ h1 h2]; exact cum_mono (by omega)
theorem years_mono {d e n : Int} (hd : isDay d) (he : isDay e) (h : d ≤ e) : yearsF d n ≤ yearsF e n := by
  have hy := yearOf_mono hd he h
  obtain ⟨m1, m2, k1, k2, hdd⟩ := date_spec hd.1 hd.2
  obtain ⟨m1', m2', k1', k2', hee⟩ := date_spec he.1 he.2
  have hl1 := lenM_pos (yearOf d + n) (monD d)
  have hl2 := lenM_pos (yearOf e + n) (monD e)
  have hc := cum_13 (y := yearOf d + n) m1 m2
  have hc0 : 0 ≤ cum (yearOf e + n) (monD e) := by have := cum_mono (y := yearOf e + n) (a := 1) (b := monD e) m1'; rw [cum_one] at this; exact this
  unfold yearsF
  dsimp only
  by_cases hbig : 4470 < yearOf e + n
  · rw [if_pos hbig]
    split
    · omega
    · split <;> omega
  · rw [if_neg hbig, if_neg (show ¬ 4470 < yearOf d + n by omega)]
    have key : ofD (yearOf d + n) (monD d) (min (dayD d) (lenM (yearOf d + n) (monD d))) ≤ ofD (yearOf e + n) (monD e) (min (dayD e) (lenM (yearOf e + n) (monD e))) := by
      unfold ofD
      rcases Int.lt_or_le (yearOf d) (yearOf e) with hlt | hge
      · have hb := beg_mono (show yearOf d + n + 1 ≤ yearOf e + n by omega)
        rw [beg_cum] at hb
        omega
      · have hyy : yearOf d = yearOf e := by omega
        rw [← hyy] at hee k2' hc0 hl2 ⊢
        rcases Int.lt_trichotomy (monD d) (monD e) with hm | hm | hm
        · have h3 := cum_mono (y := yearOf d + n) (show monD d + 1 ≤ monD e by omega)
          rw [cum_succ m1 m2] at h3
          omega
        · rw [← hm] at hee k2' hl2 hc0 ⊢
          omega
        · have h3 := cum_mono (y := yearOf d) (show monD e + 1 ≤ monD d by omega)
          rw [cum_succ m1' m2'] at h3
          omega
    split
    · split
      · exact Int.le_refl _
      · omega
    · split <;> omega
theorem yearsR_mono {d e n : Int} (hd : isDay d) (he : isDay e) (h : d ≤ e) : (yearsR d n).1 ≤ (yearsR e n).1 := by
  unfold yearsR
  by_cases hn : 0 ≤ n ∧ n ≤ 200
  · rw [if_pos ⟨hd, hn⟩, if_pos ⟨he, hn⟩]; exact years_mono hd he h
  · rw [if_neg (fun h => hn h.2), if_neg (fun h => hn h.2)]; exact Int.le_refl _

/-- the same person, dated as narrowly at least -/
structure Nar (a b : Prs) : Prop where
  id : a.ID = b.ID
  name : a.Name = b.Name
  ok : prsE0 b = 0 → prsE0 a = 0
  dates : a = b ∨ (isDay a.Death.Last ∧ isDay b.Death.Last ∧ a.Death.Last ≤ b.Death.Last ∧ isDay a.Birth.Last ∧ isDay b.Birth.Last ∧ a.Birth.Last ≤ b.Birth.Last)
theorem Nar.refl (a : Prs) : Nar a a := ⟨rfl, rfl, fun h => h, .inl rfl⟩
theorem Nar.until {a b : Prs} (h : Nar a b) (made : Dating) (y : Int) : untilP a made y ≤ untilP b made y := by
  rcases h.dates with rfl | ⟨h1, h2, h3, h4, h5, h6⟩
  · exact Int.le_refl _
  · unfold untilP
    have e1 := yearsR_mono (n := y) h1 h2 h3
    have e2 := yearsR_mono (n := y) (yearsR_bd a.Birth.Last 110) (yearsR_bd b.Birth.Last 110) (yearsR_mono h4 h5 h6)
    omega
theorem meet_is {a b : Dating} (h : (meetR a b).2 = true) : isDay a.Last ∧ (meetR a b).1.Last ≤ a.Last := by
  unfold meetR at h ⊢
  split at h
  · cases h
  · rename_i hn
    rw [if_neg hn]
    refine ⟨datOk_day (datChk_0.1 ?_), Int.min_le_left _ _⟩
    exact Decidable.not_not.1 fun h => hn (.inl h)
theorem ok_days {a : Prs} (h : prsE0 a = 0) : isDay a.Birth.Last ∧ isDay a.Death.Last := by
  unfold prsE0 at h
  split at h
  · omega
  split at h
  · omega
  split at h
  · omega
  rename_i hn
  exact ⟨datOk_day (datChk_0.1 (Decidable.not_not.1 fun h => hn (.inl h))), datOk_day (datChk_0.1 (Decidable.not_not.1 fun h => hn (.inr h)))⟩
theorem learn_nar {a : Prs} {b d : Dating} (h : (learnR a b d).2 = true) : Nar (learnR a b d).1 a := by
  unfold learnR at h ⊢
  simp only [Bool.and_eq_true, decide_eq_true_eq] at h ⊢
  obtain ⟨⟨h1, h2⟩, h3⟩ := h
  obtain ⟨e1, e2⟩ := meet_is h1
  obtain ⟨e3, e4⟩ := meet_is h2
  have hd := ok_days h3
  exact ⟨rfl, rfl, fun _ => h3, .inr ⟨hd.2, e3, e4, hd.1, e1, e2⟩⟩
theorem learn_all {n : Nat} {g : Nat → Prs} {k : Int} {b d : Dating} (h : (learnL n g k b d).2 = 0) : (learnL n g k b d).1.1 = n ∧ ∀ q, Nar ((learnL n g k b d).1.2 q) (g q) := by
  unfold learnL at h ⊢
  split at h
  · cases h
  rename_i h1
  split at h
  · cases h
  rename_i h2
  split at h
  · cases h
  rename_i h3
  rw [if_neg h1, if_neg h2, if_neg h3]
  refine ⟨rfl, fun q => ?_⟩
  dsimp only
  split
  · rename_i hq
    subst hq
    exact learn_nar (by simpa using h3)
  · exact Nar.refl _
theorem idx_congr {α β γ : Type} (p : β → Bool) (p' : γ → Bool) (f : α → β) (g : α → γ) (h : ∀ x, p (f x) = p' (g x)) : ∀ (l : List α) (i : Nat), idxFrom p (l.map f) i = idxFrom p' (l.map g) i
  | [], _ => rfl
  | x :: xs, i => by simp only [List.map_cons, idxFrom, h x, idx_congr p p' f g h xs]
theorem findP_nar {n : Nat} {g g' : Nat → Prs} (h : ∀ q, Nar (g' q) (g q)) (u : Int) : findP n g' u = findP n g u :=
  idx_congr _ _ g' g (fun x => by simp only [(h x).id]) _ _
theorem prsChk_nar {n : Nat} {g g' : Nat → Prs} (h : ∀ q, Nar (g' q) (g q)) (hc : prsChk n g = 0) : prsChk n g' = 0 := by
  unfold prsChk at hc ⊢
  split at hc
  · omega
  rename_i hn
  rw [if_neg hn]
  refine firstE_of fun q h1 h2 => ?_
  have := firstE_zero hc q h1 h2
  unfold prsE at this ⊢
  split at this
  · exact absurd this (by assumption)
  rename_i h3
  have h3' := (h q).ok (Decidable.not_not.1 h3)
  rw [if_neg (by simp [h3']), (h q).id, (h (q - 1)).id]
  exact this

/-- as many grounds at most, each of a kind and source that were there -/
structure LeG (L' L : List Ground) : Prop where
  len : L'.length ≤ L.length
  of : ∀ x, x ∈ L' → ∃ y, y ∈ L ∧ x.Kind = y.Kind ∧ x.Source = y.Source
theorem LeG.refl (L : List Ground) : LeG L L := ⟨Nat.le_refl _, fun x hx => ⟨x, hx, rfl, rfl⟩⟩
theorem LeG.nil (L : List Ground) : LeG [] L := ⟨Nat.zero_le _, fun x hx => by cases hx⟩
theorem LeG.append {A' A B' B : List Ground} (h1 : LeG A' A) (h2 : LeG B' B) : LeG (A' ++ B') (A ++ B) := by
  refine ⟨by simp only [List.length_append]; have := h1.len; have := h2.len; omega, fun x hx => ?_⟩
  rcases List.mem_append.1 hx with h | h
  · obtain ⟨y, hy, e⟩ := h1.of x h; exact ⟨y, List.mem_append.2 (.inl hy), e⟩
  · obtain ⟨y, hy, e⟩ := h2.of x h; exact ⟨y, List.mem_append.2 (.inr hy), e⟩
theorem LeG.gather {f' f : Nat → List Ground} : ∀ n, (∀ q, q < n → LeG (f' q) (f q)) → LeG (gather f' n) (gather f n)
  | 0, _ => LeG.refl _
  | n + 1, h => (LeG.gather n fun q hq => h q (by omega)).append (h n (by omega))
theorem LeG.setU {L' L : List Ground} (h : LeG L' L) (u : Int) : LeG (L'.map (setU u)) (L.map (setU u)) := by
  refine ⟨by simp only [List.length_map]; exact h.len, fun x hx => ?_⟩
  obtain ⟨z, hz, rfl⟩ := List.mem_map.1 hx
  obtain ⟨y, hy, e1, e2⟩ := h.of z hz
  exact ⟨_, List.mem_map.2 ⟨y, hy, rfl⟩, e1, e2⟩
theorem prsGr_le {n : Nat} {g g' : Nat → Prs} (h : ∀ q, Nar (g' q) (g q)) (hc : prsChk n g = 0) (m : Nat) (ids : Nat → Int) (made : Dating) (y d : Int) : LeG (prsGr n g' m ids made y d).1 (prsGr n g m ids made y d).1 := by
  have hgr : grE n g' ids = grE n g ids := by funext q; unfold grE; rw [findP_nar h]
  unfold prsGr
  rw [hgr, prsChk_nar h hc, hc]
  split
  · exact LeG.refl _
  split
  · exact LeG.refl _
  split
  · exact LeG.refl _
  split
  · exact LeG.refl _
  refine LeG.gather _ fun q _ => ?_
  have hu := (h (findP n g (ids q)).toNat).until made y
  unfold prsGf
  rw [findP_nar h]
  split
  · rw [if_pos (by omega)]
    exact ⟨Nat.le_refl _, fun x hx => ⟨_, List.mem_singleton.2 rfl, by rw [List.mem_singleton.1 hx]; rfl, by rw [List.mem_singleton.1 hx]; rfl⟩⟩
  · exact LeG.nil _
theorem wayG_le {n : Nat} {g : Nat → Row} {p p' : Pol} {d : Int} (h : ∀ r j, LeG (clsG p' r d j) (clsG p r d j)) (u : Int) : LeG (wayG n g p' u d) (wayG n g p u d) :=
  LeG.gather _ fun k _ => LeG.gather _ fun j _ => (h _ j).setU _

/-- a policy with other persons -/
def Pol.withP (p : Pol) (g : Nat → Prs) : Pol := ⟨p.ns, p.gs, p.nc, p.gc, p.np, g, p.Years, p.na, p.ga, p.nm, p.gm⟩
theorem pol_nar {p : Pol} {g' : Nat → Prs} (h : ∀ q, Nar (g' q) (p.gp q)) (hc : polChk p = 0) : polChk (p.withP g') = 0 := by
  obtain ⟨hc1, hc2, hc3, hc4, hy1, hy2, hsc⟩ := pol_parts hc
  have hh : ∀ u, hasP p.np g' u = hasP p.np p.gp u := fun u => by rw [hasP_iff, hasP_iff, findP_nar h]
  have h5 : firstE (polE (p.withP g')) 0 4 = 0 := firstE_of fun q h1 h2 => by
    have : q = 0 ∨ q = 1 ∨ q = 2 ∨ q = 3 := by omega
    rcases this with rfl | rfl | rfl | rfl
    · exact hc1
    · exact prsChk_nar h hc2
    · exact hc3
    · exact hc4
  have h6 : subChk (p.withP g') = 0 := by
    have e : subE (p.withP g') = subE p := by
      funext i
      unfold subE subE1
      simp only [Pol.withP, hh]
    unfold subChk at hsc ⊢
    rw [e]; exact hsc
  unfold polChk
  rw [if_neg (by simp [h5]), if_neg (by simp only [Pol.withP]; omega)]
  exact h6
theorem clsG_nar {p : Pol} {g' : Nat → Prs} (h : ∀ q, Nar (g' q) (p.gp q)) (hc : polChk p = 0) (r : Row) (d : Int) : ∀ j, LeG (clsG (p.withP g') r d j) (clsG p r d j)
  | 0 => LeG.refl _
  | 1 => prsGr_le h (pol_parts hc).2.1 _ _ _ _ _
  | _ + 2 => LeG.refl _
theorem lifted_iff (f : Nat → Reason) : ∀ k, lifted f k = true ↔ ∀ i, i < k → (f i).Pm ≠ 0
  | 0 => by simp [lifted]
  | k + 1 => by
    simp only [lifted, Bool.and_eq_true, lifted_iff f k, bne_iff_ne]
    constructor
    · rintro ⟨h1, h2⟩ i hi
      rcases Nat.lt_or_eq_of_le (Nat.le_of_lt_succ hi) with h | rfl
      · exact h1 i h
      · exact h2
    · intro h; exact ⟨fun i hi => h i (by omega), h k (by omega)⟩
theorem nth_mem' {α : Type} [Inhabited α] {L : List α} {i : Nat} (h : i < L.length) : nth L i ∈ L := by
  unfold nth; rw [List.getElem?_eq_getElem h]; exact List.getElem_mem h
theorem mem_nth' {α : Type} [Inhabited α] {L : List α} {x : α} (h : x ∈ L) : ∃ i, i < L.length ∧ nth L i = x := by
  obtain ⟨i, hi, rfl⟩ := List.getElem_of_mem h
  exact ⟨i, hi, by unfold nth; rw [List.getElem?_eq_getElem hi]; rfl⟩
theorem dec1_congr (p : Pol) (r : Int) (k : Nat) (w : Nat → Int) (d : Int) {x y : Ground} (h1 : x.Kind = y.Kind) (h2 : x.Source = y.Source) : dec1 p r k w d x = dec1 p r k w d y := by
  unfold dec1; rw [h1, h2]
theorem granted_iff (n : Nat) (g : Nat → Row) (p : Pol) (r u d : Int) : (decW n g p r u d).Granted = true ↔ ∀ x, x ∈ wayG n g p u d → dec1 p r (wayK n g u) (fun i => (g (wayX n g u i)).Unit) d x ≠ 0 := by
  unfold decW decR
  simp only [lifted_iff, rsn]
  constructor
  · intro h x hx
    obtain ⟨i, hi, rfl⟩ := mem_nth' hx
    exact h i hi
  · intro h i hi
    exact h _ (nth_mem' hi)
theorem learn_dec {n : Nat} {g : Nat → Row} {p : Pol} {r u d : Int} {g' : Nat → Prs} (h : ∀ q, Nar (g' q) (p.gp q)) (ha : askR n g p r u d = 0) : askR n g (p.withP g') r u d = 0 ∧ (decW n g (p.withP g') r u d).nr ≤ (decW n g p r u d).nr ∧ ((decW n g p r u d).Granted = true → (decW n g (p.withP g') r u d).Granted = true) := by
  obtain ⟨a1, a2, a3, a4, a5, a6⟩ := ask_zero ha
  have hw := wayG_le (n := n) (g := g) (fun r j => clsG_nar h a2 r d j) u
  refine ⟨?_, hw.len, fun hg => ?_⟩
  · unfold askR
    rw [if_neg (by rintro (h' | h'); exact h' a1; exact h' (pol_nar h a2)), if_neg (by rintro (h | h | h); rw [a3] at h; cases h; omega; omega), if_neg (by omega)]
  · rw [granted_iff] at hg ⊢
    intro x hx
    obtain ⟨y, hy, e1, e2⟩ := hw.of x hx
    have := hg y hy
    rw [← dec1_congr p r _ _ d e1 e2] at this
    exact this
theorem polOk_nar {p : Pol} {g' : Nat → Prs} (h : ∀ q, Nar (g' q) (p.gp q)) (hp : PolOk p) : PolOk (p.withP g') :=
  ⟨hp.ns, hp.nc, hp.np, hp.na, hp.nm, hp.ps, fun i hi => by show (g' i).Name.size < _; rw [(h i).name]; exact hp.nn i hi⟩

end Go.Proofs.YtkochmppmpmddaaGreat

/-! Ds -/
namespace Go.Proofs.YtkochmppmpmddaaGreat
open Go.Abs Go.Arch
set_option linter.unusedVariables false
set_option linter.unusedSimpArgs false
set_option maxRecDepth 100000
set_option maxHeartbeats 1000000
attribute [go_sem] Pol.withP
theorem decide_at {n : Nat} {g : Nat → Row} {p : Pol} {r u d : Int} (h : askR n g p r u d = 0) : decideR n g p r u d = (decW n g p r u d, 0) := by
  unfold decideR; rw [if_neg (by simp [h])]


theorem law35_PolicyLearns_cs (σ : List Blk) (n : Nat) (g : Nat → Row) (p : Pol) (x0 x1 x2 x3 : Int) (b e : Dating) (hs : p.ns ≤ 9223372036854775807) (hq : p.np ≤ 9223372036854775807) (hσ : σ[0]? = some (.loc 0)) : CSF Tryz.prog 10 [.agg (.d (SL none 3 Row.enc n g) :: p.enc.map .d), .agg [.d (I x0), .d (I x1), .d (I x2), .d (I x3)], .agg [.d (I b.First), .d (I b.Last), .d (I e.First), .d (I e.Last)]] σ (.d (B true)) := by
  refine CSF.of_body T.en10 Tryz.func10 rfl (by simp [Tryz.ntmps10]) (by simp [go_sem]) fun hwf => ?_
  refine awp_reg_seq fun K hK => ?_
  simp [go_sem, Tryz.ntmps10]
  repeat refine ⟨by omega, ?_⟩
  refine hK _ ?_; clear hK K
  refine awp_seq ?_
  refine awp_reg_seq fun K hK => ?_
  simp [go_sem]
  repeat refine ⟨by omega, ?_⟩
  refine CSk.mk (law35_awake_cs _ (loc_app hσ)) ?_
  simp [go_sem]
  repeat refine ⟨by omega, ?_⟩
  refine hK _ ?_; clear hK K
  refine awp_forget [3, 4, 5, 17] (by simp only [restr, List.contains_cons, List.contains_nil, Nat.reduceBEq, Bool.or_false, Bool.or_true, Bool.true_or, Bool.false_or, if_true, if_false, Bool.false_eq_true]; rfl) ?_
  refine awp_cond rfl (fun c0 => ?_) (fun c0 => ?_)
  · have d0 := c0; try simp at d0
  · have d0 := c0; try simp at d0
    refine awp_skip ?_
    apply awp_own_seq 6 4 7 T.mixed (by kernel_rfl)
    · intro τ K hK
      simp [go_sem, c0, d0]
      repeat refine ⟨by omega, ?_⟩
      exact hK _ _
    intro K hK
    simp [go_sem, c0, d0]
    repeat refine ⟨by omega, ?_⟩
    refine hK _ ?_; clear hK K
    refine awp_seq ?_
    refine awp_reg_seq fun K hK => ?_
    simp [go_sem, c0, d0]
    repeat refine ⟨by omega, ?_⟩
    refine CSk.mk (ref35_Few_cs _ none n g p hs hq) ?_
    simp [go_sem, c0, d0]
    repeat refine ⟨by omega, ?_⟩
    refine hK _ ?_; clear hK K
    refine awp_forget [4, 5, 7, 8, 25] (by simp only [restr, List.contains_cons, List.contains_nil, Nat.reduceBEq, Bool.or_false, Bool.or_true, Bool.true_or, Bool.false_or, if_true, if_false, Bool.false_eq_true]; rfl) ?_
    refine awp_cond rfl (fun c1 => ?_) (fun c1 => ?_)
    · have d1 := c1; try simp at d1
      refine awp_reg_seq fun K hK => ?_
      simp [go_sem, c0, d0, c1, d1]
      repeat refine ⟨by omega, ?_⟩
      refine hK _ ?_; clear hK K
      refine awp_ret ?_
      simp [go_sem, Tryz.results10, c0, d0, c1, d1] <;> omega
    · have d1 := c1; try simp at d1
      obtain ⟨hp, hn⟩ := few_ok d1
      refine awp_skip ?_
      apply awp_own_seq 16 14 15 T.mixed (by kernel_rfl)
      · intro τ K hK
        simp [go_sem, c0, d0, c1, d1]
        repeat refine ⟨by omega, ?_⟩
        refine CSg.mk (cloneRow_cs _ none n g (by omega)) ?_
        simp [go_sem, c0, d0, c1, d1]
        repeat refine ⟨by omega, ?_⟩
        refine CSg.mk (law35_cp_cs _ p hp) ?_
        simp [go_sem, c0, d0, c1, d1]
        repeat refine ⟨by omega, ?_⟩
        refine CSg.mk (policy_Decide_cs _ none n g p x0 x1 x2 (by omega) hp (loc_app hσ)) ?_
        simp [go_sem, c0, d0, c1, d1]
        repeat refine ⟨by omega, ?_⟩
        exact hK _ _
      intro K hK
      simp [go_sem, c0, d0, c1, d1]
      repeat refine ⟨by omega, ?_⟩
      refine hK _ ?_; clear hK K
      refine awp_draw_seq 14 T.mixed (by kernel_rfl) fun K hK => ?_
      simp [go_sem, c0, d0, c1, d1]
      repeat refine ⟨by omega, ?_⟩
      refine CSg.mk (clonePrs_cs _ none p.np p.gp (by have := hp.np; omega)) ?_
      simp [go_sem, c0, d0, c1, d1]
      repeat refine ⟨by omega, ?_⟩
      refine CSg.mk (person_Learn_cs _ none p.np p.gp x3 b e (by have := hp.np; omega) hp.nn (loc_app hσ)) ?_
      simp [go_sem, c0, d0, c1, d1]
      repeat refine ⟨by omega, ?_⟩
      refine hK _ ?_; clear hK K
      refine awp_seq ?_
      refine awp_reg_seq fun K hK => ?_
      simp [go_sem, c0, d0, c1, d1]
      repeat refine ⟨by omega, ?_⟩
      refine hK _ ?_; clear hK K
      refine awp_forget [4, 7, 8, 9, 11, 58] (by simp only [restr, List.contains_cons, List.contains_nil, Nat.reduceBEq, Bool.or_false, Bool.or_true, Bool.true_or, Bool.false_or, if_true, if_false, Bool.false_eq_true]; rfl) ?_
      refine awp_cond rfl (fun c2 => ?_) (fun c2 => ?_)
      · have d2 := c2; try simp at d2
        refine awp_reg_seq fun K hK => ?_
        simp [go_sem, c0, d0, c1, d1, c2, d2]
        repeat refine ⟨by omega, ?_⟩
        refine hK _ ?_; clear hK K
        refine awp_ret ?_
        simp [go_sem, Tryz.results10, c0, d0, c1, d1, c2, d2] <;> omega
      · have d2 := c2; try simp at d2
        obtain ⟨hak, hz⟩ := decide_ok d2.1
        obtain ⟨hln, hna⟩ := learn_all d2.2
        obtain ⟨ha2, hle, hgr⟩ := learn_dec hna hak
        have hz2 := decide_at ha2
        have hp2 := polOk_nar hna hp
        simp only [Pol.withP] at hz2 hle hgr
        refine awp_skip ?_
        refine awp_reg_seq fun K hK => ?_
        simp [go_sem, c0, d0, c1, d1, c2, d2, hz, hln]
        repeat refine ⟨by omega, ?_⟩
        refine CSk.mk (law35_cp_cs _ p hp) ?_
        simp [go_sem, c0, d0, c1, d1, c2, d2, hz, hln]
        repeat refine ⟨by omega, ?_⟩
        refine hK _ ?_; clear hK K
        refine awp_reg_seq fun K hK => ?_
        simp [go_sem, c0, d0, c1, d1, c2, d2, hz, hln]
        repeat refine ⟨by omega, ?_⟩
        refine hK _ ?_; clear hK K
        apply awp_own_seq 15 13 14 T.mixed (by kernel_rfl)
        · intro τ K hK
          simp [go_sem, c0, d0, c1, d1, c2, d2, hz, hln]
          repeat refine ⟨by omega, ?_⟩
          refine CSg.mk (cloneRow_cs _ none n g (by omega)) ?_
          simp [go_sem, c0, d0, c1, d1, c2, d2, hz, hln]
          repeat refine ⟨by omega, ?_⟩
          refine CSg.mk (policy_Decide_cs _ none n g (p.withP (learnL p.np p.gp x3 b e).1.2) x0 x1 x2 (by omega) hp2 (loc_app hσ)) ?_
          simp [go_sem, c0, d0, c1, d1, c2, d2, hz, hln]
          repeat refine ⟨by omega, ?_⟩
          exact hK _ _
        intro K hK
        simp [go_sem, c0, d0, c1, d1, c2, d2, hz, hln]
        repeat refine ⟨by omega, ?_⟩
        refine hK _ ?_; clear hK K
        refine awp_reg_seq fun K hK => ?_
        simp [go_sem, c0, d0, c1, d1, c2, d2, hz, hln]
        repeat refine ⟨by omega, ?_⟩
        refine hK _ ?_; clear hK K
        refine awp_ret ?_
        simp [go_sem, Tryz.results10, hz2]
        refine ⟨?_, by omega⟩
        cases hb : (decW n g p x0 x1 x2).Granted with
        | false => exact .inl rfl
        | true => exact .inr (hgr hb)

end Go.Proofs.YtkochmppmpmddaaGreat
