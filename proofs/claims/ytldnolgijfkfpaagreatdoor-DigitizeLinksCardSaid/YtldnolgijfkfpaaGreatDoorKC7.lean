/- Contracts and lemmas (Cr, Azv, Ct, Cu, Cv), joined out of smaller texts by a program; no conditions. -/
import Derived.Test.YtldnolgijfkfpaaGreatDoorKC4
import Derived.Test.YtldnolgijfkfpaaGreatDoorKC6
import Derived.Test.YtldnolgijfkfpaaGreatDoorKC2
/-! Cr -/
namespace Go.Abs
theorem awp_thawE {P : Program} {c : Code} {Q : Exit → St → Prop} {N : Nat} {t t' : List (Nat × AV)} {σ : List Blk} {mv : List Nat} (k sz : Nat) (row : Nat → List D) {sz0 : Nat} {row0 : Nat → List D} (hk : get t k = some (.d (.sl (some 0) sz0 0 row0))) (ht : put t k (.ms σ.length sz 0 0) = t')
    (h : AWP P c Q ⟨N, t', σ ++ [.arr sz 0 row], mv⟩) : AWP P c Q ⟨N, t, σ, mv⟩ := by
  refine awp_sub (s' := ⟨N, t', σ ++ [.arr sz 0 row], mv⟩) ?_ h
  intro j0 j a w hr
  subst ht
  have hval : ∃ p, a.tmps.getD k Go.undef = .slice p 0 0 := by
    have hx := (hr.tmp k _ hk).2
    generalize a.tmps.getD k Go.undef = v at hx
    cases hx with | d hx =>
    cases hx with
    | sl a c' val hcap _ _ _ _ _ _ _ => rcases hcap with h | h <;> simp at h; subst h; exact ⟨_, rfl⟩
    | zero p c' hcap _ => rcases hcap with h | h <;> simp at h; subst h; exact ⟨_, rfl⟩
  obtain ⟨p, hp⟩ := hval
  obtain ⟨h1, h2, h3⟩ := hr.sto.unmade (sz := sz) (rows := row) (p := p)
  refine ⟨j ++ [none], ⟨hr.defers.mono h3, hr.rdok, hr.size, fun q av hq => ?_, h1, by have := hr.len0; simp; omega, fun c hc hn => ?_⟩, h3⟩
  · simp only at hq
    rw [get_put] at hq
    split at hq
    · rename_i e
      subst e
      simp only [Option.some.injEq] at hq
      subst hq
      exact ⟨(hr.tmp k _ hk).1, by rw [hp]; exact h2⟩
    · exact ⟨(hr.tmp q av hq).1, (hr.tmp q av hq).2.mono0 h3 hr.sto.lt (ag_append _ _)⟩
  · have hcj : c < j.length := by have := hr.len0; omega
    rw [List.getElem?_append_left hcj]; exact hr.ag c hc hn
end Go.Abs
namespace Go.Proofs.YtldnolgijfkfpaaGreatDoor
open Go.Abs
set_option linter.unusedVariables false
set_option linter.unusedSimpArgs false
set_option maxRecDepth 100000
set_option maxHeartbeats 1000000
theorem pad0_row {p : ByteArray} {q : Nat} (hq : q < p.size + 1) : catRows p.size (strRow p) (rowsOf 1 [.v (.int .u8 6)]) q = u8D (pad0 p) q := by
  unfold catRows
  split
  · rename_i h; simp only [u8D, pad0, h, if_true, strRow, byteI]
  · rw [show q = p.size by omega]; simp [rowsOf, u8D, pad0]
theorem pad0_more {p : ByteArray} {i q : Nat} (hq : q < p.size + 1 + i + 1) : catRows (p.size + 1 + i) (u8D (pad0 p)) (rowsOf 1 [.v (.int .u8 0)]) q = u8D (pad0 p) q := by
  unfold catRows
  split
  · rfl
  · rw [show q = p.size + 1 + i by omega]
    simp only [rowsOf, u8D, pad0]
    rw [if_neg (by omega), if_neg (by omega)]; simp
theorem ref01_Sum_cs (σ : List Blk) (p : ByteArray) (hp : p.size ≤ 100) : CSF Tryz.prog 69 [.d (Sb p)] σ (.d (Sb (digS p))) := by
  refine CSF.of_body T.en69 Tryz.func69 rfl (by simp [Tryz.ntmps69]) (by simp [go_sem]) fun hwf => ?_
  refine awp_reg_seq fun K hK => ?_
  simp [go_sem, Tryz.ntmps69]
  repeat refine ⟨by omega, ?_⟩
  refine hK _ ?_; clear hK K
  refine awp_reg_seq fun K hK => ?_
  simp [go_sem, hwf.one, hwf.zero]
  repeat refine ⟨by omega, ?_⟩
  refine hK _ ?_; clear hK K
  refine awp_seq ?_
  refine awp_block ?_
  refine awp_forget [3] (by simp [go_sem, restr]; rfl) ?_
  refine awp_mv [σ.length] (by simp) ?_
  refine awp_loopU (α := Nat × (Nat → List D)) (fun z => [(3, .ms σ.length 1 0 (p.size + 1 + z.1))]) (fun z => σ ++ [.arr 1 (p.size + 1 + z.1) z.2]) (fun z => p.size + 1 + z.1 ≤ 136 ∧ ∀ q, q < p.size + 1 + z.1 → z.2 q = u8D (pad0 p) q) (fun z => 136 - z.1) (0, catRows p.size (strRow p) (rowsOf 1 [.v (.int .u8 6)])) (by simp [go_sem]) (rfl) (⟨by show p.size + 1 + 0 ≤ 136; omega, fun q hq => pad0_row hq⟩) ?_
  rintro ⟨i, row⟩ ⟨hi, hrow⟩
  replace hi : p.size + 1 + i ≤ 136 := hi; refine awp_rows σ.length (u8D (pad0 p)) (by simp [go_sem]; first | exact ⟨rfl, rfl, rfl⟩ | exact ⟨rfl, rfl⟩ | rfl) hrow (by simp [go_sem]; rfl) ?_
  refine awp_seq ?_
  refine awp_reg_seq fun K hK => ?_
  simp [go_sem]
  try simp (disch := omega) only [tmodI]
  repeat refine ⟨by omega, ?_⟩
  refine hK _ ?_; clear hK K
  refine awp_forget [3, 16] (by simp only [restr, List.contains_cons, List.contains_nil, Nat.reduceBEq, Bool.or_false, Bool.or_true, Bool.true_or, Bool.false_or, if_true, if_false, Bool.false_eq_true]; rfl) ?_
  refine awp_cond rfl (fun c0 => ?_) (fun c0 => ?_)
  · have d0 := c0; try simp at d0
    have hlt : p.size + 1 + i < 136 := by omega
    refine awp_skip ?_
    refine awp_block ?_
    refine awp_reg_end fun K hK => ?_
    simp [go_sem, c0, d0, hlt, hwf.one, hwf.zero]
    repeat refine ⟨by omega, ?_⟩
    refine hK _ ?_; clear hK K
    refine ⟨(i + 1, catRows (p.size + 1 + i) (u8D (pad0 p)) (rowsOf 1 [.v (.int .u8 0)])), back_of' (by simp [go_sem, (Nat.add_assoc (p.size + 1) i 1), c0, d0, hlt]) ((leaves_app (by simp [go_sem]))) (by (simp [go_sem, (Nat.add_assoc (p.size + 1) i 1), c0, d0, hlt] <;> omega)), ⟨by show p.size + 1 + (i + 1) ≤ 136; omega, fun q hq => pad0_more hq⟩, by first | omega | (dsimp only; omega)⟩
  · have d0 := c0; try simp at d0
    have hk6 : p.size + 1 + i = 136 := by omega
    have h135 : u8D (pad0 p) 135 = [.v (.int .u8 (pad0 p 135))] := rfl
    have hw5 : IntKind.i64.wrap 135 = 135 := rfl
    rw [hk6]
    refine awp_exit ?_
    refine awp_reg_seq fun K hK => ?_
    simp [go_sem, c0, d0, h135, hw5]
    try simp (disch := omega) only [wrapI]
    repeat refine ⟨by omega, ?_⟩
    refine hK _ ?_; clear hK K
    refine awp_rows σ.length (u8D (padF p)) (by simp [go_sem]; first | exact ⟨rfl, rfl, rfl⟩ | exact ⟨rfl, rfl⟩ | rfl) (by
      intro q hq
      by_cases hq5 : q = 135
      · subst hq5; simp [go_sem, u8D, padF]
      · simp [go_sem, hq5, u8D, padF]) (by simp [go_sem]; rfl) ?_
    refine awp_reg_seq fun K hK => ?_
    simp [go_sem, c0, d0, h135, hw5]
    repeat refine ⟨by omega, ?_⟩
    refine hK _ ?_; clear hK K
    refine awp_seq ?_
    refine awp_reg_seq fun K hK => ?_
    simp [go_sem, c0, d0, h135, hw5]
    repeat refine ⟨by omega, ?_⟩
    refine hK _ ?_; clear hK K
    refine awp_block ?_
    refine awp_forget [3, 4, 5] (by simp [go_sem, restr]; rfl) ?_
    refine awp_loopU (α := Nat) (fun q => [(5, .d (I ((136 * q : Nat) : Int)))]) (fun q => σ ++ [.arr 1 136 (u8D (padF p)), .var (arrV .u64 25 (if q = 0 then fun _ => 0 else stS p))]) (fun q => q ≤ 1) (fun q => 1 - q) 0 (by simp [go_sem]) (rfl) (by simp) ?_
    rintro q hq1
    refine awp_seq ?_
    refine awp_reg_seq fun K hK => ?_
    simp [go_sem, c0, d0, h135, hw5]
    repeat refine ⟨by omega, ?_⟩
    refine hK _ ?_; clear hK K
    refine awp_forget [3, 4, 5, 36] (by simp only [restr, List.contains_cons, List.contains_nil, Nat.reduceBEq, Bool.or_false, Bool.or_true, Bool.true_or, Bool.false_or, if_true, if_false, Bool.false_eq_true]; rfl) ?_
    refine awp_cond rfl (fun c1 => ?_) (fun c1 => ?_)
    · have d1 := c1; try simp at d1
      have hq0 : q = 0 := by omega
      subst hq0
      refine awp_skip ?_
      refine awp_seq ?_
      refine awp_block ?_
      refine awp_seq ?_
      refine awp_reg_seq fun K hK => ?_
      simp [go_sem, c0, d0, h135, hw5, c1, d1]
      repeat refine ⟨by omega, ?_⟩
      refine hK _ ?_; clear hK K
      refine awp_block ?_
      refine awp_forget [3, 4, 5, 6] (by simp [go_sem, restr]; rfl) ?_
      refine awp_loopU (α := Nat) (fun r => [(6, .d (I r))]) (fun r => σ ++ [.arr 1 136 (u8D (padF p)), .var (arrV .u64 25 (absL (fun _ => 0) (padF p) r))]) (fun r => r ≤ 136) (fun r => 136 - r) 0 (by simp [go_sem]) (rfl) (by simp) ?_
      rintro r hr
      refine awp_seq ?_
      refine awp_reg_seq fun K hK => ?_
      simp [go_sem, c0, d0, h135, hw5, c1, d1]
      repeat refine ⟨by omega, ?_⟩
      refine hK _ ?_; clear hK K
      refine awp_forget [3, 4, 5, 6, 40] (by simp only [restr, List.contains_cons, List.contains_nil, Nat.reduceBEq, Bool.or_false, Bool.or_true, Bool.true_or, Bool.false_or, if_true, if_false, Bool.false_eq_true]; rfl) ?_
      refine awp_cond rfl (fun c2 => ?_) (fun c2 => ?_)
      · have d2 := c2; try simp at d2
        have hr5 : r < 136 := by omega
        have hd : r / 8 < 25 := by omega
        have hd4 : r / 8 ≤ 24 := by omega
        have h1 : (r : Int).tdiv 8 = (r : Int) / 8 := tdivI (by omega)
        have h2 : IntKind.i64.wrap ((r : Int) / 8) = (r : Int) / 8 := wrapI (by omega) (by omega)
        have h3 : (r : Int).tmod 8 = (r : Int) % 8 := tmodI (by omega)
        have h4 : IntKind.i64.wrap (8 * ((r : Int) % 8)) = 8 * ((r : Int) % 8) := wrapI (by omega) (by omega)
        have hau : absL (fun _ => 0) (padF p) (r + 1) = upd (absL (fun _ => 0) (padF p) r) (r / 8) (xorI .u64 (absL (fun _ => 0) (padF p) r (r / 8)) (shlI .u64 (IntKind.u64.wrap (padF p r)) (8 * ((r : Int) % 8)))) := rfl
        have hur : u8D (padF p) r = [.v (.int .u8 (padF p r))] := rfl
        have hwr : IntKind.i64.wrap (r : Int) = r := wrapI (by omega) (by omega)
        have hrn : ((r : Int)).toNat = r := rfl
        refine awp_skip ?_
        refine awp_seq ?_
        refine awp_block ?_
        refine awp_draw_end 18 T.mixed (by kernel_rfl) fun K hK => ?_
        simp [go_sem, c0, d0, h135, hw5, c1, d1, c2, d2, hr5, hd, hd4, h1, h2, h3, h4, hau, hur, tn_d8, hwr, hrn]
        try simp (disch := omega) only [tdivI, tmodI, wrapI]
        repeat refine ⟨by omega, ?_⟩
        refine hK _ ?_; clear hK K
        refine awp_reg_end fun K hK => ?_
        simp [go_sem, c0, d0, h135, hw5, c1, d1, c2, d2, hr5, hd, hd4, h1, h2, h3, h4, hau, hur, tn_d8, hwr, hrn]
        try simp (disch := omega) only [wrapI]
        repeat refine ⟨by omega, ?_⟩
        refine hK _ ?_; clear hK K
        refine ⟨r + 1, back_of' (by simp [go_sem, wrap_succ (i := r) (by omega), c0, d0, h135, hw5, c1, d1, c2, d2, hr5, hd, hd4, h1, h2, h3, h4, hau, hur, tn_d8, hwr, hrn]) ((leaves_app (by simp [go_sem]))) (by (simp [go_sem, wrap_succ (i := r) (by omega), c0, d0, h135, hw5, c1, d1, c2, d2, hr5, hd, hd4, h1, h2, h3, h4, hau, hur, tn_d8, hwr, hrn] <;> omega)), by omega, by first | omega | (dsimp only; omega)⟩
      · have d2 := c2; try simp at d2
        obtain rfl : r = 136 := by omega
        have hst : permL (absL (fun _ => 0) (padF p) 136) 24 = stS p := rfl
        have hdr : List.drop 25 (arrV .u64 25 (absL (fun _ => 0) (padF p) 136)) = [] := arrV_drop (Nat.le_refl _)
        refine awp_exit ?_
        refine awp_reg_end fun K hK => ?_
        simp [go_sem, c0, d0, h135, hw5, c1, d1, c2, d2, hst, hdr]
        repeat refine ⟨by omega, ?_⟩
        refine CSk.mk (ref01_Permute_cs _ (absL (fun _ => 0) (padF p) 136)) ?_
        simp [go_sem, c0, d0, h135, hw5, c1, d1, c2, d2, hst, hdr]
        repeat refine ⟨by omega, ?_⟩
        refine hK _ ?_; clear hK K
        refine awp_reg_end fun K hK => ?_
        simp [go_sem, c0, d0, h135, hw5, c1, d1, c2, d2, hst, hdr]
        try simp (disch := omega) only [wrapI]
        repeat refine ⟨by omega, ?_⟩
        refine hK _ ?_; clear hK K
        refine ⟨1, back_of' (by simp [go_sem, c0, d0, h135, hw5, c1, d1, c2, d2, hst, hdr]) ((leaves_app (by simp [go_sem]))) (by (simp [go_sem, c0, d0, h135, hw5, c1, d1, c2, d2, hst, hdr] <;> omega)), by omega, by first | omega | (dsimp only; omega)⟩
    · have d1 := c1; try simp at d1
      obtain rfl : q = 1 := by omega
      refine awp_exit ?_
      refine awp_reg_seq fun K hK => ?_
      simp [go_sem, c0, d0, h135, hw5, c1, d1]
      repeat refine ⟨by omega, ?_⟩
      refine hK _ ?_; clear hK K
      refine awp_seq ?_
      refine awp_thawE 7 1 (u8D (outF p)) (by simp [go_sem]; exact ⟨rfl, rfl⟩) (by simp [go_sem]; rfl) ?_
      refine awp_reg_seq fun K hK => ?_
      simp [go_sem, c0, d0, h135, hw5, c1, d1]
      repeat refine ⟨by omega, ?_⟩
      refine hK _ ?_; clear hK K
      refine awp_block ?_
      refine awp_forget [4, 7, 8] (by simp [go_sem, restr]; rfl) ?_
      refine awp_mv [σ.length, σ.length + 2] (by simp) ?_
      refine awp_loopU (α := Nat) (fun i => [(7, .ms (σ.length + 2) 1 0 i), (8, .d (I i))]) (fun i => σ ++ [.arr 1 136 (u8D (padF p)), .var (arrV .u64 25 (stS p)), .arr 1 i (u8D (outF p))]) (fun i => i ≤ 32) (fun i => 32 - i) 0 (by simp [go_sem]) (rfl) (by simp) ?_
      rintro i hi
      refine awp_seq ?_
      refine awp_reg_seq fun K hK => ?_
      simp [go_sem, c0, d0, h135, hw5, c1, d1]
      repeat refine ⟨by omega, ?_⟩
      refine hK _ ?_; clear hK K
      refine awp_forget [4, 7, 8, 66] (by simp only [restr, List.contains_cons, List.contains_nil, Nat.reduceBEq, Bool.or_false, Bool.or_true, Bool.true_or, Bool.false_or, if_true, if_false, Bool.false_eq_true]; rfl) ?_
      refine awp_cond rfl (fun c3 => ?_) (fun c3 => ?_)
      · have d3 := c3; try simp at d3
        have hi5 : i < 32 := by omega
        have hd : i / 8 < 25 := by omega
        have hd4 : i / 8 ≤ 24 := by omega
        have h1 : (i : Int).tdiv 8 = (i : Int) / 8 := tdivI (by omega)
        have h2 : IntKind.i64.wrap ((i : Int) / 8) = (i : Int) / 8 := wrapI (by omega) (by omega)
        have h3 : (i : Int).tmod 8 = (i : Int) % 8 := tmodI (by omega)
        have h4 : IntKind.i64.wrap (8 * ((i : Int) % 8)) = 8 * ((i : Int) % 8) := wrapI (by omega) (by omega)
        refine awp_skip ?_
        refine awp_seq ?_
        refine awp_block ?_
        refine awp_reg_end fun K hK => ?_
        simp [go_sem, c0, d0, h135, hw5, c1, d1, c3, d3, hi5, hd, hd4, h1, h2, h3, h4, tn_d8, hwf.one, hwf.zero]
        try simp (disch := omega) only [tdivI, tmodI, wrapI]
        repeat refine ⟨by omega, ?_⟩
        refine hK _ ?_; clear hK K
        refine awp_rows (σ.length + 2) (u8D (outF p)) (by simp [go_sem]; first | exact ⟨rfl, rfl, rfl⟩ | exact ⟨rfl, rfl⟩ | rfl) (by intro q hq; unfold catRows; split; rfl; rw [show q = i by omega]; simp [rowsOf, u8D, outF]) (by simp [go_sem]; rfl) ?_
        refine awp_reg_end fun K hK => ?_
        simp [go_sem, c0, d0, h135, hw5, c1, d1, c3, d3, hi5, hd, hd4, h1, h2, h3, h4, tn_d8]
        try simp (disch := omega) only [wrapI]
        repeat refine ⟨by omega, ?_⟩
        refine hK _ ?_; clear hK K
        refine ⟨i + 1, back_of' (by simp [go_sem, wrap_succ (i := i) (by omega), c0, d0, h135, hw5, c1, d1, c3, d3, hi5, hd, hd4, h1, h2, h3, h4, tn_d8]) ((leaves_app (by simp [go_sem]))) (by (simp [go_sem, wrap_succ (i := i) (by omega), c0, d0, h135, hw5, c1, d1, c3, d3, hi5, hd, hd4, h1, h2, h3, h4, tn_d8] <;> omega)), by omega, by first | omega | (dsimp only; omega)⟩
      · have d3 := c3; try simp at d3
        obtain rfl : i = 32 := by omega
        refine awp_exit ?_
        refine awp_reg_seq fun K hK => ?_
        simp [go_sem, c0, d0, h135, hw5, c1, d1, c3, d3, isU8_u8D]
        repeat refine ⟨by omega, ?_⟩
        refine hK _ ?_; clear hK K
        refine awp_ret ?_
        simp [go_sem, Tryz.results69]; rfl
end Go.Proofs.YtldnolgijfkfpaaGreatDoor

/-! Azv -/
namespace Go.Abs
open Go
set_option linter.unusedVariables false
set_option linter.unusedSimpArgs false
theorem CS.own_tup {P : Program} {f : FuncId} {args : List AV} {σ : List Blk} {sz n : Nat} {row : Nat → List D} {x : D} (h : CS P f args σ fun r σ' X => ∃ b τ, r = .tup [.ms b sz 0 n, .d x] ∧ σ' = σ ++ τ ∧ (σ ++ τ)[b]? = some (.arr sz n row) ∧ σ.length ≤ b ∧ ∀ y ∈ X, σ.length ≤ y) :
    CS P f args σ fun r σ' X => r = .tup [.ms σ.length sz 0 n, .d x] ∧ σ' = σ ++ [.arr sz n row] ∧ X = [] := by
  refine ⟨h.1, fun j w vs hS hr => (h.2 j w vs hS hr).mono fun e w' => ?_⟩
  rintro ⟨v, r, σ', j', X, he, h1, h2, h3, h4, h5, b, τ, rfl, rfl, hb, hle, hX⟩
  have hlen : j.length = σ.length := hS.len
  have h5' : Ag j j' [] := fun q hq hn => h5 q hq fun hm => by have := hX q hm; omega
  obtain ⟨o, ho, hB⟩ := h1.blk b _ hb
  have hl2 : (j'.take j.length).length = j.length := by simp; omega
  have hs : ∀ p, p ∈ j'.take j.length ++ [o] → p ∈ j' := fun p hp => by
    rcases List.mem_append.1 hp with hp | hp
    · exact List.mem_of_mem_take hp
    · simp only [List.mem_singleton] at hp; subst hp; exact List.mem_of_getElem? ho
  have hlo : ∀ q : Nat, q < j.length → (j'.take j.length ++ [o])[q]? = j'[q]? := fun q hq => by
    rw [List.getElem?_append_left (by omega), List.getElem?_take, if_pos hq]
  have hat : (j'.take j.length ++ [o])[σ.length]? = some o := by
    rw [List.getElem?_append_right (by omega), hl2, hlen, Nat.sub_self]; rfl
  have hcase : ∀ {q : Nat} {p}, (j'.take j.length ++ [o])[q]? = some p → (q < j.length ∧ j'[q]? = some p) ∨ (q = σ.length ∧ p = o) := fun {q p} hq => by
    rcases Nat.lt_or_ge q j.length with h | h
    · rw [hlo q h] at hq; exact .inl ⟨h, hq⟩
    · have hlt : q < (j'.take j.length ++ [o]).length := (List.getElem?_eq_some_iff.1 hq).1
      simp only [List.length_append, hl2, List.length_singleton] at hlt
      obtain rfl : q = σ.length := by omega
      rw [hat] at hq
      exact .inr ⟨rfl, (Option.some.inj hq).symm⟩
  refine ⟨v, _, _, j'.take j.length ++ [o], [], he, ⟨by rw [List.length_append, List.length_append, hl2, hlen]; rfl, fun q cb hq => ?_, fun q q' cb hq hq' => ?_, fun q y hy => ?_⟩, ?_, ⟨h3.size, h3.keep, fun b hb hm => h3.sub b hb (hs _ hm), h3.shp, h3.frz, h3.os, h3.tape, h3.output, h3.lps⟩, by rw [List.length_append, hl2]; omega, fun q hq hn => by rw [hlo q hq]; exact h5' q hq hn, rfl, rfl, rfl⟩
  · rcases hcase hq with ⟨_, h⟩ | ⟨_, h⟩
    · exact h1.lt q cb h
    · exact h1.lt b cb (by rw [ho, ← h])
  · rcases hcase hq with ⟨a1, a2⟩ | ⟨a1, a2⟩ <;> rcases hcase hq' with ⟨b1, b2⟩ | ⟨b1, b2⟩
    · exact h1.inj q q' cb a2 b2
    · have := h1.inj q b cb a2 (by rw [ho, ← b2]); omega
    · have := h1.inj b q' cb (by rw [ho, ← a2]) b2; omega
    · omega
  · rcases Nat.lt_or_ge q σ.length with hq | hq
    · rw [List.getElem?_append_left hq] at hy
      obtain ⟨o0, ho0, hB0⟩ := hS.blk q y hy
      obtain ⟨o1, ho1, hB1⟩ := h1.blk q y (by rw [List.getElem?_append_left hq]; exact hy)
      exact ⟨o1, by rw [hlo q (by omega)]; exact ho1, hB0.shrink hs (fun p hp => (hlo p hp).symm) hB1⟩
    · have hlt : q < (σ ++ [Blk.arr sz n row]).length := (List.getElem?_eq_some_iff.1 hy).1
      simp at hlt
      obtain rfl : q = σ.length := by omega
      rw [List.getElem?_append_right (Nat.le_refl _)] at hy
      simp at hy
      subst hy
      refine ⟨o, hat, ?_⟩
      cases o with
      | none => exact hB
      | some cb =>
        obtain ⟨C, e, g1, g2, g3⟩ := hB
        exact ⟨C, e, g1, g2, fun i hi => ⟨(g3 i hi).1, fun k hk => ((g3 i hi).2 k hk).less hs⟩⟩
  · cases h2 with
    | tup vs hs' hv =>
      refine .tup vs hs' fun k hk => ?_
      have := hv k (by simpa using hk)
      rcases k with _ | _ | k
      · have h0 : R w' j' (.ms b sz 0 n) (vs.getD 0 Go.undef) := by simpa using this
        show R w' _ (.ms σ.length sz 0 n) (vs.getD 0 Go.undef)
        generalize vs.getD 0 Go.undef = u at h0
        cases h0 with
        | ms c e m k1 k2 k3 k4 => exact .ms c e m (by rw [hat, ← ho, k1]) k2 k3 k4
        | ms0 p k1 => exact .ms0 p (by rw [hat, ← ho, k1])
        | msE p e m k1 k2 k3 k4 => omega
      · have h0 : R w' j' (.d x) (vs.getD 1 Go.undef) := by simpa using this
        show R w' _ (.d x) (vs.getD 1 Go.undef)
        cases h0 with
        | d h0 => exact .d (h0.less hs)
      · have : k + 1 + 1 < 2 := hk; omega
def plainA : AV → Bool
  | .d _ => true
  | .agg cs => cs.all fun c => match c with
    | .d _ => true
    | _ => false
  | _ => false
theorem R.plain {w : World} {j : Js} {av : AV} {v : Value} (h : R w j av v) (hp : plainA av = true) : R w [] av v := by
  cases h with
  | d h => exact .d (h.less (by simp))
  | agg vs hs h =>
    refine .agg vs hs fun k hk => ?_
    have h1 := h k hk
    simp only [plainA, List.all_eq_true] at hp
    have h2 := hp _ (List.getElem_mem hk)
    have e : ∀ cs : List AV, ∀ hk : k < cs.length, cs.getD k .undef = cs[k] := fun cs hk => by simp [List.getD_eq_getElem?_getD, hk]
    rw [e _ hk] at h1 ⊢
    split at h2
    · rename_i y hy
      rw [hy] at h1 ⊢
      cases h1 with | d h1 => exact .d (h1.less (by simp))
    · cases h2
  | _ => simp [plainA] at hp
theorem CSF.view {P : Program} {f : FuncId} {args args' : List AV} {σ : List Blk} {x : Value} (h : CSF P f args [] (.d (.v x))) (ha : ∀ j w vs, RelS w j σ → Rs w j args' vs → Rs w [] args vs) : CSF P f args' σ (.d (.v x)) := by
  refine ⟨h.1, fun j w vs hS hr => (h.2 [] w vs ⟨rfl, by simp, by simp, by simp⟩ (ha j w vs hS hr)).mono fun e w' => ?_⟩
  rintro ⟨v, r, σ', j', X, he, h1, h2, h3, h4, h5, rfl, rfl, rfl⟩
  obtain rfl : j' = [] := List.length_eq_zero_iff.1 h1.len
  have hev : Ev j w j w' := ⟨h3.size, fun b hb _ => h3.keep b hb (by simp), fun _ _ h => h, h3.shp, h3.frz, h3.os, h3.tape, h3.output, h3.lps⟩
  refine ⟨v, _, σ, j, [], he, ⟨hS.len, fun b cb hb => Nat.lt_of_lt_of_le (hS.lt b cb hb) h3.size, hS.inj, fun b y hy => ?_⟩, R_v h2 ▸ .d (.v _), hev, Nat.le_refl _, .refl _ _, rfl, rfl, rfl⟩
  obtain ⟨o, ho, hB⟩ := hS.blk b y hy
  exact ⟨o, ho, hB.mono hev hS.lt (.refl _ _) fun cb hcb => h3.keep cb (hS.lt b cb (by rw [ho, hcb])) (by simp)⟩
theorem view_ms {w : World} {j : Js} {σ : List Blk} (hS : RelS w j σ) {b sz n : Nat} {row : Nat → List D} (hb : σ[b]? = some (.arr sz n row)) {v : Value} (h : R w j (.ms b sz 0 n) v) : R w [] (.d (.sl none sz n row)) v := by
  have hf := h.frzT hS hb
  have : R w (j.set b none) (.d (.sl none sz n row)) v := by simpa [frzT, AV.avoids, frzA] using hf
  exact this.plain rfl
theorem CSF.view1 {P : Program} {f : FuncId} {y : AV} {σ : List Blk} {x : Value} {b sz n : Nat} {row : Nat → List D} (h : CSF P f [.d (.sl none sz n row), y] [] (.d (.v x))) (hy : plainA y = true) (hb : σ[b]? = some (.arr sz n row)) : CSF P f [.ms b sz 0 n, y] σ (.d (.v x)) :=
  h.view fun j w vs hS hr => ⟨hr.1, fun k hk => by
    have := hr.2 k (by simpa using hk)
    rcases k with _ | _ | k
    · exact view_ms hS hb (by simpa using this)
    · exact R.plain (by simpa using this) hy
    · have : k + 1 + 1 < 2 := hk; omega⟩
theorem CSF.view2 {P : Program} {f : FuncId} {σ : List Blk} {x : Value} {b b' sz n n' : Nat} {row row' : Nat → List D} (h : CSF P f [.d (.sl none sz n row), .d (.sl none sz n' row')] [] (.d (.v x))) (hb : σ[b]? = some (.arr sz n row)) (hb' : σ[b']? = some (.arr sz n' row')) : CSF P f [.ms b sz 0 n, .ms b' sz 0 n'] σ (.d (.v x)) :=
  h.view fun j w vs hS hr => ⟨hr.1, fun k hk => by
    have := hr.2 k (by simpa using hk)
    rcases k with _ | _ | k
    · exact view_ms hS hb (by simpa using this)
    · exact view_ms hS hb' (by simpa using this)
    · have : k + 1 + 1 < 2 := hk; omega⟩
theorem CSm.act {P : Program} {f : FuncId} {args : List AV} {s : St} {dst : Option Tmp} {K : St → Prop} (h : CSk P f args s dst K) : CSm P true f args s dst K := .inr ⟨.undef, fun _ => h, fun h => by cases h⟩
end Go.Abs

/-! Ct -/
namespace Go.Proofs.YtldnolgijfkfpaaGreatDoor
open Go.Abs
set_option linter.unusedVariables false
set_option linter.unusedSimpArgs false
set_option maxRecDepth 100000
set_option maxHeartbeats 1000000
theorem memI_nth {L : List Int} {v : Int} : memI L.length (nth L) v = decide (v ∈ L) := by
  rw [Bool.eq_iff_iff, memI_iff, decide_eq_true_eq, List.mem_iff_getElem]
  constructor
  · rintro ⟨i, h1, h2⟩; exact ⟨i, h1, by rw [← h2, nth_eq h1]⟩
  · rintro ⟨i, h1, h2⟩; exact ⟨i, h1, by rw [nth_eq h1]; exact h2⟩
def pkI (L : List Nat) (j : Nat) : List Int := (L.take j).map fun n : Nat => (n : Int)
theorem pkI_len {L : List Nat} {j : Nat} (h : j ≤ L.length) : (pkI L j).length = j := by simp [pkI]; omega
theorem pkI_cat {L : List Nat} {j : Nat} (h : j < L.length) {q : Nat} (hq : q < j + 1) : catRows j (fun q => encI (nth (pkI L j) q)) (rowsOf 1 [I ((L[j] : Nat) : Int)]) q = encI (nth (pkI L (j + 1)) q) := by
  unfold catRows pkI
  split
  · rename_i h1
    show encI (nth ((L.take j).map fun n : Nat => (n : Int)) q) = encI (nth ((L.take (j + 1)).map fun n : Nat => (n : Int)) q)
    rw [nth_map _ (by simp; omega), nth_map _ (by simp; omega), nth_eq (show q < (L.take j).length by simp; omega), nth_eq (show q < (L.take (j + 1)).length by simp; omega)]
    simp
  · rw [show q = j by omega, nth_map _ (by simp; omega), nth_eq (show j < (L.take (j + 1)).length by simp; omega)]
    simp [rowsOf, encI]
def bkS (ID rd m : Nat) : ByteArray := if m = 0 then ⟨#[]⟩ else keyS ID rd m
theorem bkS_pos {ID rd m : Nat} (h : m ≠ 0) : bkS ID rd m = keyS ID rd m := if_neg h
theorem bkS_zero (ID rd : Nat) : bkS ID rd 0 = ⟨#[]⟩ := rfl
theorem ref44_draw_cs (σ : List Blk) (x : Bat) (rd : Int) (hx : Rng x) (ha : ascB x.u x.nu = true) (h0 : 0 ≤ rd) (h1 : rd ≤ 1024) (hσ : σ[0]? = some (.tab 0 powV)) : CSF Tryz.prog 45 [.agg (x.enc.map .d), .d (I rd)] σ (.d (SL none 1 encI (drawL x rd).length (nth (drawL x rd)))) := by
  have hdp := draw_pick hx ha rd
  obtain ⟨ID, hID⟩ : ∃ ID : Nat, x.ID = ID := ⟨x.ID.toNat, by have := hx.id1; omega⟩
  obtain ⟨r, rfl⟩ : ∃ r : Nat, rd = r := ⟨rd.toNat, by omega⟩
  obtain ⟨k, hk⟩ : ∃ k : Nat, x.Sample = k := ⟨x.Sample.toNat, by have := hx.s1; omega⟩
  have g1 := hx.id1
  have g2 := hx.id2
  have g3 := hx.n1
  have g4 := hx.n2
  have g5 := hx.s1
  have g6 := hx.s2
  obtain ⟨L, hLd⟩ : ∃ L, L = ordL ID r (lst x.nu (unN x)) := ⟨_, rfl⟩
  have hO : OrdL ID r (lst x.nu (unN x)) L := by rw [hLd]; exact ordL_spec _ _ _
  rw [hID, hk, Int.toNat_natCast, Int.toNat_natCast, Int.toNat_natCast, ← hLd] at hdp
  replace hdp : pickL (fun i => decide (x.u i ∈ pkI L k)) x.u x.nu = drawL x r := hdp
  have hLn : L.length = x.nu := by rw [hO.1.length_eq, lst_length]
  have hkL : k ≤ L.length := by omega
  have hu1 : ∀ i, i < x.nu → 1 ≤ unN x i := fun i hi => by have := hx.u1 i hi; unfold unN; omega
  have hu2 : ∀ i, i < x.nu → unN x i ≤ 1073741824 := fun i hi => by have := hx.u1 i hi; unfold unN; omega
  have hu3 : ∀ i, i < x.nu → x.u i = ((unN x i : Nat) : Int) := fun i hi => by have := hx.u1 i hi; unfold unN; omega
  have hu4 : ∀ i j, i < j → j < x.nu → unN x i < unN x j := fun i j h1 h2 => by
    have := ascB_lt ha h1 h2; have := hu3 i (by omega); have := hu3 j h2; omega
  have hnd := nodup_units hx ha
  have s1 := itoS_size (n := ID) (by omega)
  have s2 := itoS_size (n := r) (by omega)
  refine CSF.of_body T.en45 Tryz.func45 rfl (by simp [Tryz.ntmps45]) (by simp [go_sem]) fun hwf => ?_
  refine awp_reg_seq fun K hK => ?_
  simp [go_sem, Tryz.ntmps45, hID, hk, ByteArray.size_append, sp_size]
  repeat refine ⟨by omega, ?_⟩
  refine hK _ ?_; clear hK K
  refine awp_reg_seq fun K hK => ?_
  simp [go_sem, hID, hk, ByteArray.size_append, sp_size]
  try simp (disch := omega) only [wrapI]
  repeat refine ⟨by omega, ?_⟩
  refine CSk.mk (itoa_cs _ ID (by omega) (loc_app hσ)) ?_
  simp [go_sem, hID, hk, ByteArray.size_append, sp_size]
  try simp (disch := omega) only [wrapI]
  repeat refine ⟨by omega, ?_⟩
  refine CSk.mk (itoa_cs _ r (by omega) (loc_app hσ)) ?_
  simp [go_sem, hID, hk, ByteArray.size_append, sp_size]
  try simp (disch := omega) only [wrapI]
  repeat refine ⟨by omega, ?_⟩
  refine hK _ ?_; clear hK K
  refine awp_reg_seq fun K hK => ?_
  simp [go_sem, hID, hk, ByteArray.size_append, sp_size]
  repeat refine ⟨by omega, ?_⟩
  refine hK _ ?_; clear hK K
  refine awp_seq ?_
  refine awp_block ?_
  refine awp_thawT 6 1 (fun q => encI (nth (pkI L 0) q)) (by simp [go_sem]) (by simp [go_sem]; rfl) ?_
  refine awp_forget [2, 5, 6] (by simp [go_sem, restr]; rfl) ?_
  refine awp_mv [σ.length + 1, σ.length + 2] (by simp) ?_
  refine awp_loopU (α := Nat × (Nat → List D)) (fun z => [(6, .ms (σ.length + 1) 1 0 z.1)]) (fun z => σ ++ [.var (x.enc.map .d), .arr 1 z.1 z.2]) (fun z => z.1 ≤ k ∧ ∀ q, q < z.1 → z.2 q = encI (nth (pkI L z.1) q)) (fun z => k - z.1) (0, fun q => encI (nth (pkI L 0) q)) (by simp [go_sem, hID, hk, ByteArray.size_append, sp_size]) (by simp [go_sem, hID, hk]) (⟨Nat.zero_le _, fun q hq => rfl⟩) ?_
  rintro ⟨j, row⟩ ⟨hj, hrow⟩
  replace hj : j ≤ k := hj; refine awp_rows (σ.length + 1) (fun q => encI (nth (pkI L j) q)) (by simp [go_sem]; first | exact ⟨rfl, rfl, rfl⟩ | exact ⟨rfl, rfl⟩ | rfl) hrow (by simp [go_sem]; rfl) ?_
  refine awp_seq ?_
  refine awp_reg_seq fun K hK => ?_
  simp [go_sem, hID, hk, ByteArray.size_append, sp_size]
  repeat refine ⟨by omega, ?_⟩
  refine hK _ ?_; clear hK K
  refine awp_forget [2, 5, 6, 27] (by simp only [restr, List.contains_cons, List.contains_nil, Nat.reduceBEq, Bool.or_false, Bool.or_true, Bool.true_or, Bool.false_or, if_true, if_false, Bool.false_eq_true]; rfl) ?_
  refine awp_cond rfl (fun c0 => ?_) (fun c0 => ?_)
  · have d0 := c0; try simp at d0
    have hj5 : j < k := by omega
    have hpl := pkI_len (L := L) (j := j) (by omega)
    refine awp_skip ?_
    refine awp_block ?_
    refine awp_reg_seq fun K hK => ?_
    simp [go_sem, hID, hk, ByteArray.size_append, sp_size, c0, d0]
    repeat refine ⟨by omega, ?_⟩
    refine hK _ ?_; clear hK K
    refine awp_seq ?_
    refine awp_reg_seq fun K hK => ?_
    simp [go_sem, hID, hk, ByteArray.size_append, sp_size, c0, d0]
    repeat refine ⟨by omega, ?_⟩
    refine hK _ ?_; clear hK K
    refine awp_block ?_
    refine awp_forget [2, 5, 6, 7, 8, 29, 30, 31] (by simp [go_sem, restr]; rfl) ?_
    refine awp_loopU (α := Nat) (fun i => [(31, .d (I i)), (7, .d (I ((bestU ID r (pkI L j) (unN x) i : Nat) : Int))), (8, .d (Sb (bkS ID r (bestU ID r (pkI L j) (unN x) i))))]) (fun i => σ ++ [.var (x.enc.map .d), .arr 1 j (fun q => encI (nth (pkI L j) q))]) (fun i => i ≤ x.nu) (fun i => x.nu - i) 0 (by simp [go_sem, hID, hk, ByteArray.size_append, sp_size, bestU, bkS_zero]) (by simp [go_sem, hID, hk]) (by simp) ?_
    rintro i hi
    refine awp_reg_seq fun K hK => ?_
    simp [go_sem, hID, hk, ByteArray.size_append, sp_size, c0, d0]
    repeat refine ⟨by omega, ?_⟩
    refine hK _ ?_; clear hK K
    refine awp_seq ?_
    refine awp_forget [2, 5, 6, 7, 8, 29, 30, 31, 32] (by simp only [restr, List.contains_cons, List.contains_nil, Nat.reduceBEq, Bool.or_false, Bool.or_true, Bool.true_or, Bool.false_or, if_true, if_false, Bool.false_eq_true]; rfl) ?_
    refine awp_cond rfl (fun c1 => ?_) (fun c1 => ?_)
    · have d1 := c1; try simp at d1
      have hi5 : i < x.nu := by omega
      have e3 := hu3 i hi5
      have hin : memI j (nth (pkI L j)) ((unN x i : Nat) : Int) = decide (((unN x i : Nat) : Int) ∈ pkI L j) := by
        have := memI_nth (L := pkI L j) (v := ((unN x i : Nat) : Int)); rwa [hpl] at this
      refine awp_skip ?_
      refine awp_seq ?_
      refine awp_block ?_
      refine awp_reg_seq fun K hK => ?_
      simp [go_sem, hID, hk, ByteArray.size_append, sp_size, c0, d0, c1, d1, hi5, e3, hin]
      repeat refine ⟨by omega, ?_⟩
      refine hK _ ?_; clear hK K
      refine awp_seq ?_
      refine awp_reg_seq fun K hK => ?_
      simp [go_sem, hID, hk, ByteArray.size_append, sp_size, c0, d0, c1, d1, hi5, e3, hin]
      repeat refine ⟨by omega, ?_⟩
      refine CSk.mk ((inOf_cs [] none j (nth (pkI L j)) ((unN x i : Nat) : Int) (by omega)).view1 rfl (by simp [go_sem])) ?_
      simp [go_sem, hID, hk, ByteArray.size_append, sp_size, c0, d0, c1, d1, hi5, e3, hin]
      repeat refine ⟨by omega, ?_⟩
      refine hK _ ?_; clear hK K
      refine awp_forget [2, 5, 6, 7, 8, 10, 29, 30, 31, 37] (by simp only [restr, List.contains_cons, List.contains_nil, Nat.reduceBEq, Bool.or_false, Bool.or_true, Bool.true_or, Bool.false_or, if_true, if_false, Bool.false_eq_true]; rfl) ?_
      refine awp_cond rfl (fun c2 => ?_) (fun c2 => ?_)
      · have d2 := c2; try simp at d2
        have hb := bestU_in (ID := ID) (rd := r) (P := pkI L j) (u := unN x) (i := i) (by simpa using d2)
        refine awp_exit ?_
        refine awp_reg_end fun K hK => ?_
        simp [go_sem, hID, hk, ByteArray.size_append, sp_size, c0, d0, c1, d1, hi5, e3, hin, c2, d2, hb]
        try simp (disch := omega) only [wrapI]
        repeat refine ⟨by omega, ?_⟩
        refine hK _ ?_; clear hK K
        refine ⟨i + 1, back_of' (by simp [go_sem, wrap_succ (i := i) (by omega), hID, hk, ByteArray.size_append, sp_size, c0, d0, c1, d1, hi5, e3, hin, c2, d2, hb]) ((leaves_app (by simp [go_sem]))) (by (simp [go_sem, wrap_succ (i := i) (by omega), hID, hk, ByteArray.size_append, sp_size, c0, d0, c1, d1, hi5, e3, hin, c2, d2, hb] <;> omega)), by omega, by first | omega | (dsimp only; omega)⟩
      · have d2 := c2; try simp at d2
        have hnin : ¬ ((unN x i : Nat) : Int) ∈ pkI L j := by simpa using d2
        have s3 := itoS_size (n := unN x i) (hu2 i hi5)
        have ht : itoS ID ++ ⟨#[32]⟩ ++ itoS r ++ ⟨#[32]⟩ ++ itoS (unN x i) = textS ID r (unN x i) := rfl
        have hks : digS (textS ID r (unN x i)) = keyS ID r (unN x i) := rfl
        refine awp_skip ?_
        refine awp_reg_seq fun K hK => ?_
        simp [go_sem, hID, hk, ByteArray.size_append, sp_size, c0, d0, c1, d1, hi5, e3, hin, c2, d2, ht, hks]
        try simp (disch := omega) only [wrapI]
        repeat refine ⟨by omega, ?_⟩
        refine CSk.mk (itoa_cs _ (unN x i) (hu2 i hi5) (loc_app hσ)) ?_
        simp [go_sem, hID, hk, ByteArray.size_append, sp_size, c0, d0, c1, d1, hi5, e3, hin, c2, d2, ht, hks]
        try simp (disch := omega) only [wrapI]
        repeat refine ⟨by omega, ?_⟩
        refine CSk.mk (ref01_Sum_cs _ (textS ID r (unN x i)) (textS_size (by omega) (by omega) (hu2 i hi5))) ?_
        simp [go_sem, hID, hk, ByteArray.size_append, sp_size, c0, d0, c1, d1, hi5, e3, hin, c2, d2, ht, hks]
        try simp (disch := omega) only [wrapI]
        repeat refine ⟨by omega, ?_⟩
        refine hK _ ?_; clear hK K
        refine awp_reg_seq fun K hK => ?_
        simp [go_sem, hID, hk, ByteArray.size_append, sp_size, c0, d0, c1, d1, hi5, e3, hin, c2, d2, ht, hks]
        repeat refine ⟨by omega, ?_⟩
        refine hK _ ?_; clear hK K
        refine awp_forget [2, 5, 6, 7, 8, 10, 11, 29, 30, 31, 49] (by simp only [restr, List.contains_cons, List.contains_nil, Nat.reduceBEq, Bool.or_false, Bool.or_true, Bool.true_or, Bool.false_or, if_true, if_false, Bool.false_eq_true]; rfl) ?_
        refine awp_cond rfl (fun c3 => ?_) (fun c3 => ?_)
        · have d3 := c3; try simp at d3
          have hb := bestU_new (ID := ID) (rd := r) (P := pkI L j) (u := unN x) (i := i) hnin (by
            by_cases hz : bestU ID r (pkI L j) (unN x) i = 0
            · exact .inl hz
            · right; rw [← bkS_pos hz]; unfold ltS; simpa [hz] using d3)
          have hp := hu1 i hi5
          have hkp := bkS_pos (ID := ID) (rd := r) (m := unN x i) (by omega)
          refine awp_reg_end fun K hK => ?_
          simp [go_sem, hID, hk, ByteArray.size_append, sp_size, c0, d0, c1, d1, hi5, e3, hin, c2, d2, ht, hks, c3, d3, hb, hkp]
          repeat refine ⟨by omega, ?_⟩
          refine hK _ ?_; clear hK K
          refine awp_reg_end fun K hK => ?_
          simp [go_sem, hID, hk, ByteArray.size_append, sp_size, c0, d0, c1, d1, hi5, e3, hin, c2, d2, ht, hks, c3, d3, hb, hkp]
          try simp (disch := omega) only [wrapI]
          repeat refine ⟨by omega, ?_⟩
          refine hK _ ?_; clear hK K
          refine ⟨i + 1, back_of' (by simp [go_sem, wrap_succ (i := i) (by omega), hID, hk, ByteArray.size_append, sp_size, c0, d0, c1, d1, hi5, e3, hin, c2, d2, ht, hks, c3, d3, hb, hkp]) ((leaves_app (by simp [go_sem]))) (by (simp [go_sem, wrap_succ (i := i) (by omega), hID, hk, ByteArray.size_append, sp_size, c0, d0, c1, d1, hi5, e3, hin, c2, d2, ht, hks, c3, d3, hb, hkp] <;> omega)), by omega, by first | omega | (dsimp only; omega)⟩
        · have d3 := c3; try simp at d3
          have hb := bestU_old (ID := ID) (rd := r) (P := pkI L j) (u := unN x) (i := i) hnin (by
            intro hz
            rcases hz with hz | hz
            · simp [hz] at d3
            · by_cases hz0 : bestU ID r (pkI L j) (unN x) i = 0
              · simp [hz0] at d3
              · rw [← bkS_pos hz0] at hz; unfold ltS at hz; simp [hz] at d3)
          refine awp_skip ?_
          refine awp_reg_end fun K hK => ?_
          simp [go_sem, hID, hk, ByteArray.size_append, sp_size, c0, d0, c1, d1, hi5, e3, hin, c2, d2, ht, hks, c3, d3, hb]
          try simp (disch := omega) only [wrapI]
          repeat refine ⟨by omega, ?_⟩
          refine hK _ ?_; clear hK K
          refine ⟨i + 1, back_of' (by simp [go_sem, wrap_succ (i := i) (by omega), hID, hk, ByteArray.size_append, sp_size, c0, d0, c1, d1, hi5, e3, hin, c2, d2, ht, hks, c3, d3, hb]) ((leaves_app (by simp [go_sem]))) (by (simp [go_sem, wrap_succ (i := i) (by omega), hID, hk, ByteArray.size_append, sp_size, c0, d0, c1, d1, hi5, e3, hin, c2, d2, ht, hks, c3, d3, hb] <;> omega)), by omega, by first | omega | (dsimp only; omega)⟩
    · have d1 := c1; try simp at d1
      obtain rfl : i = x.nu := by omega
      have hnx := bestU_next (ID := ID) (rd := r) (k := j) hu1 hu4 hnd hO (by omega)
      replace hnx : bestU ID r (pkI L j) (unN x) x.nu = L[j]'(by omega) := hnx
      refine awp_exit ?_
      refine awp_reg_end fun K hK => ?_
      simp [go_sem, hID, hk, ByteArray.size_append, sp_size, c0, d0, c1, d1, hnx, hwf.one, hwf.zero]
      repeat refine ⟨by omega, ?_⟩
      refine hK _ ?_; clear hK K
      refine ⟨(j + 1, catRows j (fun q => encI (nth (pkI L j) q)) (rowsOf 1 [I ((L[j]'(by omega) : Nat) : Int)])), back_of' (by simp [go_sem, hID, hk, ByteArray.size_append, sp_size, c0, d0, c1, d1, hnx]) ((leaves_app (by simp [go_sem]))) (by (simp [go_sem, hID, hk, ByteArray.size_append, sp_size, c0, d0, c1, d1, hnx] <;> omega)), ⟨by show j + 1 ≤ k; omega, fun q hq => pkI_cat (by omega) hq⟩, by first | omega | (dsimp only; omega)⟩
  · have d0 := c0; try simp at d0
    obtain rfl : j = k := by omega
    have hpl := pkI_len (L := L) (j := j) (by omega)
    refine awp_exit ?_
    refine awp_reg_seq fun K hK => ?_
    simp [go_sem, hID, hk, ByteArray.size_append, sp_size, c0, d0]
    repeat refine ⟨by omega, ?_⟩
    refine hK _ ?_; clear hK K
    refine awp_seq ?_
    refine awp_reg_seq fun K hK => ?_
    simp [go_sem, hID, hk, ByteArray.size_append, sp_size, c0, d0]
    repeat refine ⟨by omega, ?_⟩
    refine hK _ ?_; clear hK K
    refine awp_block ?_
    refine awp_thawT 12 1 (fun q => encI (nth ([] : List Int) q)) (by simp [go_sem]) (by simp [go_sem]; rfl) ?_
    refine awp_forget [6, 12, 58, 59, 60] (by simp [go_sem, restr]; rfl) ?_
    refine awp_loopU (α := Nat) (fun i => [(60, .d (I i)), (12, .ms (σ.length + 2) 1 0 (pickL (fun i => decide (x.u i ∈ pkI L j)) x.u i).length)]) (fun i => σ ++ [.var (x.enc.map .d), .arr 1 j (fun q => encI (nth (pkI L j) q)), .arr 1 (pickL (fun i => decide (x.u i ∈ pkI L j)) x.u i).length (fun q => encI (nth (pickL (fun i => decide (x.u i ∈ pkI L j)) x.u i) q))]) (fun i => i ≤ x.nu) (fun i => x.nu - i) 0 (by simp [go_sem, hID, hk, ByteArray.size_append, sp_size, pickL]) (by simp [go_sem, hID, hk, pickL]) (by simp) ?_
    rintro i hi
    refine awp_reg_seq fun K hK => ?_
    simp [go_sem, hID, hk, ByteArray.size_append, sp_size, c0, d0]
    repeat refine ⟨by omega, ?_⟩
    refine hK _ ?_; clear hK K
    refine awp_seq ?_
    refine awp_forget [6, 12, 58, 59, 60, 61] (by simp only [restr, List.contains_cons, List.contains_nil, Nat.reduceBEq, Bool.or_false, Bool.or_true, Bool.true_or, Bool.false_or, if_true, if_false, Bool.false_eq_true]; rfl) ?_
    refine awp_cond rfl (fun c4 => ?_) (fun c4 => ?_)
    · have d4 := c4; try simp at d4
      have hi5 : i < x.nu := by omega
      have hin : memI j (nth (pkI L j)) (x.u i) = decide (x.u i ∈ pkI L j) := by
        have := memI_nth (L := pkI L j) (v := x.u i); rwa [hpl] at this
      have hll := pickL_len (fun i => decide (x.u i ∈ pkI L j)) x.u i
      refine awp_skip ?_
      refine awp_seq ?_
      refine awp_block ?_
      refine awp_reg_seq fun K hK => ?_
      simp [go_sem, hID, hk, ByteArray.size_append, sp_size, c0, d0, c4, d4, hi5, hin]
      repeat refine ⟨by omega, ?_⟩
      refine hK _ ?_; clear hK K
      refine awp_reg_seq fun K hK => ?_
      simp [go_sem, hID, hk, ByteArray.size_append, sp_size, c0, d0, c4, d4, hi5, hin]
      repeat refine ⟨by omega, ?_⟩
      refine CSk.mk ((inOf_cs [] none j (nth (pkI L j)) (x.u i) (by omega)).view1 rfl (by simp [go_sem])) ?_
      simp [go_sem, hID, hk, ByteArray.size_append, sp_size, c0, d0, c4, d4, hi5, hin]
      repeat refine ⟨by omega, ?_⟩
      refine hK _ ?_; clear hK K
      refine awp_forget [6, 12, 14, 58, 59, 60, 66] (by simp only [restr, List.contains_cons, List.contains_nil, Nat.reduceBEq, Bool.or_false, Bool.or_true, Bool.true_or, Bool.false_or, if_true, if_false, Bool.false_eq_true]; rfl) ?_
      refine awp_cond rfl (fun c5 => ?_) (fun c5 => ?_)
      · have d5 := c5; try simp at d5
        have hp : pickL (fun i => decide (x.u i ∈ pkI L j)) x.u (i + 1) = pickL (fun i => decide (x.u i ∈ pkI L j)) x.u i ++ [x.u i] := by rw [pickL, if_pos (by simpa using d5)]
        refine awp_reg_end fun K hK => ?_
        simp [go_sem, hID, hk, ByteArray.size_append, sp_size, c0, d0, c4, d4, hi5, hin, c5, d5, hp, hwf.one, hwf.zero]
        repeat refine ⟨by omega, ?_⟩
        refine hK _ ?_; clear hK K
        refine awp_rows (σ.length + 2) (fun q => encI (nth (pickL (fun i => decide (x.u i ∈ pkI L j)) x.u i ++ [x.u i]) q)) (by simp [go_sem]; first | exact ⟨rfl, rfl, rfl⟩ | exact ⟨rfl, rfl⟩ | rfl) (by exact fun q hq => cat_nth (enc := encI) (x := x.u i) rfl hq) (by simp [go_sem]; rfl) ?_
        refine awp_reg_end fun K hK => ?_
        simp [go_sem, hID, hk, ByteArray.size_append, sp_size, c0, d0, c4, d4, hi5, hin, c5, d5, hp]
        try simp (disch := omega) only [wrapI]
        repeat refine ⟨by omega, ?_⟩
        refine hK _ ?_; clear hK K
        refine ⟨i + 1, back_of' (by simp [go_sem, wrap_succ (i := i) (by omega), hID, hk, ByteArray.size_append, sp_size, c0, d0, c4, d4, hi5, hin, c5, d5, hp]) ((leaves_app (by simp [go_sem]))) (by (simp [go_sem, wrap_succ (i := i) (by omega), hID, hk, ByteArray.size_append, sp_size, c0, d0, c4, d4, hi5, hin, c5, d5, hp] <;> omega)), by omega, by first | omega | (dsimp only; omega)⟩
      · have d5 := c5; try simp at d5
        have hp : pickL (fun i => decide (x.u i ∈ pkI L j)) x.u (i + 1) = pickL (fun i => decide (x.u i ∈ pkI L j)) x.u i := by rw [pickL, if_neg (by simpa using d5)]
        refine awp_skip ?_
        refine awp_reg_end fun K hK => ?_
        simp [go_sem, hID, hk, ByteArray.size_append, sp_size, c0, d0, c4, d4, hi5, hin, c5, d5, hp]
        try simp (disch := omega) only [wrapI]
        repeat refine ⟨by omega, ?_⟩
        refine hK _ ?_; clear hK K
        refine ⟨i + 1, back_of' (by simp [go_sem, wrap_succ (i := i) (by omega), hID, hk, ByteArray.size_append, sp_size, c0, d0, c4, d4, hi5, hin, c5, d5, hp]) ((leaves_app (by simp [go_sem]))) (by (simp [go_sem, wrap_succ (i := i) (by omega), hID, hk, ByteArray.size_append, sp_size, c0, d0, c4, d4, hi5, hin, c5, d5, hp] <;> omega)), by omega, by first | omega | (dsimp only; omega)⟩
    · have d4 := c4; try simp at d4
      obtain rfl : i = x.nu := by omega
      refine awp_exit ?_
      refine awp_reg_seq fun K hK => ?_
      simp [go_sem, hID, hk, ByteArray.size_append, sp_size, c0, d0, c4, d4, hdp]
      repeat refine ⟨by omega, ?_⟩
      refine hK _ ?_; clear hK K
      refine awp_freeze (σ.length + 2) (by simp [go_sem]; first | exact ⟨rfl, rfl, rfl⟩ | exact ⟨rfl, rfl⟩ | rfl) (by simp [go_sem]; rfl) (by simp [go_sem, hwf.frz, hwf.frz0]; rfl) ?_
      refine awp_ret ?_
      simp [go_sem, Tryz.results45, hID, hk, ByteArray.size_append, sp_size, c0, d0, c4, d4, hdp] <;> omega
end Go.Proofs.YtldnolgijfkfpaaGreatDoor

/-! Cu -/
namespace Go.Proofs.YtldnolgijfkfpaaGreatDoor
open Go.Abs
set_option linter.unusedVariables false
set_option linter.unusedSimpArgs false
set_option maxRecDepth 100000
set_option maxHeartbeats 1000000
theorem rng_not {x : Bat} (h : ¬ Rng x) : rngB x = false := by
  cases hr : rngB x with
  | false => rfl
  | true => exact absurd ((rngB_iff x).1 hr) h
theorem bad_no {x : Bat} (h : ∀ q, q < x.nb → memI (drawL x x.Round).length (nth (drawL x x.Round)) (x.b q) = true) : badB x = false := by
  unfold badB
  rw [(subB_iff _ _ _ _).2 h]; simp
theorem bad_yes {x : Bat} {q : Nat} (hq : q < x.nb) (h : memI (drawL x x.Round).length (nth (drawL x x.Round)) (x.b q) = false) : badB x = true := by
  unfold badB
  have : subB (drawL x x.Round).length (nth (drawL x x.Round)) x.nb x.b = false := by
    rw [← Bool.not_eq_true, subB_iff]
    intro hs; rw [hs q hq] at h; cases h
  rw [this]; simp; omega
theorem ref44_SameInts_cs (σ : List Blk) (c c' : Option Nat) (n m : Nat) (f g : Nat → Int) (hn : n < 1000000000) (hm : m < 1000000000) : CSF Tryz.prog 48 [.d (SL c 1 encI n f), .d (SL c' 1 encI m g)] σ (.d (B (eqL (lst n f) (lst m g)))) := by
  refine CSF.of_body T.en48 Tryz.func48 rfl (by simp [Tryz.ntmps48]) (by simp [go_sem]) fun hwf => ?_
  refine awp_reg_seq fun K hK => ?_
  simp [go_sem, Tryz.ntmps48]
  repeat refine ⟨by omega, ?_⟩
  refine hK _ ?_; clear hK K
  refine awp_seq ?_
  refine awp_reg_seq fun K hK => ?_
  simp [go_sem]
  repeat refine ⟨by omega, ?_⟩
  refine hK _ ?_; clear hK K
  refine awp_forget [0, 1, 10] (by simp only [restr, List.contains_cons, List.contains_nil, Nat.reduceBEq, Bool.or_false, Bool.or_true, Bool.true_or, Bool.false_or, if_true, if_false, Bool.false_eq_true]; rfl) ?_
  refine awp_cond rfl (fun c0 => ?_) (fun c0 => ?_)
  · have d0 := c0; try simp at d0
    have hz := eqL_len (f := f) (g := g) (show ¬ n = m by omega)
    refine awp_reg_seq fun K hK => ?_
    simp [go_sem, c0, d0]
    repeat refine ⟨by omega, ?_⟩
    refine hK _ ?_; clear hK K
    refine awp_ret ?_
    rw [hz]; simp [go_sem, Tryz.results48]
  · have d0 := c0; try simp at d0
    have hnm : n = m := by omega
    subst hnm
    refine awp_skip ?_
    refine awp_seq ?_
    refine awp_reg_seq fun K hK => ?_
    simp [go_sem, c0, d0]
    repeat refine ⟨by omega, ?_⟩
    refine hK _ ?_; clear hK K
    refine awp_block ?_
    refine awp_forget [0, 1, 12, 13] (by simp [go_sem, restr]; rfl) ?_
    refine awp_loopU (α := Nat) (fun i => [(13, .d (I i))]) (fun i => _) (fun i => i ≤ n ∧ ∀ q, q < i → f q = g q) (fun i => n - i) 0 (by simp [go_sem]) (rfl) (by simp) ?_
    rintro i ⟨hi, hx⟩
    refine awp_reg_seq fun K hK => ?_
    simp [go_sem, c0, d0]
    repeat refine ⟨by omega, ?_⟩
    refine hK _ ?_; clear hK K
    refine awp_seq ?_
    refine awp_forget [0, 1, 12, 13, 14] (by simp only [restr, List.contains_cons, List.contains_nil, Nat.reduceBEq, Bool.or_false, Bool.or_true, Bool.true_or, Bool.false_or, if_true, if_false, Bool.false_eq_true]; rfl) ?_
    refine awp_cond rfl (fun c1 => ?_) (fun c1 => ?_)
    · have d1 := c1; try simp at d1
      have hi5 : i < n := by omega
      refine awp_skip ?_
      refine awp_seq ?_
      refine awp_block ?_
      refine awp_reg_seq fun K hK => ?_
      simp [go_sem, c0, d0, c1, d1, hi5]
      repeat refine ⟨by omega, ?_⟩
      refine hK _ ?_; clear hK K
      refine awp_draw_seq 9 T.mixed (by kernel_rfl) fun K hK => ?_
      simp [go_sem, c0, d0, c1, d1, hi5]
      repeat refine ⟨by omega, ?_⟩
      refine hK _ ?_; clear hK K
      refine awp_forget [0, 1, 12, 13, 24] (by simp only [restr, List.contains_cons, List.contains_nil, Nat.reduceBEq, Bool.or_false, Bool.or_true, Bool.true_or, Bool.false_or, if_true, if_false, Bool.false_eq_true]; rfl) ?_
      refine awp_cond rfl (fun c2 => ?_) (fun c2 => ?_)
      · have d2 := c2; try simp at d2
        have hz := eqL_at (f := f) (g := g) hi5 hi5 d2
        refine awp_reg_seq fun K hK => ?_
        simp [go_sem, c0, d0, c1, d1, hi5, c2, d2]
        repeat refine ⟨by omega, ?_⟩
        refine hK _ ?_; clear hK K
        refine awp_ret ?_
        rw [hz]; simp [go_sem, Tryz.results48]
      · have d2 := c2; try simp at d2
        refine awp_skip ?_
        refine awp_reg_end fun K hK => ?_
        simp [go_sem, c0, d0, c1, d1, hi5, c2, d2]
        try simp (disch := omega) only [wrapI]
        repeat refine ⟨by omega, ?_⟩
        refine hK _ ?_; clear hK K
        refine ⟨i + 1, back_of' (by simp) (.refl _) (by (simp [go_sem, wrap_succ (i := i) (by omega), c0, d0, c1, d1, hi5, c2, d2] <;> omega)), ⟨by omega, fun q hq => by rcases Nat.lt_or_eq_of_le (Nat.le_of_lt_succ hq) with h | h; exact hx q h; rw [h]; exact d2⟩, by first | omega | (dsimp only; omega)⟩
    · have d1 := c1; try simp at d1
      obtain rfl : i = n := by omega
      have hz := eqL_yes (f := f) (g := g) rfl hx
      refine awp_exit ?_
      refine awp_reg_seq fun K hK => ?_
      simp [go_sem, c0, d0, c1, d1]
      repeat refine ⟨by omega, ?_⟩
      refine hK _ ?_; clear hK K
      refine awp_ret ?_
      rw [hz]; simp [go_sem, Tryz.results48]
theorem ref44_Same_cs (σ : List Blk) (x : Bat) (hn : x.nu < 1000000000) (hm : x.nb < 1000000000) : CSF Tryz.prog 19 [.agg (x.enc.map .d), .agg (x.enc.map .d)] σ (.d (B true)) := by
  refine CSF.of_body T.en19 Tryz.func19 rfl (by simp [Tryz.ntmps19]) (by simp [go_sem]) fun hwf => ?_
  refine awp_reg_seq fun K hK => ?_
  simp [go_sem, Tryz.ntmps19, eqL_self]
  repeat refine ⟨by omega, ?_⟩
  refine hK _ ?_; clear hK K
  refine awp_reg_seq fun K hK => ?_
  simp [go_sem, eqL_self]
  repeat refine ⟨by omega, ?_⟩
  refine CSm.mk (ref44_SameInts_cs _ none none x.nu x.nu x.u x.u hn hn) ?_
  simp [go_sem, eqL_self]
  repeat refine ⟨by omega, ?_⟩
  refine CSm.mk (ref44_SameInts_cs _ none none x.nb x.nb x.b x.b hm hm) ?_
  simp [go_sem, eqL_self]
  repeat refine ⟨by omega, ?_⟩
  refine hK _ ?_; clear hK K
  refine awp_ret ?_
  simp [go_sem, Tryz.results19, eqL_self] <;> omega
theorem ref44_Check_cs (σ : List Blk) (x : Bat) (hn : x.nu < 1000000000) (hm : x.nb < 1000000000) (hσ : σ[0]? = some (.tab 0 powV)) : CSF Tryz.prog 18 [.agg (x.enc.map .d)] σ (.d (I (chkB x))) := by
  refine CSF.of_body T.en18 Tryz.func18 rfl (by simp [Tryz.ntmps18]) (by simp [go_sem]) fun hwf => ?_
  refine awp_reg_seq fun K hK => ?_
  simp [go_sem, Tryz.ntmps18]
  repeat refine ⟨by omega, ?_⟩
  refine hK _ ?_; clear hK K
  refine awp_seq ?_
  refine awp_reg_seq fun K hK => ?_
  simp [go_sem]
  repeat refine ⟨by omega, ?_⟩
  refine hK _ ?_; clear hK K
  refine awp_forget [1, 47] (by simp only [restr, List.contains_cons, List.contains_nil, Nat.reduceBEq, Bool.or_false, Bool.or_true, Bool.true_or, Bool.false_or, if_true, if_false, Bool.false_eq_true]; rfl) ?_
  refine awp_cond rfl (fun c0 => ?_) (fun c0 => ?_)
  · have d0 := c0; try simp at d0
    have hz : rngB x = false := rng_not fun h => by have := h.id1; have := h.id2; have := h.d1; have := h.d2; have := h.r1; have := h.r2; have := h.n1; have := h.n2; omega
    refine awp_reg_seq fun K hK => ?_
    simp [go_sem, c0, d0]
    repeat refine ⟨by omega, ?_⟩
    refine hK _ ?_; clear hK K
    refine awp_ret ?_
    rw [chk_2 hz]; simp [go_sem, Tryz.results18]
  · have d0 := c0; try simp at d0
    refine awp_skip ?_
    refine awp_seq ?_
    refine awp_reg_seq fun K hK => ?_
    simp [go_sem, c0, d0]
    repeat refine ⟨by omega, ?_⟩
    refine hK _ ?_; clear hK K
    refine awp_block ?_
    refine awp_forget [1, 49, 50, 51] (by simp [go_sem, restr]; rfl) ?_
    refine awp_loopU (α := Nat) (fun i => [(51, .d (I i))]) (fun i => σ ++ [.var (x.enc.map .d)]) (fun i => i ≤ x.nu ∧ ∀ q, q < i → 1 ≤ x.u q ∧ x.u q ≤ 1073741824) (fun i => x.nu - i) 0 (by simp [go_sem]) (rfl) (by simp) ?_
    rintro i ⟨hi, hx⟩
    refine awp_reg_seq fun K hK => ?_
    simp [go_sem, c0, d0]
    repeat refine ⟨by omega, ?_⟩
    refine hK _ ?_; clear hK K
    refine awp_seq ?_
    refine awp_forget [1, 49, 50, 51, 52] (by simp only [restr, List.contains_cons, List.contains_nil, Nat.reduceBEq, Bool.or_false, Bool.or_true, Bool.true_or, Bool.false_or, if_true, if_false, Bool.false_eq_true]; rfl) ?_
    refine awp_cond rfl (fun c1 => ?_) (fun c1 => ?_)
    · have d1 := c1; try simp at d1
      have hi5 : i < x.nu := by omega
      refine awp_skip ?_
      refine awp_seq ?_
      refine awp_block ?_
      refine awp_reg_seq fun K hK => ?_
      simp [go_sem, c0, d0, c1, d1, hi5]
      repeat refine ⟨by omega, ?_⟩
      refine hK _ ?_; clear hK K
      refine awp_reg_seq fun K hK => ?_
      simp [go_sem, c0, d0, c1, d1, hi5]
      repeat refine ⟨by omega, ?_⟩
      refine hK _ ?_; clear hK K
      refine awp_forget [1, 49, 50, 51, 60] (by simp only [restr, List.contains_cons, List.contains_nil, Nat.reduceBEq, Bool.or_false, Bool.or_true, Bool.true_or, Bool.false_or, if_true, if_false, Bool.false_eq_true]; rfl) ?_
      refine awp_cond rfl (fun c2 => ?_) (fun c2 => ?_)
      · have d2 := c2; try simp at d2
        have hz : rngB x = false := rng_not fun h => by have := h.u1 i hi5; omega
        refine awp_reg_seq fun K hK => ?_
        simp [go_sem, c0, d0, c1, d1, hi5, c2, d2]
        repeat refine ⟨by omega, ?_⟩
        refine hK _ ?_; clear hK K
        refine awp_ret ?_
        rw [chk_2 hz]; simp [go_sem, Tryz.results18]
      · have d2 := c2; try simp at d2
        refine awp_skip ?_
        refine awp_reg_end fun K hK => ?_
        simp [go_sem, c0, d0, c1, d1, hi5, c2, d2]
        try simp (disch := omega) only [wrapI]
        repeat refine ⟨by omega, ?_⟩
        refine hK _ ?_; clear hK K
        refine ⟨i + 1, back_of' (by simp [go_sem, wrap_succ (i := i) (by omega), c0, d0, c1, d1, hi5, c2, d2]) ((leaves_app (by simp [go_sem]))) (by (simp [go_sem, wrap_succ (i := i) (by omega), c0, d0, c1, d1, hi5, c2, d2] <;> omega)), ⟨by omega, fun q hq => by rcases Nat.lt_or_eq_of_le (Nat.le_of_lt_succ hq) with h | h; exact hx q h; rw [h]; omega⟩, by first | omega | (dsimp only; omega)⟩
    · have d1 := c1; try simp at d1
      obtain rfl : i = x.nu := by omega
      refine awp_exit ?_
      refine awp_seq ?_
      refine awp_reg_seq fun K hK => ?_
      simp [go_sem, c0, d0, c1, d1]
      repeat refine ⟨by omega, ?_⟩
      refine hK _ ?_; clear hK K
      refine awp_forget [1, 84] (by simp only [restr, List.contains_cons, List.contains_nil, Nat.reduceBEq, Bool.or_false, Bool.or_true, Bool.true_or, Bool.false_or, if_true, if_false, Bool.false_eq_true]; rfl) ?_
      refine awp_cond rfl (fun c3 => ?_) (fun c3 => ?_)
      · have d3 := c3; try simp at d3
        have hz : rngB x = false := rng_not fun h => by have := h.s1; have := h.s2; have := h.a1; have := h.a2; omega
        refine awp_reg_seq fun K hK => ?_
        simp [go_sem, c0, d0, c1, d1, c3, d3]
        repeat refine ⟨by omega, ?_⟩
        refine hK _ ?_; clear hK K
        refine awp_ret ?_
        rw [chk_2 hz]; simp [go_sem, Tryz.results18]
      · have d3 := c3; try simp at d3
        have hx : Rng x := ⟨by omega, by omega, by omega, by omega, by omega, by omega, by omega, by omega, hx, by omega, by omega, by omega, by omega⟩
        have hz : rngB x = true := (rngB_iff x).2 hx
        refine awp_skip ?_
        refine awp_seq ?_
        refine awp_reg_seq fun K hK => ?_
        simp [go_sem, c0, d0, c1, d1, c3, d3]
        repeat refine ⟨by omega, ?_⟩
        refine CSk.mk (ref44_rising_cs _ none x.nu x.u hn) ?_
        simp [go_sem, c0, d0, c1, d1, c3, d3]
        repeat refine ⟨by omega, ?_⟩
        refine CSm.mk (ref44_rising_cs _ none x.nb x.b hm) ?_
        simp [go_sem, c0, d0, c1, d1, c3, d3]
        repeat refine ⟨by omega, ?_⟩
        refine hK _ ?_; clear hK K
        refine awp_forget [1, 94] (by simp only [restr, List.contains_cons, List.contains_nil, Nat.reduceBEq, Bool.or_false, Bool.or_true, Bool.true_or, Bool.false_or, if_true, if_false, Bool.false_eq_true]; rfl) ?_
        refine awp_cond rfl (fun c4 => ?_) (fun c4 => ?_)
        · have d4 := c4; try simp at d4
          refine awp_reg_seq fun K hK => ?_
          simp [go_sem, c0, d0, c1, d1, c3, d3, c4, d4]
          repeat refine ⟨by omega, ?_⟩
          refine hK _ ?_; clear hK K
          refine awp_ret ?_
          rw [chk_5 hz c4]; simp [go_sem, Tryz.results18]
        · have d4 := c4; try simp at d4
          have hasc : ascB x.u x.nu = true := by cases h : ascB x.u x.nu with | true => rfl | false => rw [h] at c4; cases c4
          have hr1 := hx.r1
          have hr2 := hx.r2
          have hdl := drawL_le x x.Round
          refine awp_skip ?_
          refine awp_seq ?_
          refine awp_reg_seq fun K hK => ?_
          simp [go_sem, c0, d0, c1, d1, c3, d3, c4, d4]
          repeat refine ⟨by omega, ?_⟩
          refine hK _ ?_; clear hK K
          refine awp_forget [1, 98] (by simp only [restr, List.contains_cons, List.contains_nil, Nat.reduceBEq, Bool.or_false, Bool.or_true, Bool.true_or, Bool.false_or, if_true, if_false, Bool.false_eq_true]; rfl) ?_
          refine awp_cond rfl (fun c5 => ?_) (fun c5 => ?_)
          · have d5 := c5; try simp at d5
            refine awp_reg_seq fun K hK => ?_
            simp [go_sem, c0, d0, c1, d1, c3, d3, c4, d4, c5, d5]
            repeat refine ⟨by omega, ?_⟩
            refine CSk.mk (ref44_draw_cs _ x x.Round hx hasc hr1 hr2 (loc_app hσ)) ?_
            simp [go_sem, c0, d0, c1, d1, c3, d3, c4, d4, c5, d5]
            repeat refine ⟨by omega, ?_⟩
            refine hK _ ?_; clear hK K
            refine awp_reg_seq fun K hK => ?_
            simp [go_sem, c0, d0, c1, d1, c3, d3, c4, d4, c5, d5]
            repeat refine ⟨by omega, ?_⟩
            refine hK _ ?_; clear hK K
            refine awp_block ?_
            refine awp_forget [1, 5, 104, 105, 106] (by simp [go_sem, restr]; rfl) ?_
            refine awp_loopU (α := Nat) (fun i => [(106, .d (I i))]) (fun i => σ ++ [.var (x.enc.map .d)]) (fun i => i ≤ x.nb ∧ ∀ q, q < i → memI (drawL x x.Round).length (nth (drawL x x.Round)) (x.b q) = true) (fun i => x.nb - i) 0 (by simp [go_sem]) (rfl) (by simp) ?_
            rintro i ⟨hi, hy⟩
            refine awp_reg_seq fun K hK => ?_
            simp [go_sem, c0, d0, c1, d1, c3, d3, c4, d4, c5, d5]
            repeat refine ⟨by omega, ?_⟩
            refine hK _ ?_; clear hK K
            refine awp_seq ?_
            refine awp_forget [1, 5, 104, 105, 106, 107] (by simp only [restr, List.contains_cons, List.contains_nil, Nat.reduceBEq, Bool.or_false, Bool.or_true, Bool.true_or, Bool.false_or, if_true, if_false, Bool.false_eq_true]; rfl) ?_
            refine awp_cond rfl (fun c6 => ?_) (fun c6 => ?_)
            · have d6 := c6; try simp at d6
              have hi5 : i < x.nb := by omega
              refine awp_skip ?_
              refine awp_seq ?_
              refine awp_block ?_
              refine awp_reg_seq fun K hK => ?_
              simp [go_sem, c0, d0, c1, d1, c3, d3, c4, d4, c5, d5, c6, d6, hi5]
              repeat refine ⟨by omega, ?_⟩
              refine hK _ ?_; clear hK K
              refine awp_reg_seq fun K hK => ?_
              simp [go_sem, c0, d0, c1, d1, c3, d3, c4, d4, c5, d5, c6, d6, hi5]
              repeat refine ⟨by omega, ?_⟩
              refine CSk.mk (inOf_cs _ none (drawL x x.Round).length (nth (drawL x x.Round)) (x.b i) (by omega)) ?_
              simp [go_sem, c0, d0, c1, d1, c3, d3, c4, d4, c5, d5, c6, d6, hi5]
              repeat refine ⟨by omega, ?_⟩
              refine hK _ ?_; clear hK K
              refine awp_forget [1, 5, 104, 105, 106, 113] (by simp only [restr, List.contains_cons, List.contains_nil, Nat.reduceBEq, Bool.or_false, Bool.or_true, Bool.true_or, Bool.false_or, if_true, if_false, Bool.false_eq_true]; rfl) ?_
              refine awp_cond rfl (fun c7 => ?_) (fun c7 => ?_)
              · have d7 := c7; try simp at d7
                have hb := bad_yes hi5 (by simpa using d7)
                refine awp_reg_seq fun K hK => ?_
                simp [go_sem, c0, d0, c1, d1, c3, d3, c4, d4, c5, d5, c6, d6, hi5, c7, d7]
                repeat refine ⟨by omega, ?_⟩
                refine hK _ ?_; clear hK K
                refine awp_ret ?_
                rw [chk_7 hz c4 hb]; simp [go_sem, Tryz.results18]
              · have d7 := c7; try simp at d7
                refine awp_skip ?_
                refine awp_reg_end fun K hK => ?_
                simp [go_sem, c0, d0, c1, d1, c3, d3, c4, d4, c5, d5, c6, d6, hi5, c7, d7]
                try simp (disch := omega) only [wrapI]
                repeat refine ⟨by omega, ?_⟩
                refine hK _ ?_; clear hK K
                refine ⟨i + 1, back_of' (by simp [go_sem, wrap_succ (i := i) (by omega), c0, d0, c1, d1, c3, d3, c4, d4, c5, d5, c6, d6, hi5, c7, d7]) ((leaves_app (by simp [go_sem]))) (by (simp [go_sem, wrap_succ (i := i) (by omega), c0, d0, c1, d1, c3, d3, c4, d4, c5, d5, c6, d6, hi5, c7, d7] <;> omega)), ⟨by omega, fun q hq => by rcases Nat.lt_or_eq_of_le (Nat.le_of_lt_succ hq) with h | h; exact hy q h; rw [h]; simpa using d7⟩, by first | omega | (dsimp only; omega)⟩
            · have d6 := c6; try simp at d6
              obtain rfl : i = x.nb := by omega
              have hb := bad_no hy
              refine awp_exit ?_
              refine awp_seq ?_
              refine awp_reg_seq fun K hK => ?_
              simp [go_sem, c0, d0, c1, d1, c3, d3, c4, d4, c5, d5, c6, d6]
              repeat refine ⟨by omega, ?_⟩
              refine CSk.mk (ref44_fits_cs _ x hn hm) ?_
              simp [go_sem, c0, d0, c1, d1, c3, d3, c4, d4, c5, d5, c6, d6]
              repeat refine ⟨by omega, ?_⟩
              refine hK _ ?_; clear hK K
              refine awp_forget [117] (by simp only [restr, List.contains_cons, List.contains_nil, Nat.reduceBEq, Bool.or_false, Bool.or_true, Bool.true_or, Bool.false_or, if_true, if_false, Bool.false_eq_true]; rfl) ?_
              refine awp_cond rfl (fun c8 => ?_) (fun c8 => ?_)
              · have d8 := c8; try simp at d8
                refine awp_reg_seq fun K hK => ?_
                simp [go_sem, c0, d0, c1, d1, c3, d3, c4, d4, c5, d5, c6, d6, c8, d8]
                repeat refine ⟨by omega, ?_⟩
                refine hK _ ?_; clear hK K
                refine awp_ret ?_
                rw [chk_11 hz c4 hb (by simpa using c8)]; simp [go_sem, Tryz.results18]
              · have d8 := c8; try simp at d8
                refine awp_skip ?_
                refine awp_reg_seq fun K hK => ?_
                simp [go_sem, c0, d0, c1, d1, c3, d3, c4, d4, c5, d5, c6, d6, c8, d8]
                repeat refine ⟨by omega, ?_⟩
                refine hK _ ?_; clear hK K
                refine awp_ret ?_
                rw [chk_0 hz c4 hb (by simpa using c8)]; simp [go_sem, Tryz.results18]
          · have d5 := c5; try simp at d5
            have hb : badB x = false := bad_no fun q hq => by omega
            clear c5 d5
            have c5 : True := trivial
            have d5 : True := trivial
            refine awp_skip ?_
            refine awp_seq ?_
            refine awp_reg_seq fun K hK => ?_
            simp [go_sem, c0, d0, c1, d1, c3, d3, c4, d4, c5, d5]
            repeat refine ⟨by omega, ?_⟩
            refine CSk.mk (ref44_fits_cs _ x hn hm) ?_
            simp [go_sem, c0, d0, c1, d1, c3, d3, c4, d4, c5, d5]
            repeat refine ⟨by omega, ?_⟩
            refine hK _ ?_; clear hK K
            refine awp_forget [117] (by simp only [restr, List.contains_cons, List.contains_nil, Nat.reduceBEq, Bool.or_false, Bool.or_true, Bool.true_or, Bool.false_or, if_true, if_false, Bool.false_eq_true]; rfl) ?_
            refine awp_cond rfl (fun c9 => ?_) (fun c9 => ?_)
            · have d9 := c9; try simp at d9
              refine awp_reg_seq fun K hK => ?_
              simp [go_sem, c0, d0, c1, d1, c3, d3, c4, d4, c5, d5, c9, d9]
              repeat refine ⟨by omega, ?_⟩
              refine hK _ ?_; clear hK K
              refine awp_ret ?_
              rw [chk_11 hz c4 hb (by simpa using c9)]; simp [go_sem, Tryz.results18]
            · have d9 := c9; try simp at d9
              refine awp_skip ?_
              refine awp_reg_seq fun K hK => ?_
              simp [go_sem, c0, d0, c1, d1, c3, d3, c4, d4, c5, d5, c9, d9]
              repeat refine ⟨by omega, ?_⟩
              refine hK _ ?_; clear hK K
              refine awp_ret ?_
              rw [chk_0 hz c4 hb (by simpa using c9)]; simp [go_sem, Tryz.results18]
theorem ref44_Make_cs (σ : List Blk) (id day : Int) (n : Nat) (u : Nat → Int) (s a : Int) (hn : n < 1000000000) (hσ : σ[0]? = some (.tab 0 powV)) : CSF Tryz.prog 15 [.d (I id), .d (I day), .d (SL none 1 encI n u), .d (I s), .d (I a)] σ (.tup [.agg ((makeP id day n u s a).1.enc.map .d), .d (I (makeP id day n u s a).2)]) := by
  refine CSF.of_body T.en15 Tryz.func15 rfl (by simp [Tryz.ntmps15]) (by simp [go_sem]) fun hwf => ?_
  refine awp_reg_seq fun K hK => ?_
  simp [go_sem, Tryz.ntmps15]
  repeat refine ⟨by omega, ?_⟩
  refine hK _ ?_; clear hK K
  refine awp_reg_seq fun K hK => ?_
  simp [go_sem, hwf.one, hwf.zero]
  repeat refine ⟨by omega, ?_⟩
  refine hK _ ?_; clear hK K
  refine awp_seq ?_
  refine awp_freeze (σ.length + 1) (by simp [go_sem]; first | exact ⟨rfl, rfl, rfl⟩ | exact ⟨rfl, rfl⟩ | rfl) (by simp [go_sem]; rfl) (by simp [go_sem, hwf.frz, hwf.frz0]; rfl) ?_
  refine awp_reg_seq fun K hK => ?_
  simp [go_sem]
  repeat refine ⟨by omega, ?_⟩
  refine CSk.mk ((ref44_Check_cs _ (newB id day n u s a) hn (show (0 : Nat) < 1000000000 by decide) (loc_app hσ)).sub (by simp [go_sem, sameL, sameE, sameL0, Go.Abs.sameA, newB])) ?_
  simp [go_sem]
  repeat refine ⟨by omega, ?_⟩
  refine hK _ ?_; clear hK K
  refine awp_reg_seq fun K hK => ?_
  simp [go_sem]
  repeat refine ⟨by omega, ?_⟩
  refine hK _ ?_; clear hK K
  refine awp_forget [10, 12, 13, 25] (by simp only [restr, List.contains_cons, List.contains_nil, Nat.reduceBEq, Bool.or_false, Bool.or_true, Bool.true_or, Bool.false_or, if_true, if_false, Bool.false_eq_true]; rfl) ?_
  refine awp_cond rfl (fun c0 => ?_) (fun c0 => ?_)
  · have d0 := c0; try simp at d0
    have hz : makeP id day n u s a = (bat0, chkB (newB id day n u s a)) := by unfold makeP; rw [if_pos d0]
    refine awp_reg_seq fun K hK => ?_
    simp [go_sem, c0, d0]
    repeat refine ⟨by omega, ?_⟩
    refine hK _ ?_; clear hK K
    refine awp_ret ?_
    rw [hz]; simp [go_sem, Tryz.results15, sameL0, Go.Abs.sameA, bat0]
  · have d0 := c0; try simp at d0
    have hz : makeP id day n u s a = (newB id day n u s a, 0) := by unfold makeP; rw [if_neg (by simpa using d0)]
    refine awp_skip ?_
    refine awp_reg_seq fun K hK => ?_
    simp [go_sem, c0, d0]
    repeat refine ⟨by omega, ?_⟩
    refine hK _ ?_; clear hK K
    refine awp_ret ?_
    rw [hz]; simp [go_sem, Tryz.results15, sameL0, Go.Abs.sameA, newB]
theorem ref44_Drawn_cs (σ : List Blk) (x : Bat) (rd : Int) (hn : x.nu < 1000000000) (hm : x.nb < 1000000000) (hσ : σ[0]? = some (.tab 0 powV)) : CSF Tryz.prog 24 [.agg (x.enc.map .d), .d (I rd)] σ (.tup [.d (SL none 1 encI (drawnP x rd).1.length (nth (drawnP x rd).1)), .d (I (drawnP x rd).2)]) := by
  refine CSF.of_body T.en24 Tryz.func24 rfl (by simp [Tryz.ntmps24]) (by simp [go_sem]) fun hwf => ?_
  refine awp_reg_seq fun K hK => ?_
  simp [go_sem, Tryz.ntmps24]
  repeat refine ⟨by omega, ?_⟩
  refine hK _ ?_; clear hK K
  refine awp_seq ?_
  refine awp_reg_seq fun K hK => ?_
  simp [go_sem]
  repeat refine ⟨by omega, ?_⟩
  refine CSk.mk (ref44_Check_cs _ x hn hm (loc_app hσ)) ?_
  simp [go_sem]
  repeat refine ⟨by omega, ?_⟩
  refine hK _ ?_; clear hK K
  refine awp_forget [1, 2, 8] (by simp only [restr, List.contains_cons, List.contains_nil, Nat.reduceBEq, Bool.or_false, Bool.or_true, Bool.true_or, Bool.false_or, if_true, if_false, Bool.false_eq_true]; rfl) ?_
  refine awp_cond rfl (fun c0 => ?_) (fun c0 => ?_)
  · have d0 := c0; try simp at d0
    have hz : drawnP x rd = ([], 1) := by unfold drawnP; rw [if_pos d0]
    refine awp_reg_seq fun K hK => ?_
    simp [go_sem, c0, d0]
    repeat refine ⟨by omega, ?_⟩
    refine hK _ ?_; clear hK K
    refine awp_ret ?_
    rw [hz]; simp [go_sem, Tryz.results24, sameL0, Go.Abs.sameA]
  · have d0 := c0; try simp at d0
    have hch : chkB x = 0 := by simpa using d0
    have hx := chk_rng hch
    refine awp_skip ?_
    refine awp_seq ?_
    refine awp_reg_seq fun K hK => ?_
    simp [go_sem, c0, d0]
    repeat refine ⟨by omega, ?_⟩
    refine hK _ ?_; clear hK K
    refine awp_forget [1, 2, 14] (by simp only [restr, List.contains_cons, List.contains_nil, Nat.reduceBEq, Bool.or_false, Bool.or_true, Bool.true_or, Bool.false_or, if_true, if_false, Bool.false_eq_true]; rfl) ?_
    refine awp_cond rfl (fun c1 => ?_) (fun c1 => ?_)
    · have d1 := c1; try simp at d1
      have hz : drawnP x rd = ([], 2) := by unfold drawnP; rw [if_neg (by simp [hch]), if_pos (by simp [inB]; omega)]
      refine awp_reg_seq fun K hK => ?_
      simp [go_sem, c0, d0, c1, d1]
      repeat refine ⟨by omega, ?_⟩
      refine hK _ ?_; clear hK K
      refine awp_ret ?_
      rw [hz]; simp [go_sem, Tryz.results24, sameL0, Go.Abs.sameA]
    · have d1 := c1; try simp at d1
      have hz : drawnP x rd = (drawL x rd, 0) := drawnP_yes hch (by omega) (by omega)
      refine awp_skip ?_
      refine awp_reg_seq fun K hK => ?_
      simp [go_sem, c0, d0, c1, d1]
      repeat refine ⟨by omega, ?_⟩
      refine CSk.mk (ref44_draw_cs _ x rd hx (chk_asc hch) (by omega) (by omega) (loc_app hσ)) ?_
      simp [go_sem, c0, d0, c1, d1]
      repeat refine ⟨by omega, ?_⟩
      refine hK _ ?_; clear hK K
      refine awp_ret ?_
      rw [hz]; simp [go_sem, Tryz.results24, sameL0, Go.Abs.sameA]
theorem ref44_Scan_cs (σ : List Blk) (x : Bat) (hn : x.nu < 1000000000) (hm : x.nb < 1000000000) (hσ : σ[0]? = some (.tab 0 powV)) : CSF Tryz.prog 26 [.agg (x.enc.map .d)] σ (.tup [.agg ((scanP x).1.enc.map .d), .d (I (scanP x).2)]) := by
  refine CSF.of_body T.en26 Tryz.func26 rfl (by simp [Tryz.ntmps26]) (by simp [go_sem]) fun hwf => ?_
  refine awp_reg_seq fun K hK => ?_
  simp [go_sem, Tryz.ntmps26]
  repeat refine ⟨by omega, ?_⟩
  refine hK _ ?_; clear hK K
  refine awp_seq ?_
  refine awp_reg_seq fun K hK => ?_
  simp [go_sem]
  repeat refine ⟨by omega, ?_⟩
  refine CSk.mk (ref44_Check_cs _ x hn hm (loc_app hσ)) ?_
  simp [go_sem]
  repeat refine ⟨by omega, ?_⟩
  refine hK _ ?_; clear hK K
  refine awp_forget [1, 2, 6] (by simp only [restr, List.contains_cons, List.contains_nil, Nat.reduceBEq, Bool.or_false, Bool.or_true, Bool.true_or, Bool.false_or, if_true, if_false, Bool.false_eq_true]; rfl) ?_
  refine awp_cond rfl (fun c0 => ?_) (fun c0 => ?_)
  · have d0 := c0; try simp at d0
    have hz : scanP x = (bat0, 1) := by unfold scanP; rw [if_pos d0]
    refine awp_reg_seq fun K hK => ?_
    simp [go_sem, c0, d0]
    repeat refine ⟨by omega, ?_⟩
    refine hK _ ?_; clear hK K
    refine awp_ret ?_
    rw [hz]; simp [go_sem, Tryz.results26, sameL0, Go.Abs.sameA, bat0]
  · have d0 := c0; try simp at d0
    have hch : chkB x = 0 := by simpa using d0
    have hx := chk_rng hch
    have hr1 := hx.r1
    have hr2 := hx.r2
    have hwr : IntKind.i64.wrap (x.Round + 1) = x.Round + 1 := wrapI (by omega) (by omega)
    refine awp_skip ?_
    refine awp_seq ?_
    refine awp_reg_seq fun K hK => ?_
    simp [go_sem, c0, d0, hwr]
    repeat refine ⟨by omega, ?_⟩
    refine hK _ ?_; clear hK K
    refine awp_forget [1, 2, 15] (by simp only [restr, List.contains_cons, List.contains_nil, Nat.reduceBEq, Bool.or_false, Bool.or_true, Bool.true_or, Bool.false_or, if_true, if_false, Bool.false_eq_true]; rfl) ?_
    refine awp_cond rfl (fun c1 => ?_) (fun c1 => ?_)
    · have d1 := c1; try simp at d1
      have hz : scanP x = (bat0, 11) := by unfold scanP; rw [if_neg (by simp [hch]), if_pos (by simpa using d1)]
      refine awp_reg_seq fun K hK => ?_
      simp [go_sem, c0, d0, hwr, c1, d1]
      repeat refine ⟨by omega, ?_⟩
      refine hK _ ?_; clear hK K
      refine awp_ret ?_
      rw [hz]; simp [go_sem, Tryz.results26, sameL0, Go.Abs.sameA, bat0]
    · have d1 := c1; try simp at d1
      refine awp_skip ?_
      refine awp_seq ?_
      refine awp_reg_seq fun K hK => ?_
      simp [go_sem, c0, d0, hwr, c1, d1]
      repeat refine ⟨by omega, ?_⟩
      refine hK _ ?_; clear hK K
      refine awp_forget [1, 2, 19] (by simp only [restr, List.contains_cons, List.contains_nil, Nat.reduceBEq, Bool.or_false, Bool.or_true, Bool.true_or, Bool.false_or, if_true, if_false, Bool.false_eq_true]; rfl) ?_
      refine awp_cond rfl (fun c2 => ?_) (fun c2 => ?_)
      · have d2 := c2; try simp at d2
        have hz : scanP x = (bat0, 15) := by unfold scanP; rw [if_neg (by simp [hch]), if_neg (by simpa using d1), if_pos d2]
        refine awp_reg_seq fun K hK => ?_
        simp [go_sem, c0, d0, hwr, c1, d1, c2, d2]
        repeat refine ⟨by omega, ?_⟩
        refine hK _ ?_; clear hK K
        refine awp_ret ?_
        rw [hz]; simp [go_sem, Tryz.results26, sameL0, Go.Abs.sameA, bat0]
      · have d2 := c2; try simp at d2
        have hz : scanP x = (scanB x, 0) := by unfold scanP; rw [if_neg (by simp [hch]), if_neg (by simpa using d1), if_neg d2]
        refine awp_skip ?_
        refine awp_reg_seq fun K hK => ?_
        simp [go_sem, c0, d0, hwr, c1, d1, c2, d2]
        repeat refine ⟨by omega, ?_⟩
        refine CSk.mk (ref44_Copy_cs _ x hn hm) ?_
        simp [go_sem, c0, d0, hwr, c1, d1, c2, d2]
        repeat refine ⟨by omega, ?_⟩
        refine hK _ ?_; clear hK K
        refine awp_reg_seq fun K hK => ?_
        simp [go_sem, c0, d0, hwr, c1, d1, c2, d2]
        try simp (disch := omega) only [wrapI]
        repeat refine ⟨by omega, ?_⟩
        refine hK _ ?_; clear hK K
        refine awp_reg_seq fun K hK => ?_
        simp [go_sem, c0, d0, hwr, c1, d1, c2, d2]
        repeat refine ⟨by omega, ?_⟩
        refine hK _ ?_; clear hK K
        refine awp_ret ?_
        rw [hz]; simp [go_sem, Tryz.results26, sameL0, Go.Abs.sameA, scanB]
theorem ref44_Inspect_cs (σ : List Blk) (x : Bat) (m : Nat) (h : Nat → Int) (hn : x.nu < 1000000000) (hm : x.nb < 1000000000) (hk : m < 1000000000) (hσ : σ[0]? = some (.tab 0 powV)) : CSF Tryz.prog 28 [.agg (x.enc.map .d), .d (SL none 1 encI m h)] σ (.tup [.agg ((inspP x m h).1.enc.map .d), .d (I (inspP x m h).2)]) := by
  refine CSF.of_body T.en28 Tryz.func28 rfl (by simp [Tryz.ntmps28]) (by simp [go_sem]) fun hwf => ?_
  refine awp_reg_seq fun K hK => ?_
  simp [go_sem, Tryz.ntmps28]
  repeat refine ⟨by omega, ?_⟩
  refine hK _ ?_; clear hK K
  refine awp_seq ?_
  refine awp_reg_seq fun K hK => ?_
  simp [go_sem]
  repeat refine ⟨by omega, ?_⟩
  refine CSk.mk (ref44_Check_cs _ x hn hm (loc_app hσ)) ?_
  simp [go_sem]
  repeat refine ⟨by omega, ?_⟩
  refine hK _ ?_; clear hK K
  refine awp_forget [1, 2, 4, 11] (by simp only [restr, List.contains_cons, List.contains_nil, Nat.reduceBEq, Bool.or_false, Bool.or_true, Bool.true_or, Bool.false_or, if_true, if_false, Bool.false_eq_true]; rfl) ?_
  refine awp_cond rfl (fun c0 => ?_) (fun c0 => ?_)
  · have d0 := c0; try simp at d0
    have hz : inspP x m h = (bat0, 1) := by unfold inspP; rw [if_pos d0]
    refine awp_reg_seq fun K hK => ?_
    simp [go_sem, c0, d0]
    repeat refine ⟨by omega, ?_⟩
    refine hK _ ?_; clear hK K
    refine awp_ret ?_
    rw [hz]; simp [go_sem, Tryz.results28, sameL0, Go.Abs.sameA, bat0]
  · have d0 := c0; try simp at d0
    have hch : chkB x = 0 := by simpa using d0
    have hx := chk_rng hch
    have hr1 := hx.r1
    have hr2 := hx.r2
    refine awp_skip ?_
    refine awp_seq ?_
    refine awp_reg_seq fun K hK => ?_
    simp [go_sem, c0, d0]
    repeat refine ⟨by omega, ?_⟩
    refine hK _ ?_; clear hK K
    refine awp_forget [1, 2, 4, 15] (by simp only [restr, List.contains_cons, List.contains_nil, Nat.reduceBEq, Bool.or_false, Bool.or_true, Bool.true_or, Bool.false_or, if_true, if_false, Bool.false_eq_true]; rfl) ?_
    refine awp_cond rfl (fun c1 => ?_) (fun c1 => ?_)
    · have d1 := c1; try simp at d1
      have hz : inspP x m h = (bat0, 11) := by unfold inspP; rw [if_neg (by simp [hch]), if_pos d1]
      refine awp_reg_seq fun K hK => ?_
      simp [go_sem, c0, d0, c1, d1]
      repeat refine ⟨by omega, ?_⟩
      refine hK _ ?_; clear hK K
      refine awp_ret ?_
      rw [hz]; simp [go_sem, Tryz.results28, sameL0, Go.Abs.sameA, bat0]
    · have d1 := c1; try simp at d1
      have h2 : x.State = 2 := by simpa using d1
      clear d1 c1
      have d1 : True := trivial
      have c1 : True := trivial
      refine awp_skip ?_
      refine awp_seq ?_
      refine awp_reg_seq fun K hK => ?_
      simp [go_sem, c0, d0, c1, d1]
      repeat refine ⟨by omega, ?_⟩
      refine CSk.mk (ref44_rising_cs _ none m h hk) ?_
      simp [go_sem, c0, d0, c1, d1]
      repeat refine ⟨by omega, ?_⟩
      refine hK _ ?_; clear hK K
      refine awp_forget [1, 2, 4, 19] (by simp only [restr, List.contains_cons, List.contains_nil, Nat.reduceBEq, Bool.or_false, Bool.or_true, Bool.true_or, Bool.false_or, if_true, if_false, Bool.false_eq_true]; rfl) ?_
      refine awp_cond rfl (fun c2 => ?_) (fun c2 => ?_)
      · have d2 := c2; try simp at d2
        have hz : inspP x m h = (bat0, 5) := by unfold inspP; rw [if_neg (by simp [hch]), if_neg (by simp [h2]), if_pos (by simpa using c2)]
        refine awp_reg_seq fun K hK => ?_
        simp [go_sem, c0, d0, c1, d1, c2, d2]
        repeat refine ⟨by omega, ?_⟩
        refine hK _ ?_; clear hK K
        refine awp_ret ?_
        rw [hz]; simp [go_sem, Tryz.results28, sameL0, Go.Abs.sameA, bat0]
      · have d2 := c2; try simp at d2
        have hdl := drawL_le x x.Round
        refine awp_skip ?_
        refine awp_reg_seq fun K hK => ?_
        simp [go_sem, c0, d0, c1, d1, c2, d2]
        repeat refine ⟨by omega, ?_⟩
        refine CSk.mk (ref44_draw_cs _ x x.Round hx (chk_asc hch) hr1 hr2 (loc_app hσ)) ?_
        simp [go_sem, c0, d0, c1, d1, c2, d2]
        repeat refine ⟨by omega, ?_⟩
        refine hK _ ?_; clear hK K
        refine awp_seq ?_
        refine awp_reg_seq fun K hK => ?_
        simp [go_sem, c0, d0, c1, d1, c2, d2]
        repeat refine ⟨by omega, ?_⟩
        refine hK _ ?_; clear hK K
        refine awp_block ?_
        refine awp_forget [1, 2, 4, 6, 25, 26, 27] (by simp [go_sem, restr]; rfl) ?_
        refine awp_loopU (α := Nat) (fun i => [(27, .d (I i))]) (fun i => σ ++ [.var (x.enc.map .d), .var [.d (.v (.int .i64 0)), .d (.v (.int .i64 0)), .d (.v (.int .i64 0)), .d (.v (.int .i64 0)), .d (.v (.int .i64 0)), .d (.v (.int .i64 0)), .d (.v (.slice none 0 0)), .d (.v (.slice none 0 0))]]) (fun i => i ≤ m ∧ ∀ q, q < i → memI (drawL x x.Round).length (nth (drawL x x.Round)) (h q) = true) (fun i => m - i) 0 (by simp [go_sem]) (rfl) (by simp) ?_
        rintro i ⟨hi, hy⟩
        refine awp_reg_seq fun K hK => ?_
        simp [go_sem, c0, d0, c1, d1, c2, d2]
        repeat refine ⟨by omega, ?_⟩
        refine hK _ ?_; clear hK K
        refine awp_seq ?_
        refine awp_forget [1, 2, 4, 6, 25, 26, 27, 28] (by simp only [restr, List.contains_cons, List.contains_nil, Nat.reduceBEq, Bool.or_false, Bool.or_true, Bool.true_or, Bool.false_or, if_true, if_false, Bool.false_eq_true]; rfl) ?_
        refine awp_cond rfl (fun c3 => ?_) (fun c3 => ?_)
        · have d3 := c3; try simp at d3
          have hi5 : i < m := by omega
          refine awp_skip ?_
          refine awp_seq ?_
          refine awp_block ?_
          refine awp_reg_seq fun K hK => ?_
          simp [go_sem, c0, d0, c1, d1, c2, d2, c3, d3, hi5]
          repeat refine ⟨by omega, ?_⟩
          refine hK _ ?_; clear hK K
          refine awp_reg_seq fun K hK => ?_
          simp [go_sem, c0, d0, c1, d1, c2, d2, c3, d3, hi5]
          repeat refine ⟨by omega, ?_⟩
          refine CSk.mk (inOf_cs _ none (drawL x x.Round).length (nth (drawL x x.Round)) (h i) (by omega)) ?_
          simp [go_sem, c0, d0, c1, d1, c2, d2, c3, d3, hi5]
          repeat refine ⟨by omega, ?_⟩
          refine hK _ ?_; clear hK K
          refine awp_forget [1, 2, 4, 6, 25, 26, 27, 34] (by simp only [restr, List.contains_cons, List.contains_nil, Nat.reduceBEq, Bool.or_false, Bool.or_true, Bool.true_or, Bool.false_or, if_true, if_false, Bool.false_eq_true]; rfl) ?_
          refine awp_cond rfl (fun c4 => ?_) (fun c4 => ?_)
          · have d4 := c4; try simp at d4
            have hs : subB (drawL x x.Round).length (nth (drawL x x.Round)) m h = false := by
              rw [← Bool.not_eq_true, subB_iff]
              intro hs; have := hs i hi5; rw [this] at d4; simp at d4
            have hz : inspP x m h = (bat0, 7) := by unfold inspP; rw [if_neg (by simp [hch]), if_neg (by simp [h2]), if_neg (by simpa using c2), if_pos hs]
            refine awp_reg_seq fun K hK => ?_
            simp [go_sem, c0, d0, c1, d1, c2, d2, c3, d3, hi5, c4, d4]
            repeat refine ⟨by omega, ?_⟩
            refine hK _ ?_; clear hK K
            refine awp_ret ?_
            rw [hz]; simp [go_sem, Tryz.results28, sameL0, Go.Abs.sameA, bat0]
          · have d4 := c4; try simp at d4
            refine awp_skip ?_
            refine awp_reg_end fun K hK => ?_
            simp [go_sem, c0, d0, c1, d1, c2, d2, c3, d3, hi5, c4, d4]
            try simp (disch := omega) only [wrapI]
            repeat refine ⟨by omega, ?_⟩
            refine hK _ ?_; clear hK K
            refine ⟨i + 1, back_of' (by simp [go_sem, wrap_succ (i := i) (by omega), c0, d0, c1, d1, c2, d2, c3, d3, hi5, c4, d4]) ((leaves_app (by simp [go_sem]))) (by (simp [go_sem, wrap_succ (i := i) (by omega), c0, d0, c1, d1, c2, d2, c3, d3, hi5, c4, d4] <;> omega)), ⟨by omega, fun q hq => by rcases Nat.lt_or_eq_of_le (Nat.le_of_lt_succ hq) with h9 | h9; exact hy q h9; rw [h9]; simpa using d4⟩, by first | omega | (dsimp only; omega)⟩
        · have d3 := c3; try simp at d3
          obtain rfl : i = m := by omega
          have hz : inspP x i h = (inspB x i h, 0) := inspP_yes hch h2 (by simpa using c2) ((subB_iff _ _ _ _).2 hy)
          refine awp_exit ?_
          refine awp_reg_seq fun K hK => ?_
          simp [go_sem, c0, d0, c1, d1, c2, d2, c3, d3]
          repeat refine ⟨by omega, ?_⟩
          refine CSk.mk (ref44_Copy_cs _ x hn hm) ?_
          simp [go_sem, c0, d0, c1, d1, c2, d2, c3, d3]
          repeat refine ⟨by omega, ?_⟩
          refine hK _ ?_; clear hK K
          refine awp_reg_seq fun K hK => ?_
          simp [go_sem, c0, d0, c1, d1, c2, d2, c3, d3, hwf.one, hwf.zero]
          repeat refine ⟨by omega, ?_⟩
          refine hK _ ?_; clear hK K
          refine awp_seq ?_
          refine awp_freeze (σ.length + 2) (by simp [go_sem]; first | exact ⟨rfl, rfl, rfl⟩ | exact ⟨rfl, rfl⟩ | rfl) (by simp [go_sem]; rfl) (by simp [go_sem, hwf.frz, hwf.frz0]; rfl) ?_
          refine awp_reg_seq fun K hK => ?_
          simp [go_sem, c0, d0, c1, d1, c2, d2, c3, d3]
          repeat refine ⟨by omega, ?_⟩
          refine hK _ ?_; clear hK K
          refine awp_forget [2, 4, 48] (by simp only [restr, List.contains_cons, List.contains_nil, Nat.reduceBEq, Bool.or_false, Bool.or_true, Bool.true_or, Bool.false_or, if_true, if_false, Bool.false_eq_true]; rfl) ?_
          refine awp_cond rfl (fun c5 => ?_) (fun c5 => ?_)
          · have d5 := c5; try simp at d5
            refine awp_reg_end fun K hK => ?_
            simp [go_sem, c0, d0, c1, d1, c2, d2, c3, d3, c5, d5]
            repeat refine ⟨by omega, ?_⟩
            refine hK _ ?_; clear hK K
            refine awp_reg_seq fun K hK => ?_
            simp [go_sem, c0, d0, c1, d1, c2, d2, c3, d3, c5, d5]
            repeat refine ⟨by omega, ?_⟩
            refine hK _ ?_; clear hK K
            refine awp_ret ?_
            rw [hz]; simp [go_sem, Tryz.results28, sameL0, Go.Abs.sameA, inspB, d5]
          · have d5 := c5; try simp at d5
            refine awp_skip ?_
            refine awp_reg_seq fun K hK => ?_
            simp [go_sem, c0, d0, c1, d1, c2, d2, c3, d3, c5, d5]
            repeat refine ⟨by omega, ?_⟩
            refine hK _ ?_; clear hK K
            refine awp_ret ?_
            rw [hz]; simp [go_sem, Tryz.results28, sameL0, Go.Abs.sameA, inspB, d5]
end Go.Proofs.YtldnolgijfkfpaaGreatDoor

/-! Cv -/
namespace Go.Proofs.YtldnolgijfkfpaaGreatDoor
open Go.Abs
set_option linter.unusedVariables false
set_option linter.unusedSimpArgs false
set_option maxRecDepth 100000
set_option maxHeartbeats 1000000
theorem makeP_bd {id day : Int} {n : Nat} {g : Nat → Int} {s a : Int} (h : n < 1000000000) : (makeP id day n g s a).1.nu < 1000000000 ∧ (makeP id day n g s a).1.nb < 1000000000 := by
  unfold makeP; split
  · exact ⟨show (0 : Nat) < 1000000000 by decide, show (0 : Nat) < 1000000000 by decide⟩
  · exact ⟨h, show (0 : Nat) < 1000000000 by decide⟩
theorem scanP_bd {x : Bat} (h : x.nu < 1000000000) : (scanP x).1.nu < 1000000000 ∧ (scanP x).1.nb < 1000000000 := by
  unfold scanP; split
  · exact ⟨by decide, by decide⟩
  · split
    · exact ⟨by decide, by decide⟩
    · split
      · exact ⟨by decide, by decide⟩
      · exact ⟨h, show (0 : Nat) < 1000000000 by decide⟩
theorem inspP_bd {x : Bat} {m : Nat} {g : Nat → Int} (h : x.nu < 1000000000) (hm : m < 1000000000) : (inspP x m g).1.nu < 1000000000 ∧ (inspP x m g).1.nb < 1000000000 := by
  unfold inspP; split
  · exact ⟨by decide, by decide⟩
  · split
    · exact ⟨by decide, by decide⟩
    · split
      · exact ⟨by decide, by decide⟩
      · split
        · exact ⟨by decide, by decide⟩
        · exact ⟨h, hm⟩
theorem law44_DigitizeChecks_cs (σ : List Blk) (x : Bat) (id day : Int) (n : Nat) (g : Nat → Int) (s a : Int) (hn : x.nu ≤ 9223372036854775807) (hm : x.nb ≤ 9223372036854775807) (hσ : σ[0]? = some (.tab 0 powV)) : CSF Tryz.prog 3 [.agg (x.enc.map .d), .agg [.d (I id), .d (I day), .d (SL none 1 encI n g), .d (I s), .d (I a)]] σ (.d (B true)) := by
  refine CSF.of_body T.en3 Tryz.func3 rfl (by simp [Tryz.ntmps3]) (by simp [go_sem]) fun hwf => ?_
  refine awp_reg_seq fun K hK => ?_
  simp [go_sem, Tryz.ntmps3]
  repeat refine ⟨by omega, ?_⟩
  refine hK _ ?_; clear hK K
  refine awp_seq ?_
  refine awp_reg_seq fun K hK => ?_
  simp [go_sem]
  repeat refine ⟨by omega, ?_⟩
  refine CSk.mk (law44_awake_cs _ (loc_app hσ)) ?_
  simp [go_sem]
  repeat refine ⟨by omega, ?_⟩
  refine hK _ ?_; clear hK K
  refine awp_forget [2, 3, 10] (by simp only [restr, List.contains_cons, List.contains_nil, Nat.reduceBEq, Bool.or_false, Bool.or_true, Bool.true_or, Bool.false_or, if_true, if_false, Bool.false_eq_true]; rfl) ?_
  refine awp_cond rfl (fun c0 => ?_) (fun c0 => ?_)
  · have d0 := c0; try simp at d0
  · have d0 := c0; try simp at d0
    refine awp_skip ?_
    refine awp_seq ?_
    refine awp_reg_seq fun K hK => ?_
    simp [go_sem, c0, d0]
    repeat refine ⟨by omega, ?_⟩
    refine CSk.mk (ref44_Few_cs _ x hn hm) ?_
    simp [go_sem, c0, d0]
    repeat refine ⟨by omega, ?_⟩
    refine hK _ ?_; clear hK K
    refine awp_forget [2, 3, 19] (by simp only [restr, List.contains_cons, List.contains_nil, Nat.reduceBEq, Bool.or_false, Bool.or_true, Bool.true_or, Bool.false_or, if_true, if_false, Bool.false_eq_true]; rfl) ?_
    refine awp_cond rfl (fun c1 => ?_) (fun c1 => ?_)
    · have d1 := c1; try simp at d1
      refine awp_reg_seq fun K hK => ?_
      simp [go_sem, c0, d0, c1, d1]
      repeat refine ⟨by omega, ?_⟩
      refine hK _ ?_; clear hK K
      refine awp_ret ?_
      simp [go_sem, Tryz.results3, c0, d0, c1, d1] <;> omega
    · have d1 := c1; try simp at d1
      have hfew : fewB x = true := d1.1
      have hb := few_bd hfew
      have hn7 : n < 1000000000 := by omega
      have hmk := makeP_bd (id := id) (day := day) (g := g) (s := s) (a := a) hn7
      refine awp_skip ?_
      apply awp_own_seq 17 15 16 T.mixed (by kernel_rfl)
      · intro τ K hK
        simp [go_sem, c0, d0, c1, d1]
        repeat refine ⟨by omega, ?_⟩
        refine CSg.mk (cloneInt_cs _ none n g hn7) ?_
        simp [go_sem, c0, d0, c1, d1]
        repeat refine ⟨by omega, ?_⟩
        refine CSg.mk (digitize_Make_cs _ id day none n g s a hn7 (loc_app hσ)) ?_
        simp [go_sem, c0, d0, c1, d1]
        repeat refine ⟨by omega, ?_⟩
        exact hK _ _
      intro K hK
      simp [go_sem, c0, d0, c1, d1]
      repeat refine ⟨by omega, ?_⟩
      refine hK _ ?_; clear hK K
      refine awp_reg_seq fun K hK => ?_
      simp [go_sem, c0, d0, c1, d1]
      repeat refine ⟨by omega, ?_⟩
      refine CSk.mk (ref44_Make_cs _ id day n g s a hn7 (loc_app hσ)) ?_
      simp [go_sem, c0, d0, c1, d1]
      repeat refine ⟨by omega, ?_⟩
      refine hK _ ?_; clear hK K
      refine awp_draw_seq 16 T.mixed (by kernel_rfl) fun K hK => ?_
      simp [go_sem, c0, d0, c1, d1]
      repeat refine ⟨by omega, ?_⟩
      refine CSg.mk (ref44_Copy_cs _ x hb.1 hb.2) ?_
      simp [go_sem, c0, d0, c1, d1]
      repeat refine ⟨by omega, ?_⟩
      refine CSg.mk (digitize_Check_cs _ x hb.1 hb.2 (loc_app hσ)) ?_
      simp [go_sem, c0, d0, c1, d1]
      repeat refine ⟨by omega, ?_⟩
      refine CSg.mk (ref44_Check_cs _ x hb.1 hb.2 (loc_app hσ)) ?_
      simp [go_sem, c0, d0, c1, d1]
      repeat refine ⟨by omega, ?_⟩
      refine CSg.mk' _ (fun _ => ref44_Same_cs _ (makeP id day n g s a).1 hmk.1 hmk.2) ?_
      simp [go_sem, c0, d0, c1, d1]
      repeat refine ⟨by omega, ?_⟩
      refine hK _ ?_; clear hK K
      refine awp_ret ?_
      simp [go_sem, Tryz.results3, c0, d0, c1, d1] <;> omega
theorem law44_DigitizeSteps_cs (σ : List Blk) (x : Bat) (rd : Int) (m : Nat) (h : Nat → Int) (hn : x.nu ≤ 9223372036854775807) (hm : x.nb ≤ 9223372036854775807) (hσ : σ[0]? = some (.tab 0 powV)) : CSF Tryz.prog 7 [.agg (x.enc.map .d), .d (I rd), .d (SL none 1 encI m h)] σ (.d (B true)) := by
  refine CSF.of_body T.en7 Tryz.func7 rfl (by simp [Tryz.ntmps7]) (by simp [go_sem]) fun hwf => ?_
  refine awp_reg_seq fun K hK => ?_
  simp [go_sem, Tryz.ntmps7, eqL_self]
  repeat refine ⟨by omega, ?_⟩
  refine hK _ ?_; clear hK K
  refine awp_seq ?_
  refine awp_reg_seq fun K hK => ?_
  simp [go_sem, eqL_self]
  repeat refine ⟨by omega, ?_⟩
  refine CSk.mk (law44_awake_cs _ (loc_app hσ)) ?_
  simp [go_sem, eqL_self]
  repeat refine ⟨by omega, ?_⟩
  refine hK _ ?_; clear hK K
  refine awp_forget [1, 2, 3, 20] (by simp only [restr, List.contains_cons, List.contains_nil, Nat.reduceBEq, Bool.or_false, Bool.or_true, Bool.true_or, Bool.false_or, if_true, if_false, Bool.false_eq_true]; rfl) ?_
  refine awp_cond rfl (fun c0 => ?_) (fun c0 => ?_)
  · have d0 := c0; try simp at d0
  · have d0 := c0; try simp at d0
    refine awp_skip ?_
    refine awp_seq ?_
    refine awp_reg_seq fun K hK => ?_
    simp [go_sem, eqL_self, c0, d0]
    repeat refine ⟨by omega, ?_⟩
    refine CSk.mk (ref44_Few_cs _ x hn hm) ?_
    simp [go_sem, eqL_self, c0, d0]
    repeat refine ⟨by omega, ?_⟩
    refine hK _ ?_; clear hK K
    refine awp_forget [1, 2, 3, 28] (by simp only [restr, List.contains_cons, List.contains_nil, Nat.reduceBEq, Bool.or_false, Bool.or_true, Bool.true_or, Bool.false_or, if_true, if_false, Bool.false_eq_true]; rfl) ?_
    refine awp_cond rfl (fun c1 => ?_) (fun c1 => ?_)
    · have d1 := c1; try simp at d1
      refine awp_reg_seq fun K hK => ?_
      simp [go_sem, eqL_self, c0, d0, c1, d1]
      repeat refine ⟨by omega, ?_⟩
      refine hK _ ?_; clear hK K
      refine awp_ret ?_
      simp [go_sem, Tryz.results7, eqL_self, c0, d0, c1, d1] <;> omega
    · have d1 := c1; try simp at d1
      have hfew : fewB x = true := d1.1
      have hb := few_bd hfew
      have hm7 : m < 1000000000 := by omega
      have hsc := scanP_bd hb.1
      have hin := inspP_bd (g := h) hb.1 hm7
      have hdp : (drawnP x rd).1.length < 1000000000 := by
        have := drawL_le x rd
        unfold drawnP; split
        · decide
        · split
          · decide
          · show (drawL x rd).length < _; omega
      refine awp_skip ?_
      refine awp_reg_seq fun K hK => ?_
      simp [go_sem, eqL_self, c0, d0, c1, d1]
      repeat refine ⟨by omega, ?_⟩
      refine CSk.mk (ref44_Copy_cs _ x hb.1 hb.2) ?_
      simp [go_sem, eqL_self, c0, d0, c1, d1]
      repeat refine ⟨by omega, ?_⟩
      refine CSk.mk (digitize_Drawn_cs _ x rd hb.1 hb.2 (loc_app hσ)) ?_
      simp [go_sem, eqL_self, c0, d0, c1, d1]
      repeat refine ⟨by omega, ?_⟩
      refine hK _ ?_; clear hK K
      refine awp_reg_seq fun K hK => ?_
      simp [go_sem, eqL_self, c0, d0, c1, d1]
      repeat refine ⟨by omega, ?_⟩
      refine CSk.mk (ref44_Drawn_cs _ x rd hb.1 hb.2 (loc_app hσ)) ?_
      simp [go_sem, eqL_self, c0, d0, c1, d1]
      repeat refine ⟨by omega, ?_⟩
      refine hK _ ?_; clear hK K
      refine awp_reg_seq fun K hK => ?_
      simp [go_sem, eqL_self, c0, d0, c1, d1]
      repeat refine ⟨by omega, ?_⟩
      refine CSk.mk (ref44_Copy_cs _ x hb.1 hb.2) ?_
      simp [go_sem, eqL_self, c0, d0, c1, d1]
      repeat refine ⟨by omega, ?_⟩
      refine CSk.mk (digitize_Scan_cs _ x hb.1 hb.2 (loc_app hσ)) ?_
      simp [go_sem, eqL_self, c0, d0, c1, d1]
      repeat refine ⟨by omega, ?_⟩
      refine hK _ ?_; clear hK K
      refine awp_reg_seq fun K hK => ?_
      simp [go_sem, eqL_self, c0, d0, c1, d1]
      repeat refine ⟨by omega, ?_⟩
      refine CSk.mk (ref44_Scan_cs _ x hb.1 hb.2 (loc_app hσ)) ?_
      simp [go_sem, eqL_self, c0, d0, c1, d1]
      repeat refine ⟨by omega, ?_⟩
      refine hK _ ?_; clear hK K
      refine awp_reg_seq fun K hK => ?_
      simp [go_sem, eqL_self, c0, d0, c1, d1]
      repeat refine ⟨by omega, ?_⟩
      refine CSk.mk (ref44_Copy_cs _ x hb.1 hb.2) ?_
      simp [go_sem, eqL_self, c0, d0, c1, d1]
      repeat refine ⟨by omega, ?_⟩
      refine CSk.mk (cloneInt_cs _ none m h hm7) ?_
      simp [go_sem, eqL_self, c0, d0, c1, d1]
      repeat refine ⟨by omega, ?_⟩
      refine CSk.mk (digitize_Inspect_cs _ x none m h hb.1 hb.2 hm7 (loc_app hσ)) ?_
      simp [go_sem, eqL_self, c0, d0, c1, d1]
      repeat refine ⟨by omega, ?_⟩
      refine hK _ ?_; clear hK K
      refine awp_reg_seq fun K hK => ?_
      simp [go_sem, eqL_self, c0, d0, c1, d1]
      repeat refine ⟨by omega, ?_⟩
      refine CSk.mk (ref44_Inspect_cs _ x m h hb.1 hb.2 hm7 (loc_app hσ)) ?_
      simp [go_sem, eqL_self, c0, d0, c1, d1]
      repeat refine ⟨by omega, ?_⟩
      refine hK _ ?_; clear hK K
      refine awp_reg_seq fun K hK => ?_
      simp [go_sem, eqL_self, c0, d0, c1, d1]
      repeat refine ⟨by omega, ?_⟩
      refine CSk.mk (equalInt_cs _ none none (drawnP x rd).1.length (drawnP x rd).1.length (nth (drawnP x rd).1) (nth (drawnP x rd).1) hdp hdp) ?_
      simp [go_sem, eqL_self, c0, d0, c1, d1]
      repeat refine ⟨by omega, ?_⟩
      refine CSm.mk' _ (fun _ => ref44_Same_cs _ (scanP x).1 hsc.1 hsc.2) ?_
      simp [go_sem, eqL_self, c0, d0, c1, d1]
      repeat refine ⟨by omega, ?_⟩
      refine CSm.mk' _ (fun _ => ref44_Same_cs _ (inspP x m h).1 hin.1 hin.2) ?_
      simp [go_sem, eqL_self, c0, d0, c1, d1]
      repeat refine ⟨by omega, ?_⟩
      refine hK _ ?_; clear hK K
      refine awp_ret ?_
      simp [go_sem, Tryz.results7, eqL_self, c0, d0, c1, d1] <;> omega
end Go.Proofs.YtldnolgijfkfpaaGreatDoor
