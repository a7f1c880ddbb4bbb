/- Contracts: the spans of a class, written by a program along closure3.spec. -/
import Derived.Test.YtplpklikapkloaaBi
namespace Go.Proofs.Ytplpklikapkloaa
open Go.Abs Go.Arch
set_option linter.unusedVariables false
set_option linter.unusedSimpArgs false
set_option maxRecDepth 100000
set_option maxHeartbeats 400000


theorem insert0_cs (σ : List Blk) (τ : List Blk) (row : Nat → List D) : CSF Try.prog 72 [.ms σ.length 6 0 0, .d (I 0), .d (I 0), .clo (.func 65) [] []] (σ ++ .arr 6 0 row :: τ) (.tup []) := by
  refine CSF.of_body T.en72 Try.func72 rfl (by simp [Try.ntmps72]) (by simp [go_sem]) fun hwf => ?_
  refine awp_reg_seq fun K hK => ?_
  simp [go_sem, Try.ntmps72]
  try simp (disch := omega) only [wrapI]
  repeat refine ⟨by omega, ?_⟩
  refine hK _ ?_; clear hK K
  refine awp_block ?_
  refine awp_forget [0, 1, 2, 3, 8] (by simp [go_sem, restr]; rfl) ?_
  refine awp_loopU (α := Unit) (fun x => []) (fun x => _) (fun x => True) (fun x => 0) () (by simp [go_sem]) rfl (trivial) ?_
  rintro ⟨⟩ -
  refine awp_seq ?_
  refine awp_reg_seq fun K hK => ?_
  simp [go_sem]
  repeat refine ⟨by omega, ?_⟩
  refine hK _ ?_; clear hK K
  refine awp_forget [0, 1, 2, 3, 8, 14] (by simp only [restr, List.contains_cons, List.contains_nil, Nat.reduceBEq, Bool.or_false, Bool.or_true, Bool.true_or, Bool.false_or, if_true, if_false, Bool.false_eq_true]; rfl) ?_
  refine awp_cond rfl (fun c0 => ?_) (fun c0 => ?_)
  · have d0 := c0; try simp at d0
  · have d0 := c0; try simp at d0
    refine awp_exit ?_
    simp [go_sem, Try.results72, c0, d0] <;> omega

theorem pdq0_cs (σ : List Blk) (τ : List Blk) (row : Nat → List D) (l : Int) : CSF Try.prog 70 [.ms σ.length 6 0 0, .d (I 0), .d (I 0), .d (I l), .clo (.func 65) [] []] (σ ++ .arr 6 0 row :: τ) (.tup []) := by
  refine CSF.of_body T.en70 Try.func70 rfl (by simp [Try.ntmps70]) (by simp [go_sem]) fun hwf => ?_
  refine awp_reg_seq fun K hK => ?_
  simp [go_sem, Try.ntmps70]
  repeat refine ⟨by omega, ?_⟩
  refine hK _ ?_; clear hK K
  refine awp_reg_seq fun K hK => ?_
  simp [go_sem]
  repeat refine ⟨by omega, ?_⟩
  refine hK _ ?_; clear hK K
  refine awp_block ?_
  refine awp_forget [0, 1, 2, 3, 4, 10, 11] (by simp [go_sem, restr]; rfl) ?_
  refine awp_loopU (α := Unit) (fun x => []) (fun x => _) (fun x => True) (fun x => 0) () (by simp [go_sem]) rfl (trivial) ?_
  rintro ⟨⟩ -
  refine awp_block ?_
  refine awp_reg_seq fun K hK => ?_
  simp [go_sem]
  try simp (disch := omega) only [wrapI]
  repeat refine ⟨by omega, ?_⟩
  refine hK _ ?_; clear hK K
  refine awp_seq ?_
  refine awp_reg_seq fun K hK => ?_
  simp [go_sem]
  repeat refine ⟨by omega, ?_⟩
  refine hK _ ?_; clear hK K
  refine awp_forget [0, 1, 2, 3, 4, 10, 11, 12, 25] (by simp only [restr, List.contains_cons, List.contains_nil, Nat.reduceBEq, Bool.or_false, Bool.or_true, Bool.true_or, Bool.false_or, if_true, if_false, Bool.false_eq_true]; rfl) ?_
  refine awp_cond rfl (fun c0 => ?_) (fun c0 => ?_)
  · have d0 := c0; try simp at d0
    refine awp_reg_seq fun K hK => ?_
    simp [go_sem, c0, d0]
    repeat refine ⟨by omega, ?_⟩
    refine CSk.mk (insert0_cs σ τ row) ?_
    simp [go_sem, c0, d0]
    repeat refine ⟨by omega, ?_⟩
    refine hK _ ?_; clear hK K
    refine awp_ret ?_
    simp [go_sem, Try.results70, c0, d0] <;> omega
  · have d0 := c0; try simp at d0

theorem sort0_cs (σ : List Blk) (τ : List Blk) (row : Nat → List D) : CSF Try.prog 64 [.ms σ.length 6 0 0, .clo (.func 65) [] []] (σ ++ .arr 6 0 row :: τ) (.tup []) := by
  refine CSF.of_body T.en64 Try.func64 rfl (by simp [Try.ntmps64]) (by simp [go_sem]) fun hwf => ?_
  refine awp_reg_seq fun K hK => ?_
  simp [go_sem, Try.ntmps64]
  repeat refine ⟨by omega, ?_⟩
  refine hK _ ?_; clear hK K
  refine awp_reg_end fun K hK => ?_
  simp [go_sem]
  repeat refine ⟨by omega, ?_⟩
  refine CSk.mk (bitsLen_cs _ 0 (by omega)) ?_
  simp [go_sem]
  repeat refine ⟨by omega, ?_⟩
  refine CSk.mk (pdq0_cs σ τ row _) ?_
  simp [go_sem]
  repeat refine ⟨by omega, ?_⟩
  refine hK _ ?_; clear hK K
  simp [go_sem, Try.results64] <;> omega

theorem sortRule_cs (σ τ : List Blk) (n : Nat) (g : Nat → Rule) (hf : ∀ i, i < n → formed (g i) = true) (hn : n < 1000000000) :
    CS Try.prog 64 [.ms σ.length 6 0 n, .clo (.func 65) [] []] (σ ++ .arr 6 n (fun i => Rule.enc (g i)) :: τ) (fun r σ' X => r = .tup [] ∧ X = [] ∧ ∃ (L : List Rule) (row : Nat → List D), L.Perm (lst n g) ∧ L.Pairwise (fun a b => a.In.From ≤ b.In.From) ∧ (∀ i, i < n → row i = Rule.enc (nth L i)) ∧ σ' = σ ++ .arr 6 n row :: τ) := by
  rcases Nat.eq_zero_or_pos n with h | h
  · subst h
    exact (sort0_cs σ τ _).cs ⟨rfl, rfl, [], _, by simp [lst], .nil, fun i hi => by omega, rfl⟩
  · refine (sortRule1_cs σ τ n g hf h hn).mono ?_
    rintro r σ' X ⟨h1, h2, L, h3, h4, h5⟩
    exact ⟨h1, h2, L, _, h3, h4, fun _ _ => rfl, h5⟩
theorem kept_formed {n : Nat} {g : Nat → Rule} {p : Rule → Bool} (hf : ∀ i, i < n → formed (g i) = true) {i : Nat} (hi : i < (kept p g n).length) : formed (nth (kept p g n) i) = true := by
  rw [nth_eq hi]
  have hm := List.getElem_mem hi
  generalize (kept p g n)[i] = y at hm
  unfold kept at hm
  have := (List.mem_filter.1 hm).1
  simp only [lst, List.mem_map, List.mem_range] at this
  obtain ⟨q, hq, he⟩ := this
  rw [← he]; exact hf q hq


def ownP (k : Int) (r : Rule) : Bool := r.Class != k
theorem closure_closing_cs (σ : List Blk) (c : Option Nat) (n : Nat) (g : Nat → Rule) (k : Int) (m : Dating) (hf : ∀ i, i < n → formed (g i) = true) (hn : n < 1000000000) : CS Try.prog 55 [.d (SL c 6 Rule.enc n g), .d (I k), .agg (m.enc.map .d)] σ (fun r σ' X => ∃ L : List Rule, L.Perm (kept (ownP k) g n) ∧ L.Pairwise (fun a b => a.In.From ≤ b.In.From) ∧ r = .clo (.func 66) [] [.ptr (σ.length + 3) 0, .ptr (σ.length + 1) 0] ∧ σ' = σ ++ [.var [.d (I k)], .var (m.enc.map .d), .arr 6 L.length (fun i => Rule.enc (nth L i)), .var [.ms (σ.length + 2) 6 0 L.length]] ∧ X = []) := by
  have hkl := kept_len (ownP k) g n
  refine CS.of_bodyW T.en55 Try.func55 rfl (by simp [Try.ntmps55]) fun hwf => ?_
  refine awp_reg_seq fun K hK => ?_
  simp [go_sem, Try.ntmps55]
  repeat refine ⟨by omega, ?_⟩
  refine hK _ ?_; clear hK K
  refine awp_reg_seq fun K hK => ?_
  simp [go_sem]
  repeat refine ⟨by omega, ?_⟩
  refine CSk.gen (cloneRuleM_cs _ c n g hn) ?_; rintro r σ' X ⟨rfl, rfl, rfl⟩
  simp [go_sem]
  repeat refine ⟨by omega, ?_⟩
  have hdel := deleteRule_cs (σ ++ [.var [.d (I k)], .var (m.enc.map .d)]) [] n g 63 [.ptr σ.length 0] (ownP k) hn (fun h r υ => by simpa [ownP] using closure_closing_1_cs σ (.var (m.enc.map .d) :: .arr 6 n (fun i => Rule.enc (h i)) :: υ) r k); simp only [List.append_assoc, List.cons_append, List.nil_append, List.length_append, List.length_cons, List.length_nil, Nat.zero_add, Nat.reduceAdd] at hdel; refine CSk.gen hdel ?_; rintro r σ' X ⟨rfl, rfl, rfl⟩
  simp [go_sem]
  repeat refine ⟨by omega, ?_⟩
  refine hK _ ?_; clear hK K
  refine awp_reg_seq fun K hK => ?_
  simp [go_sem]
  repeat refine ⟨by omega, ?_⟩
  have hso := sortRule_cs (σ ++ [.var [.d (I k)], .var (m.enc.map .d)]) [.var [.ms (σ.length + 2) 6 0 (kept (ownP k) g n).length]] (kept (ownP k) g n).length (nth (kept (ownP k) g n)) (fun i hi => kept_formed hf hi) (by omega); simp only [List.append_assoc, List.cons_append, List.nil_append, List.length_append, List.length_cons, List.length_nil, Nat.zero_add, Nat.reduceAdd] at hso; refine CSk.gen hso ?_; rintro r σ' X ⟨rfl, rfl, L, row, hp, hs, hrow, rfl⟩
  simp [go_sem]
  repeat refine ⟨by omega, ?_⟩
  refine hK _ ?_; clear hK K
  have hLl : L.length = (kept (ownP k) g n).length := by rw [hp.length_eq, lst_length]
  rw [lst_nth] at hp
  refine awp_rows (σ.length + 2) (fun i => Rule.enc (nth L i)) (by simp [go_sem]; first | exact ⟨rfl, rfl, rfl⟩ | exact ⟨rfl, rfl⟩ | rfl) (by exact hrow) (by simp [go_sem]; rfl) ?_
  refine awp_reg_seq fun K hK => ?_
  simp [go_sem]
  repeat refine ⟨by omega, ?_⟩
  refine hK _ ?_; clear hK K
  refine awp_ret ?_
  simp [go_sem, Try.results55]
  exact ⟨L, hp, hs, by simp [hLl]⟩

end Go.Proofs.Ytplpklikapkloaa
