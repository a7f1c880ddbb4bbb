/- Contract of spans: a range over closing. -/
import Derived.Test.YtplpklikapkloaaBk
import Derived.Test.YtplpklikapkloaaBm
namespace Go.Proofs.Ytplpklikapkloaa
open Go.Abs Go.Arch
set_option linter.unusedVariables false
set_option linter.unusedSimpArgs false
set_option maxRecDepth 100000
set_option maxHeartbeats 400000

theorem spansOf_snoc (m : Dating) (L : List Rule) (i : Nat) (h : i < L.length) (S : List Span) : spansOf m (L.take (i + 1)) S = addSpan (spansOf m (L.take i) S) (clSpan m (nth L i)) := by
  rw [List.take_succ_eq_append_getElem h, nth_eq h]
  unfold spansOf
  rw [List.foldl_append]; rfl

theorem spansOf_len (m : Dating) : ∀ (L : List Rule) (S : List Span), (spansOf m L S).length ≤ S.length + L.length
  | [], S => by simp [spansOf]
  | r :: L, S => by
    have := spansOf_len m L (addSpan S (clSpan m r))
    have := addSpan_len S (clSpan m r)
    simp only [spansOf, List.foldl_cons, List.length_cons] at *
    omega

theorem awp_rangeL {P : Program} {Q : Exit → St → Prop} {s : St} {g : Operand} {ps : Array Tmp} {assign body : Code} {fid : FuncId} {first captured : List AV} (hg : val s g = some (.clo (.func fid) first captured)) (t' : List (Nat × AV)) (ht : subT t' s.t)
    (h : ∀ La : LoopA, La = ⟨s.N, t', ps, assign, body⟩ → CS P fid (first ++ (.yld s.σ.length :: captured)) (s.σ ++ [.lp La .ready none]) fun r σ' X => ∃ σ'' L' st pd, σ' = σ'' ++ [.lp L' st pd] ∧ Abs.Leaves s.σ σ'' ∧ st ≠ .busy ∧ mvNot s.σ.length X ∧ jumpQ Q (s.after σ'' X) pd) :
    AWP P (.rangeFunc g ps assign body) Q s := awp_range hg t' ht (h _ rfl)

theorem closure_spans_cs (σ : List Blk) (c : Option Nat) (n : Nat) (g : Nat → Rule) (k : Int) (m : Dating) (h0 : check n g = 0) : CSF Try.prog 44 [.d (SL c 6 Rule.enc n g), .d (I k), .agg (m.enc.map .d)] σ (.d (SL none 2 Span.enc (refSpans n g k m).length (nth (refSpans n g k m)))) := by
  have hn : n ≤ 64 := (check_zero h0).1
  have hf : ∀ i, i < n → formed (g i) = true := fun i hi => ((check_zero h0).2 i hi).1
  refine CSF.of_body T.en44 Try.func44 rfl (by simp [Try.ntmps44]) (by simp [go_sem]) fun hwf => ?_
  refine awp_reg_seq fun K hK => ?_
  simp [go_sem, Try.ntmps44]
  refine hK _ ?_; clear hK K
  refine awp_reg_seq fun K hK => ?_
  simp [go_sem]
  refine hK _ ?_; clear hK K
  refine awp_thawV (σ.length + 1) 2 (fun i => Span.enc (nth ([] : List Span) i)) (by simp [go_sem]) (by simp [go_sem]; rfl) ?_
  refine awp_seq ?_
  refine awp_reg_seq fun K hK => ?_
  simp [go_sem]
  have hcl := closure_closing_cs (σ ++ [.var (m.enc.map .d), .var [.ms (σ.length + 2) 2 0 0], .arr 2 0 (fun i => Span.enc (nth ([] : List Span) i))]) c n g k m hf (by omega)
  simp only [List.append_assoc, List.cons_append, List.nil_append, List.length_append, List.length_cons, List.length_nil, Nat.zero_add, Nat.reduceAdd] at hcl
  refine CSk.gen hcl ?_
  rintro r σ' X ⟨L, hp, hs, rfl, rfl, rfl⟩
  simp [go_sem]
  refine hK _ ?_; clear hK K
  refine awp_block ?_
  refine awp_rangeL rfl [(7, .ptr (σ.length + 1) 0)] (by simp [go_sem]) ?_
  intro La hLa
  have hll : L.length ≤ n := by rw [hp.length_eq]; exact kept_len _ _ _
  have hR : Rounds (fun i => σ ++ [.var (m.enc.map .d), .var [.ms (σ.length + 2) 2 0 (spansOf m (L.take i) []).length], .arr 2 (spansOf m (L.take i) []).length (fun q => Span.enc (nth (spansOf m (L.take i) []) q)), .var [.d (I k)], .var (m.enc.map .d), .arr 6 L.length (fun i => Rule.enc (nth L i)), .var [.ms (σ.length + 5) 6 0 L.length], .lp La .ready none]) L m (σ.length + 7) (σ.length + 6) (σ.length + 4) (σ.length + 5) (σ.length + 2) := by
    refine ⟨fun i υ => by simp [go_sem], fun i => by simp [go_sem], fun i => by simp [go_sem], fun i => by simp [go_sem], fun i υ => by simp [go_sem], fun i υ => by simp [go_sem], fun i => leaves_app (by simp [go_sem]), fun i => leaves_app (by simp [go_sem]), fun i => by simp, fun i => by simp, by omega, by omega, by omega, by omega, ?_, ?_⟩
    · intro i hi hlt υ hυ
      have hT := spansOf_snoc m L i hi []
      have hTl := spansOf_len m (L.take i) []
      have hTl' : (spansOf m (L.take i) []).length ≤ 64 := by
        simp only [List.length_take, List.length_nil] at hTl; omega
      generalize spansOf m (L.take i) [] = W at hT hTl hTl' ⊢
      generalize clSpan m (nth L i) = s at hT hlt ⊢
      refine YS.of_awp (L := La) (pd := none) (by simp [go_sem]) (by rw [hLa]; rfl) ?_
      intro hwf'
      have eN := congrArg LoopA.N hLa
      have et := congrArg LoopA.t hLa
      have ep := congrArg LoopA.ps hLa
      have ea := congrArg LoopA.assign hLa
      have eb := congrArg LoopA.body hLa
      dsimp only at eN et ep ea eb
      have h1 : scrub' [σ.length + 2] La.t = La.t := by rw [et]; simp [scrub', AV.avoids]
      rw [eN, et, ep, ea, eb]
      clear eN et ep ea eb hLa hcl
      refine awp_reg_end fun K hK => ?_
      simp [go_sem, St.putL]
      refine hK _ ?_; clear hK K
      simp [begunQ, go_sem, mvNot]
      refine awp_block ?_
      refine awp_seq ?_
      refine awp_reg_seq fun K hK => ?_
      simp [go_sem]
      refine hK _ ?_; clear hK K
      refine awp_draw_seq 13 T.mixed (by kernel_rfl) fun K hK => ?_
      simp [go_sem]
      try simp (disch := omega) only [wrapI]
      repeat refine ⟨by omega, ?_⟩
      refine hK _ ?_; clear hK K
      refine awp_forget [7, 8, 9, 29] (by simp only [restr, List.contains_cons, List.contains_nil, Nat.reduceBEq, Bool.or_false, Bool.or_true, Bool.true_or, Bool.false_or, if_true, if_false, Bool.false_eq_true]; rfl) ?_
      refine awp_cond rfl (fun c4 => ?_) (fun c4 => ?_)
      · have d4 := c4; try simp at d4
        have ha : addSpan W s = W.set (W.length - 1) ⟨(nth W (W.length - 1)).From, s.Until⟩ := by
          unfold addSpan; rw [if_pos hlt, if_pos (show joins W s from d4)]
        rw [hT, ha]
        refine awp_reg_seq fun K hK => ?_
        simp [go_sem, c4, d4]
        try simp (disch := omega) only [wrapI]
        repeat refine ⟨by omega, ?_⟩
        refine hK _ ?_; clear hK K
        refine awp_rows (σ.length + 2) (fun i => Span.enc (nth (W.set (W.length - 1) ⟨(nth W (W.length - 1)).From, s.Until⟩) i)) (by simp [go_sem]; first | exact ⟨rfl, rfl, rfl⟩ | exact ⟨rfl, rfl⟩ | rfl) (by exact fun i hi => set_nth (enc := Span.enc) (x := ⟨(nth W (W.length - 1)).From, s.Until⟩) rfl hi) (by simp [go_sem]; rfl) ?_
        refine awp_exit ?_
        simp [go_sem, roundQ, jumpOf, mvNot, mvIn]
        exact leaves_app (by simp [go_sem, leavesL_refl])
      · have d4 := c4; try simp at d4
        have ha : addSpan W s = W ++ [s] := by
          unfold addSpan; rw [if_pos hlt, if_neg (by
            unfold joins; rintro ⟨h1, h2⟩; exact d4 h1 h2)]
        rw [hT, ha]
        refine awp_skip ?_
        refine awp_post ?_
        refine awp_reg_end fun K hK => ?_
        simp [go_sem, c4, d4, hwf.one, hwf.zero, hυ, h1]
        repeat refine ⟨by omega, ?_⟩
        refine hK _ ?_; clear hK K
        refine ⟨_, sub_rows (σ.length + 2) (fun i => Span.enc (nth (W ++ [s]) i)) (by simp [go_sem]; first | exact ⟨rfl, rfl, rfl⟩ | exact ⟨rfl, rfl⟩ | rfl) (by exact fun i hi => cat_nth (enc := Span.enc) (x := s) rfl hi) (by simp [go_sem]; rfl), ?_⟩
        simp [go_sem, roundQ, jumpOf, mvNot, mvIn]
        exact leaves_app (by simp [go_sem, leavesL_refl])
    · intro i hi hlt
      have hT := spansOf_snoc m L i hi []
      have : addSpan (spansOf m (L.take i) []) (clSpan m (nth L i)) = spansOf m (L.take i) [] := by unfold addSpan; rw [if_neg hlt]
      simp only [hT, this]
  have h3 := closure_closing_3_cs σ _ L m _ _ _ _ _ hR (by omega)
  refine CS.mono (Q := fun r σ' X' => X' = [σ.length + 2] ∧ r = .tup [] ∧ σ' = _) (by simpa [go_sem, spansOf] using h3) ?_
  rintro r σ' X ⟨rfl, rfl, rfl⟩
  have he : List.foldl (fun S r => addSpan S (clSpan m r)) [] L = refSpans n g k m := spans_eq h0 m hp hs
  rw [he]
  clear h3 hR hLa hcl
  refine ⟨σ ++ [.var [.d (I m.First), .d (I m.Last)], .var [.ms (σ.length + 2) 2 0 (refSpans n g k m).length], .arr 2 (refSpans n g k m).length (fun q => [I (nth (refSpans n g k m) q).From, I (nth (refSpans n g k m) q).Until]), .var [.d (I k)], .var [.d (I m.First), .d (I m.Last)], .arr 6 L.length (fun i => [I (nth L i).ID, I (nth L i).Class, I (nth L i).Years, B (nth L i).YearEnd, I (nth L i).In.From, I (nth L i).In.Until]), .var [.ms (σ.length + 5) 6 0 L.length]], La, .ready, none, by simp, leaves_app (by simp [go_sem]), by simp, by simp [mvNot], ?_⟩
  simp [jumpQ, go_sem, scrub', AV.avoids, avoidsL]
  refine awp_reg_seq fun K hK => ?_
  simp [go_sem]
  refine hK _ ?_; clear hK K
  refine awp_freeze (σ.length + 2) (by simp [go_sem]; first | exact ⟨rfl, rfl, rfl⟩ | exact ⟨rfl, rfl⟩ | rfl) (by simp [go_sem]; rfl) (by simp [go_sem, hwf.frz, hwf.frz0]; rfl) ?_
  refine awp_ret ?_
  simp [go_sem, Try.results44]

end Go.Proofs.Ytplpklikapkloaa
