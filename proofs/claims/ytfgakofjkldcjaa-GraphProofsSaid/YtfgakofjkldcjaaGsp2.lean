/- What a way costs, reckoned from its end, step by step. No program in sight. -/
import Derived.Test.YtfgakofjkldcjaaGsp
namespace Go.Gsp
set_option linter.unusedSimpArgs false
set_option linter.unusedVariables false
open Go.Osp
variable {a x am ex er : Int} {l : List (Int × Int)} {xs : List Edge} {j : Nat}
theorem drop_pred (xs : List Edge) (j : Nat) (h0 : 0 < j) (hj : j ≤ xs.length) : xs.drop (j - 1) = xs.getD (j - 1) noEdge :: xs.drop j := by
  rw [List.drop_eq_getElem_cons (by omega), show j - 1 + 1 = j by omega]
  simp [List.getD, show j - 1 < xs.length by omega]
theorem costF_err : ∀ (xs : List Edge) (j : Nat), costF a x (xs.drop j) = .error er → costF a x xs = .error er
  | _, 0, h => h
  | [], j + 1, h => by simpa using h
  | e :: xs, j + 1, h => by
    have := costF_err xs j (by simpa using h)
    simp [costF, this]
theorem costF_six (h0 : 0 < j) (hj : j ≤ xs.length) (h : costF a x (xs.drop j) = .ok (some (am, ex), l)) (h1 : ¬ inB am (xs.getD (j - 1) noEdge).pol.l (min (xs.getD (j - 1) noEdge).pol.m (xs.getD (j - 1) noEdge).r) = true) : costF a x xs = .error 6 := by
  refine costF_err xs (j - 1) ?_
  rw [drop_pred xs j h0 hj, costF, h]
  simp only [Bool.eq_false_iff.2 h1, if_true]
theorem costF_late (h0 : 0 < j) (hj : j ≤ xs.length) (h : costF a x (xs.drop j) = .ok (some (am, ex), l)) (h1 : inB am (xs.getD (j - 1) noEdge).pol.l (min (xs.getD (j - 1) noEdge).pol.m (xs.getD (j - 1) noEdge).r) = true) (h2 : 1048576 < ex) : costF a x xs = .error 16 := by
  refine costF_err xs (j - 1) ?_
  rw [drop_pred xs j h0 hj, costF, h]
  simp [-List.getD_eq_getElem?_getD, h1, h2]
theorem costF_step (h0 : 0 < j) (hj : j ≤ xs.length) (h : costF a x (xs.drop j) = .ok (some (am, ex), l)) (h1 : inB am (xs.getD (j - 1) noEdge).pol.l (min (xs.getD (j - 1) noEdge).pol.m (xs.getD (j - 1) noEdge).r) = true) (h2 : ¬ 1048576 < ex) :
    costF a x (xs.drop (j - 1)) = .ok (nextC (xs.getD (j - 1) noEdge) am ex, (am, ex) :: l) := by
  rw [drop_pred xs j h0 hj, costF, h]
  simp [-List.getD_eq_getElem?_getD, h1, h2]
theorem costF_none (h0 : 0 < j) (hj : j ≤ xs.length) (h : costF a x (xs.drop j) = .ok (none, l)) : costF a x xs = .error 6 := by
  refine costF_err xs (j - 1) ?_
  rw [drop_pred xs j h0 hj, costF, h]
theorem nextC_none {e : Edge} (h : ¬ (feeG e.pol am).2 = true ∨ ¬ (addC am (feeG e.pol am).1).2 = true) : nextC e am ex = none := by
  unfold nextC
  rw [if_neg]
  rw [Bool.and_eq_true]
  rintro ⟨h1, h2⟩
  rcases h with h | h <;> contradiction
theorem addC_val {a b : Int} (h : (addC a b).2 = true) : (addC a b).1 = a + b ∧ 0 ≤ a + b ∧ a + b ≤ 1125899906842624 := by
  unfold addC at *
  split at h
  · rename_i hc
    simp only [coinB, Bool.and_eq_true, decide_eq_true_eq] at hc
    have h1 := inB_T hc.1.1
    have h2 := inB_T hc.1.2
    exact ⟨by rw [if_pos (by simp [coinB, hc])], by omega, by omega⟩
  · cases h
theorem nextC_some {e : Edge} (h1 : (feeG e.pol am).2 = true) (h2 : (addC am (feeG e.pol am).1).2 = true) : nextC e am ex = some ((addC am (feeG e.pol am).1).1, ex + e.pol.d) := by
  unfold nextC
  rw [if_pos (by simp [h1, h2]), (addC_val h2).1]
theorem costG_way {xs : List Edge} {a x : Int} (h : ¬ wayG xs = true) : costG xs a x = ([], [], 19) := by unfold costG; rw [if_pos (by simpa using h)]
theorem costG_arg {xs : List Edge} {a x : Int} (h : wayG xs = true) (h1 : ¬ inB a 1 1125899906842624 = true ∨ ¬ inB x 1 1048576 = true) : costG xs a x = ([], [], 1) := by
  unfold costG
  rw [if_neg (by simp [h]), if_pos (by simpa using h1)]
theorem costG_er {xs : List Edge} {a x er : Int} (h : wayG xs = true) (h1 : inB a 1 1125899906842624 = true) (h2 : inB x 1 1048576 = true) (h3 : costF a x xs = .error er) : costG xs a x = ([], [], er) := by
  unfold costG
  rw [if_neg (by simp [h]), if_neg (by simp [h1, h2]), h3]
theorem costG_ok {xs : List Edge} {a x : Int} {nx : Option (Int × Int)} {l : List (Int × Int)} (h : wayG xs = true) (h1 : inB a 1 1125899906842624 = true) (h2 : inB x 1 1048576 = true) (h3 : costF a x xs = .ok (nx, l)) : costG xs a x = (l.map Prod.fst, l.map Prod.snd, 0) := by
  unfold costG
  rw [if_neg (by simp [h]), if_neg (by simp [h1, h2]), h3]
theorem rep_set (l : List Int) (v : Int) (j : Nat) (h : 0 < j) : (List.replicate j 0 ++ l).set (j - 1) v = List.replicate (j - 1) 0 ++ v :: l := by
  rw [List.set_append_left _ _ (by simp; omega)]
  obtain ⟨k, rfl⟩ : ∃ k, j = k + 1 := ⟨j - 1, by omega⟩
  rw [Nat.add_sub_cancel, List.replicate_succ', List.set_append_right _ _ (by simp)]
  simp
theorem polI_ok {p : Pol} (h : polOk p = true) : PolI p := by
  have := polOk_T h
  refine ⟨⟨?_, ?_⟩, ⟨?_, ?_⟩, ⟨?_, ?_⟩, ⟨?_, ?_⟩, ⟨?_, ?_⟩⟩ <;> omega
theorem costF_len : ∀ (w : List Edge) (n : Option (Int × Int)) (l : List (Int × Int)), costF a x w = .ok (n, l) → l.length = w.length
  | [], n, l, h => by simp [costF] at h; rw [h.2]; rfl
  | e :: t, n, l, h => by
    rw [costF] at h
    split at h
    · cases h
    · cases h
    · rename_i a1 x1 l1 heq
      have ih := costF_len t _ _ heq
      split at h
      · cases h
      · split at h
        · cases h
        · injection h with h
          injection h with _ h
          rw [← h, List.length_cons, List.length_cons, ih]
/-- Where there is no error a way is a way, and each of its edges costs something. -/
theorem costG_inv {w : List Edge} {a x : Int} (h : (costG w a x).2.2 = 0) : wayG w = true ∧ inB a 1 1125899906842624 = true ∧ inB x 1 1048576 = true ∧ ∃ nx l, costF a x w = .ok (nx, l) ∧ costG w a x = (l.map Prod.fst, l.map Prod.snd, 0) ∧ l.length = w.length := by
  by_cases h1 : wayG w = true
  · by_cases h2 : inB a 1 1125899906842624 = true
    · by_cases h3 : inB x 1 1048576 = true
      · refine ⟨h1, h2, h3, ?_⟩
        cases hf : costF a x w with
        | error er =>
          have he := costG_er h1 h2 h3 hf
          rw [he] at h
          have hne : ∀ (w : List Edge) (er : Int), costF a x w = .error er → er = 6 ∨ er = 16 := by
            intro w
            induction w with
            | nil => intro er h; simp [costF] at h
            | cons e t ih =>
              intro er h
              rw [costF] at h
              split at h
              · rename_i heq; injection h with h; exact ih er (by rw [heq, h])
              · injection h with h; exact .inl h.symm
              · split at h
                · injection h with h; exact .inl h.symm
                · split at h
                  · injection h with h; exact .inr h.symm
                  · cases h
          have := hne w er hf
          simp at h
          omega
        | ok p => obtain ⟨nx, l⟩ := p; exact ⟨nx, l, rfl, costG_ok h1 h2 h3 hf, costF_len w nx l hf⟩
      · rw [costG_arg h1 (.inr h3)] at h; simp at h
    · rw [costG_arg h1 (.inl h2)] at h; simp at h
  · rw [costG_way h1] at h; simp at h
theorem costG_lens {w : List Edge} {a x : Int} (h : (costG w a x).2.2 = 0) : (costG w a x).1.length = w.length ∧ (costG w a x).2.1.length = w.length := by
  obtain ⟨_, _, _, nx, l, _, h2, h3⟩ := costG_inv h
  rw [h2]; simp [h3]
theorem wayG_at {xs : List Edge} (h : wayG xs = true) {i : Nat} (hi : i < xs.length) : WayAt xs i := (of_decide_eq_true h : WayP xs).2 i hi
theorem wayG_len {xs : List Edge} (h : wayG xs = true) : 1 ≤ xs.length ∧ xs.length ≤ 8 := (of_decide_eq_true h : WayP xs).1
end Go.Gsp
