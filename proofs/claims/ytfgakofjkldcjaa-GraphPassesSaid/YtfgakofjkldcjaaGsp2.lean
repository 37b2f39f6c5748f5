/- What a way costs, reckoned from its end, step by step; edges in order; the ends of a way; what may be passed on. No program in sight. -/
import Derived.Test.YtfgakofjkldcjaaGsp
namespace Go.Gsp
set_option linter.unusedSimpArgs false
set_option linter.unusedVariables false
open Go.Osp
variable {a x am ex er : Int} {l : List (Int × Int)} {xs : List Edge} {j : Nat}
theorem drop_pred (xs : List Edge) (j : Nat) (h0 : 0 < j) (hj : j ≤ xs.length) : xs.drop (j - 1) = xs.getD (j - 1) noEdge :: xs.drop j := by
  rw [List.drop_eq_getElem_cons (by omega), show j - 1 + 1 = j by omega]
  simp [List.getD, show j - 1 < xs.length by omega]
theorem costF_err : ∀ (xs : List Edge) (j : Nat), costF a x (xs.drop j) = .error er → costF a x xs = .error er
  | _, 0, h => h
  | [], j + 1, h => by simpa using h
  | e :: xs, j + 1, h => by
    have := costF_err xs j (by simpa using h)
    simp [costF, this]
theorem costF_six (h0 : 0 < j) (hj : j ≤ xs.length) (h : costF a x (xs.drop j) = .ok (some (am, ex), l)) (h1 : ¬ inB am (xs.getD (j - 1) noEdge).pol.l (min (xs.getD (j - 1) noEdge).pol.m (xs.getD (j - 1) noEdge).r) = true) : costF a x xs = .error 6 := by
  refine costF_err xs (j - 1) ?_
  rw [drop_pred xs j h0 hj, costF, h]
  simp only [Bool.eq_false_iff.2 h1, if_true]
theorem costF_late (h0 : 0 < j) (hj : j ≤ xs.length) (h : costF a x (xs.drop j) = .ok (some (am, ex), l)) (h1 : inB am (xs.getD (j - 1) noEdge).pol.l (min (xs.getD (j - 1) noEdge).pol.m (xs.getD (j - 1) noEdge).r) = true) (h2 : 1048576 < ex) : costF a x xs = .error 16 := by
  refine costF_err xs (j - 1) ?_
  rw [drop_pred xs j h0 hj, costF, h]
  simp [-List.getD_eq_getElem?_getD, h1, h2]
theorem costF_step (h0 : 0 < j) (hj : j ≤ xs.length) (h : costF a x (xs.drop j) = .ok (some (am, ex), l)) (h1 : inB am (xs.getD (j - 1) noEdge).pol.l (min (xs.getD (j - 1) noEdge).pol.m (xs.getD (j - 1) noEdge).r) = true) (h2 : ¬ 1048576 < ex) :
    costF a x (xs.drop (j - 1)) = .ok (nextC (xs.getD (j - 1) noEdge) am ex, (am, ex) :: l) := by
  rw [drop_pred xs j h0 hj, costF, h]
  simp [-List.getD_eq_getElem?_getD, h1, h2]
theorem costF_none (h0 : 0 < j) (hj : j ≤ xs.length) (h : costF a x (xs.drop j) = .ok (none, l)) : costF a x xs = .error 6 := by
  refine costF_err xs (j - 1) ?_
  rw [drop_pred xs j h0 hj, costF, h]
theorem nextC_none {e : Edge} (h : ¬ (feeG e.pol am).2 = true ∨ ¬ (addC am (feeG e.pol am).1).2 = true) : nextC e am ex = none := by
  unfold nextC
  rw [if_neg]
  rw [Bool.and_eq_true]
  rintro ⟨h1, h2⟩
  rcases h with h | h <;> contradiction
theorem addC_val {a b : Int} (h : (addC a b).2 = true) : (addC a b).1 = a + b ∧ 0 ≤ a + b ∧ a + b ≤ 1125899906842624 := by
  unfold addC at *
  split at h
  · rename_i hc
    simp only [coinB, Bool.and_eq_true, decide_eq_true_eq] at hc
    have h1 := inB_T hc.1.1
    have h2 := inB_T hc.1.2
    exact ⟨by rw [if_pos (by simp [coinB, hc])], by omega, by omega⟩
  · cases h
theorem nextC_some {e : Edge} (h1 : (feeG e.pol am).2 = true) (h2 : (addC am (feeG e.pol am).1).2 = true) : nextC e am ex = some ((addC am (feeG e.pol am).1).1, ex + e.pol.d) := by
  unfold nextC
  rw [if_pos (by simp [h1, h2]), (addC_val h2).1]
theorem costG_way {xs : List Edge} {a x : Int} (h : ¬ wayG xs = true) : costG xs a x = ([], [], 19) := by unfold costG; rw [if_pos (by simpa using h)]
theorem costG_arg {xs : List Edge} {a x : Int} (h : wayG xs = true) (h1 : ¬ inB a 1 1125899906842624 = true ∨ ¬ inB x 1 1048576 = true) : costG xs a x = ([], [], 1) := by
  unfold costG
  rw [if_neg (by simp [h]), if_pos (by simpa using h1)]
theorem costG_er {xs : List Edge} {a x er : Int} (h : wayG xs = true) (h1 : inB a 1 1125899906842624 = true) (h2 : inB x 1 1048576 = true) (h3 : costF a x xs = .error er) : costG xs a x = ([], [], er) := by
  unfold costG
  rw [if_neg (by simp [h]), if_neg (by simp [h1, h2]), h3]
theorem costG_ok {xs : List Edge} {a x : Int} {nx : Option (Int × Int)} {l : List (Int × Int)} (h : wayG xs = true) (h1 : inB a 1 1125899906842624 = true) (h2 : inB x 1 1048576 = true) (h3 : costF a x xs = .ok (nx, l)) : costG xs a x = (l.map Prod.fst, l.map Prod.snd, 0) := by
  unfold costG
  rw [if_neg (by simp [h]), if_neg (by simp [h1, h2]), h3]
theorem rep_set (l : List Int) (v : Int) (j : Nat) (h : 0 < j) : (List.replicate j 0 ++ l).set (j - 1) v = List.replicate (j - 1) 0 ++ v :: l := by
  rw [List.set_append_left _ _ (by simp; omega)]
  obtain ⟨k, rfl⟩ : ∃ k, j = k + 1 := ⟨j - 1, by omega⟩
  rw [Nat.add_sub_cancel, List.replicate_succ', List.set_append_right _ _ (by simp)]
  simp
theorem polI_ok {p : Pol} (h : polOk p = true) : PolI p := by
  have := polOk_T h
  refine ⟨⟨?_, ?_⟩, ⟨?_, ?_⟩, ⟨?_, ?_⟩, ⟨?_, ?_⟩, ⟨?_, ?_⟩⟩ <;> omega
theorem costF_len : ∀ (w : List Edge) (n : Option (Int × Int)) (l : List (Int × Int)), costF a x w = .ok (n, l) → l.length = w.length
  | [], n, l, h => by simp [costF] at h; rw [h.2]; rfl
  | e :: t, n, l, h => by
    rw [costF] at h
    split at h
    · cases h
    · cases h
    · rename_i a1 x1 l1 heq
      have ih := costF_len t _ _ heq
      split at h
      · cases h
      · split at h
        · cases h
        · injection h with h
          injection h with _ h
          rw [← h, List.length_cons, List.length_cons, ih]
/-- Where there is no error a way is a way, and each of its edges costs something. -/
theorem costG_inv {w : List Edge} {a x : Int} (h : (costG w a x).2.2 = 0) : wayG w = true ∧ inB a 1 1125899906842624 = true ∧ inB x 1 1048576 = true ∧ ∃ nx l, costF a x w = .ok (nx, l) ∧ costG w a x = (l.map Prod.fst, l.map Prod.snd, 0) ∧ l.length = w.length := by
  by_cases h1 : wayG w = true
  · by_cases h2 : inB a 1 1125899906842624 = true
    · by_cases h3 : inB x 1 1048576 = true
      · refine ⟨h1, h2, h3, ?_⟩
        cases hf : costF a x w with
        | error er =>
          have he := costG_er h1 h2 h3 hf
          rw [he] at h
          have hne : ∀ (w : List Edge) (er : Int), costF a x w = .error er → er = 6 ∨ er = 16 := by
            intro w
            induction w with
            | nil => intro er h; simp [costF] at h
            | cons e t ih =>
              intro er h
              rw [costF] at h
              split at h
              · rename_i heq; injection h with h; exact ih er (by rw [heq, h])
              · injection h with h; exact .inl h.symm
              · split at h
                · injection h with h; exact .inl h.symm
                · split at h
                  · injection h with h; exact .inr h.symm
                  · cases h
          have := hne w er hf
          simp at h
          omega
        | ok p => obtain ⟨nx, l⟩ := p; exact ⟨nx, l, rfl, costG_ok h1 h2 h3 hf, costF_len w nx l hf⟩
      · rw [costG_arg h1 (.inr h3)] at h; simp at h
    · rw [costG_arg h1 (.inl h2)] at h; simp at h
  · rw [costG_way h1] at h; simp at h
theorem costG_lens {w : List Edge} {a x : Int} (h : (costG w a x).2.2 = 0) : (costG w a x).1.length = w.length ∧ (costG w a x).2.1.length = w.length := by
  obtain ⟨_, _, _, nx, l, _, h2, h3⟩ := costG_inv h
  rw [h2]; simp [h3]
theorem wayG_at {xs : List Edge} (h : wayG xs = true) {i : Nat} (hi : i < xs.length) : WayAt xs i := (of_decide_eq_true h : WayP xs).2 i hi
theorem wayG_len {xs : List Edge} (h : wayG xs = true) : 1 ≤ xs.length ∧ xs.length ≤ 8 := (of_decide_eq_true h : WayP xs).1
end Go.Gsp
namespace Go.Gsp
set_option linter.unusedSimpArgs false
set_option linter.unusedVariables false
/-- The edge at j goes down as long as it stands ahead of the one below it, but not below a. -/
def bub (a : Nat) : Nat → List Edge → List Edge
  | 0, xs => xs
  | j + 1, xs => if a < j + 1 ∧ ordE (xs.getD (j + 1) noEdge) (xs.getD j noEdge) < 0 then bub a j ((xs.set (j + 1) (xs.getD j noEdge)).set j (xs.getD (j + 1) noEdge)) else xs
/-- From i on. -/
def isoC (a b i : Nat) (xs : List Edge) : List Edge := (List.range' i (b - i)).foldl (fun l i => bub a i l) xs
def isort (a b : Nat) (xs : List Edge) : List Edge := isoC a b (a + 1) xs
theorem isoC_end {a b i : Nat} {xs : List Edge} (h : b ≤ i) : isoC a b i xs = xs := by unfold isoC; rw [show b - i = 0 by omega]; rfl
theorem isoC_step {a b i : Nat} {xs : List Edge} (h : i < b) : isoC a b i xs = isoC a b (i + 1) (bub a i xs) := by
  unfold isoC
  rw [show b - i = (b - (i + 1)) + 1 by omega, List.range'_succ]
  rfl
theorem bub_stop {a j : Nat} {xs : List Edge} (h : ¬ (a < j ∧ ordE (xs.getD j noEdge) (xs.getD (j - 1) noEdge) < 0)) : bub a j xs = xs := by
  cases j with
  | zero => rfl
  | succ j => rw [bub, if_neg (by simpa using h)]
theorem bub_down {a j : Nat} {xs : List Edge} (h : a < j) (h2 : ordE (xs.getD j noEdge) (xs.getD (j - 1) noEdge) < 0) : bub a j xs = bub a (j - 1) ((xs.set j (xs.getD (j - 1) noEdge)).set (j - 1) (xs.getD j noEdge)) := by
  cases j with
  | zero => omega
  | succ j => rw [bub, if_pos ⟨h, by simpa using h2⟩]; simp
theorem bub_length (a : Nat) : ∀ (j : Nat) (xs : List Edge), (bub a j xs).length = xs.length
  | 0, _ => rfl
  | j + 1, xs => by
    rw [bub]
    split
    · rw [bub_length a j]; simp
    · rfl
theorem isoC_length (a b : Nat) (k : Nat) : ∀ (i : Nat) (xs : List Edge), b - i = k → (isoC a b i xs).length = xs.length := by
  induction k with
  | zero => intro i xs h; rw [isoC_end (by omega)]
  | succ k ih => intro i xs h; rw [isoC_step (by omega), ih _ _ (by omega), bub_length]
theorem isort_length (a b : Nat) (xs : List Edge) : (isort a b xs).length = xs.length := isoC_length a b _ _ _ rfl
end Go.Gsp
namespace Go.Gsp
set_option linter.unusedSimpArgs false
set_option linter.unusedVariables false
variable {a x : Int}
theorem costF_at : ∀ (xs : List Edge) (nx : Option (Int × Int)) (l : List (Int × Int)), costF a x xs = .ok (nx, l) →
    (∀ i, i < xs.length → inB (l.getD i (0, 0)).1 (xs.getD i noEdge).pol.l (min (xs.getD i noEdge).pol.m (xs.getD i noEdge).r) = true ∧ ¬ 1048576 < (l.getD i (0, 0)).2) ∧
    (∀ i, i + 1 < xs.length → nextC (xs.getD (i + 1) noEdge) (l.getD (i + 1) (0, 0)).1 (l.getD (i + 1) (0, 0)).2 = some (l.getD i (0, 0))) ∧
    (0 < xs.length → l.getD (xs.length - 1) (0, 0) = (a, x)) ∧ nx = (if xs.length = 0 then some (a, x) else nextC (xs.getD 0 noEdge) (l.getD 0 (0, 0)).1 (l.getD 0 (0, 0)).2)
  | [], nx, l, h => by
    simp [costF] at h
    obtain ⟨rfl, rfl⟩ := h
    exact ⟨fun i hi => absurd hi (Nat.not_lt_zero _), fun i hi => absurd hi (Nat.not_lt_zero _), fun h => absurd h (Nat.lt_irrefl _), rfl⟩
  | e :: t, nx, l, h => by
    rw [costF] at h
    split at h
    · cases h
    · cases h
    · rename_i a1 x1 l1 heq
      obtain ⟨h1, h2, h3, h4⟩ := costF_at t _ _ heq
      split at h
      · cases h
      · rename_i hin
        split at h
        · cases h
        · rename_i hx
          injection h with h
          injection h with hn hl
          subst hl
          refine ⟨?_, ?_, ?_, ?_⟩
          · intro i hi
            cases i with
            | zero => exact ⟨by simpa using hin, hx⟩
            | succ i => have := h1 i (by simpa using hi); simpa using this
          · intro i hi
            cases i with
            | zero =>
              have ht : 0 < t.length := by simpa using hi
              rw [if_neg (by omega)] at h4
              simp only [List.getD_cons_succ, List.getD_cons_zero] at *
              rw [← h4]
            | succ i => have := h2 i (by simpa using hi); simpa using this
          · intro _
            cases t with
            | nil => simp at h4; obtain ⟨rfl, rfl⟩ := h4; rfl
            | cons e2 t2 => have := h3 (by simp); simpa using this
          · rw [if_neg (by simp)]; exact hn.symm
theorem nextC_inv {e : Edge} {am ex : Int} {p : Int × Int} (h : nextC e am ex = some p) : (feeG e.pol am).2 = true ∧ (addC am (feeG e.pol am).1).2 = true ∧ p = (am + (feeG e.pol am).1, ex + e.pol.d) := by
  unfold nextC at h
  split at h
  · rename_i hc
    rw [Bool.and_eq_true] at hc
    injection h with h
    exact ⟨hc.1, hc.2, h.symm⟩
  · cases h
structure Costs (w : List Edge) (a x : Int) (S T : List Int) : Prop where
  way : wayG w = true
  amt : 1 ≤ a ∧ a ≤ 1125899906842624
  exp : 1 ≤ x ∧ x ≤ 1048576
  lenS : S.length = w.length
  lenT : T.length = w.length
  len : 1 ≤ w.length ∧ w.length ≤ 8
  room : ∀ i, i < w.length → ((w.getD i noEdge).pol.l ≤ S.getD i 0 ∧ S.getD i 0 ≤ (w.getD i noEdge).pol.m ∧ S.getD i 0 ≤ (w.getD i noEdge).r) ∧ T.getD i 0 ≤ 1048576
  endS : S.getD (w.length - 1) 0 = a
  endT : T.getD (w.length - 1) 0 = x
  step : ∀ i, i + 1 < w.length → (feeG (w.getD (i + 1) noEdge).pol (S.getD (i + 1) 0)).2 = true ∧ (addC (S.getD (i + 1) 0) (feeG (w.getD (i + 1) noEdge).pol (S.getD (i + 1) 0)).1).2 = true ∧ S.getD i 0 = S.getD (i + 1) 0 + (feeG (w.getD (i + 1) noEdge).pol (S.getD (i + 1) 0)).1 ∧ T.getD i 0 = T.getD (i + 1) 0 + (w.getD (i + 1) noEdge).pol.d
theorem map_getD {α β : Type} (f : α → β) (l : List α) (i : Nat) (z : α) : (l.map f).getD i (f z) = f (l.getD i z) := by
  simp only [List.getD, List.getElem?_map]
  cases l[i]? <;> rfl
theorem costs_of {w : List Edge} (h : (costG w a x).2.2 = 0) : Costs w a x (costG w a x).1 (costG w a x).2.1 := by
  obtain ⟨hw, ha, hx, nx, l, hF, hC, hl⟩ := costG_inv h
  obtain ⟨h1, h2, h3, h4⟩ := costF_at w nx l hF
  have hwl := wayG_len hw
  rw [hC]
  have e1 : ∀ i, (l.map Prod.fst).getD i 0 = (l.getD i (0, 0)).1 := fun i => map_getD Prod.fst l i (0, 0)
  have e2 : ∀ i, (l.map Prod.snd).getD i 0 = (l.getD i (0, 0)).2 := fun i => map_getD Prod.snd l i (0, 0)
  refine ⟨hw, inB_T ha, inB_T hx, by simp [hl], by simp [hl], hwl, ?_, ?_, ?_, ?_⟩
  · intro i hi
    obtain ⟨q1, q2⟩ := h1 i hi
    have := inB_T q1
    show (_ ≤ (l.map Prod.fst).getD i 0 ∧ (l.map Prod.fst).getD i 0 ≤ _ ∧ (l.map Prod.fst).getD i 0 ≤ _) ∧ (l.map Prod.snd).getD i 0 ≤ _
    rw [e1, e2]
    omega
  · show (l.map Prod.fst).getD _ 0 = a
    rw [e1, h3 (by omega)]
  · show (l.map Prod.snd).getD _ 0 = x
    rw [e2, h3 (by omega)]
  · intro i hi
    obtain ⟨q1, q2, q3⟩ := nextC_inv (h2 i hi)
    show (feeG _ ((l.map Prod.fst).getD _ 0)).2 = true ∧ (addC ((l.map Prod.fst).getD _ 0) (feeG _ ((l.map Prod.fst).getD _ 0)).1).2 = true ∧ (l.map Prod.fst).getD _ 0 = (l.map Prod.fst).getD _ 0 + (feeG _ ((l.map Prod.fst).getD _ 0)).1 ∧ (l.map Prod.snd).getD _ 0 = (l.map Prod.snd).getD _ 0 + _
    rw [e1, e2, e1, e2]
    exact ⟨q1, q2, by rw [q3], by rw [q3]⟩
theorem costG_bad {w : List Edge} {a x : Int} (h : (costG w a x).2.2 ≠ 0) : (costG w a x).1 = [] ∧ (costG w a x).2.1 = [] := by
  unfold costG at *
  split
  · exact ⟨rfl, rfl⟩
  · split
    · exact ⟨rfl, rfl⟩
    · rename_i h1 h2
      rw [if_neg h1, if_neg h2] at h
      split
      · exact ⟨rfl, rfl⟩
      · rename_i heq
        rw [heq] at h
        exact absurd rfl h
theorem feeG_bound (p : Pol) (am : Int) : 0 ≤ (feeG p am).1 ∧ (feeG p am).1 ≤ 1125899906842624 := by
  unfold feeG
  split
  · unfold addC
    split
    · rename_i hc
      simp only [coinB, Bool.and_eq_true, decide_eq_true_eq] at hc
      have h1 := inB_T hc.1.1
      have h2 := inB_T hc.1.2
      show 0 ≤ _ + _ ∧ _ + _ ≤ _
      omega
    · show (0 : Int) ≤ 0 ∧ (0 : Int) ≤ _
      omega
  · show (0 : Int) ≤ 0 ∧ (0 : Int) ≤ _
    omega
end Go.Gsp
namespace Go.Gsp
set_option linter.unusedSimpArgs false
set_option linter.unusedVariables false
theorem getD_drop' (xs : List Edge) (k i : Nat) : (xs.drop k).getD i noEdge = xs.getD (k + i) noEdge := by simp [List.getD, List.getElem?_drop]
theorem getD_take' (xs : List Edge) (k i : Nat) (h : i < k) : (xs.take k).getD i noEdge = xs.getD i noEdge := by simp [List.getD, List.getElem?_take, h]
theorem way_drop {xs : List Edge} {k : Nat} (h : wayG xs = true) (hk : k < xs.length) : wayG (xs.drop k) = true := by
  have hl := wayG_len h
  refine decide_eq_true ⟨by rw [List.length_drop]; omega, fun i hi => ?_⟩
  rw [List.length_drop] at hi
  obtain ⟨h1, h2, h3⟩ := wayG_at h (i := k + i) (by omega)
  refine ⟨by rw [getD_drop']; exact h1, fun h0 => ?_, fun q hq => ?_⟩
  · rw [getD_drop', getD_drop', show k + (i - 1) = k + i - 1 by omega]; exact h2 (by omega)
  · rw [getD_drop', getD_drop']; exact h3 (k + q) (by omega)
theorem way_take {xs : List Edge} {k : Nat} (h : wayG xs = true) (hk : k < xs.length) : wayG (xs.take (k + 1)) = true := by
  have hl := wayG_len h
  refine decide_eq_true ⟨by rw [List.length_take]; omega, fun i hi => ?_⟩
  rw [List.length_take] at hi
  obtain ⟨h1, h2, h3⟩ := wayG_at h (i := i) (by omega)
  refine ⟨by rw [getD_take' _ _ _ (by omega)]; exact h1, fun h0 => ?_, fun q hq => ?_⟩
  · rw [getD_take' _ _ _ (by omega), getD_take' _ _ _ (by omega)]; exact h2 h0
  · rw [getD_take' _ _ _ (by omega), getD_take' _ _ _ (by omega)]; exact h3 q hq
/-- No party is there twice. -/
theorem way_once {xs : List Edge} (h : wayG xs = true) {i j : Nat} (hji : j < i) (hi : i < xs.length) : (xs.getD j noEdge).f ≠ (xs.getD i noEdge).f ∧ (xs.getD j noEdge).t ≠ (xs.getD i noEdge).t ∧ (xs.getD j noEdge).f ≠ (xs.getD i noEdge).t := by
  have hf : ∀ i, 0 < i → i < xs.length → (xs.getD (i - 1) noEdge).t = (xs.getD i noEdge).f := fun i h0 hi => (wayG_at h hi).2.1 h0
  have hn : ∀ i k, i < xs.length → k ≤ i → (xs.getD k noEdge).f ≠ (xs.getD i noEdge).t := fun i k hi hk => (wayG_at h hi).2.2 k hk
  refine ⟨fun he => ?_, fun he => ?_, hn i j hi (by omega)⟩
  · have h1 := hf i (by omega) hi
    exact hn (i - 1) j (by omega) (by omega) (by rw [he, h1])
  · have h1 := hf (j + 1) (by omega) (by omega)
    rw [show j + 1 - 1 = j by omega] at h1
    exact hn i (j + 1) hi (by omega) (by rw [← h1, he])
variable {a x : Int}
theorem costF_drop : ∀ (xs : List Edge) (k : Nat) (nx : Option (Int × Int)) (l : List (Int × Int)), costF a x xs = .ok (nx, l) → ∃ n2, costF a x (xs.drop k) = .ok (n2, l.drop k)
  | xs, 0, nx, l, h => ⟨nx, h⟩
  | [], k + 1, nx, l, h => by
    have : l = [] := by simp [costF] at h; exact h.2
    subst this
    exact ⟨nx, by simpa using h⟩
  | e :: t, k + 1, nx, l, h => by
    rw [costF] at h
    split at h
    · cases h
    · cases h
    · rename_i a1 x1 l1 heq
      split at h
      · cases h
      · split at h
        · cases h
        · injection h with h
          injection h with _ hl
          subst hl
          simpa using costF_drop t k _ _ heq
theorem costF_take : ∀ (xs : List Edge) (k : Nat) (nx : Option (Int × Int)) (l : List (Int × Int)), k < xs.length → costF a x xs = .ok (nx, l) → costF (l.getD k (0, 0)).1 (l.getD k (0, 0)).2 (xs.take (k + 1)) = .ok (nx, l.take (k + 1))
  | [], k, nx, l, hk, h => by simp at hk
  | e :: t, k, nx, l, hk, h => by
    rw [costF] at h
    split at h
    · cases h
    · cases h
    · rename_i a1 x1 l1 heq
      split at h
      · cases h
      · rename_i h1
        split at h
        · cases h
        · rename_i h2
          injection h with h
          injection h with hn hl
          subst hl hn
          cases k with
          | zero =>
            simp only [List.getD_cons_zero, List.take_succ_cons, List.take_zero, costF]
            rw [if_neg h1, if_neg h2]
          | succ k =>
            have ih := costF_take t k _ _ (by simpa using hk) heq
            rw [List.take_succ_cons, costF, List.getD_cons_succ, ih]
            simp only []
            rw [if_neg h1, if_neg h2]
            rfl
theorem costG_drop {w : List Edge} (h : (costG w a x).2.2 = 0) {k : Nat} (hk : k < w.length) : costG (w.drop k) a x = ((costG w a x).1.drop k, (costG w a x).2.1.drop k, 0) := by
  obtain ⟨hw, ha, hx, nx, l, hF, hC, hl⟩ := costG_inv h
  obtain ⟨n2, h2⟩ := costF_drop w k nx l hF
  rw [costG_ok (way_drop hw hk) ha hx h2, hC]
  simp [List.map_drop]
theorem costG_take {w : List Edge} (h : (costG w a x).2.2 = 0) {k : Nat} (hk : k < w.length) (hs : inB ((costG w a x).1.getD k 0) 1 1125899906842624 = true) (ht : inB ((costG w a x).2.1.getD k 0) 1 1048576 = true) :
    costG (w.take (k + 1)) ((costG w a x).1.getD k 0) ((costG w a x).2.1.getD k 0) = ((costG w a x).1.take (k + 1), (costG w a x).2.1.take (k + 1), 0) := by
  obtain ⟨hw, ha, hx, nx, l, hF, hC, hl⟩ := costG_inv h
  have h2 := costF_take w k nx l hk hF
  rw [hC] at hs ht ⊢
  have e1 : (l.map Prod.fst).getD k 0 = (l.getD k (0, 0)).1 := map_getD Prod.fst l k (0, 0)
  have e2 : (l.map Prod.snd).getD k 0 = (l.getD k (0, 0)).2 := map_getD Prod.snd l k (0, 0)
  simp only [e1, e2] at hs ht ⊢
  rw [costG_ok (way_take hw hk) hs ht h2]
  simp [List.map_take]
/-- What is sent is no less than what comes; nothing goes till ahead of its end. -/
theorem Costs.ge {w : List Edge} {S T : List Int} (h : Costs w a x S T) : ∀ d i, i + d + 1 = w.length → a ≤ S.getD i 0 ∧ x ≤ T.getD i 0 := by
  intro d
  induction d with
  | zero => intro i hi; have h1 := h.endS; have h2 := h.endT; rw [show w.length - 1 = i by omega] at h1 h2; omega
  | succ d ih =>
    intro i hi
    have h1 := ih (i + 1) (by omega)
    obtain ⟨s1, s2, s3, s4⟩ := h.step i (by omega)
    have hf := feeG_bound (w.getD (i + 1) noEdge).pol (S.getD (i + 1) 0)
    have hok := edgeOk_T (wayG_at h.way (i := i + 1) (by omega)).1
    have hp := polOk_T hok.2.2.2.2.2
    omega
theorem Costs.inS {w : List Edge} {S T : List Int} (h : Costs w a x S T) {i : Nat} (hi : i < w.length) : inB (S.getD i 0) 1 1125899906842624 = true ∧ inB (T.getD i 0) 1 1048576 = true := by
  have h1 := h.ge (w.length - 1 - i) i (by omega)
  have h2 := h.room i hi
  have hok := edgeOk_T (wayG_at h.way hi).1
  have := h.amt
  have := h.exp
  exact ⟨decide_eq_true (by omega), decide_eq_true (by omega)⟩
theorem costG_short (w : List Edge) (a x : Int) : (costG w a x).1.length ≤ w.length ∧ (costG w a x).2.1.length ≤ w.length := by
  by_cases h : (costG w a x).2.2 = 0
  · have := costG_lens h; omega
  · rw [(costG_bad h).1, (costG_bad h).2]; simp
theorem hopsG_short (w : List Edge) (a x : Int) (p b : List Nat) : (hopsG w a x p b).1.length ≤ w.length := by
  unfold hopsG
  split
  · simp
  · split
    · simp
    · rename_i h1 h2
      have := (costs_of (Decidable.not_not.1 h1)).len
      simp [hopsL]
      omega
end Go.Gsp
namespace Go.Gsp
set_option linter.unusedSimpArgs false
set_option linter.unusedVariables false
open Go.Osp Go.Num
structure Cnd where
  fr : Int
  id : Int
  am : Int
  pt : Nat
  ex : Int
deriving DecidableEq
def noCnd : Cnd := ⟨0, 0, 0, 0, 0⟩
structure Bnd where
  jam : Int
  bar : Int
  nap : Int
deriving DecidableEq
def noBnd : Bnd := ⟨0, 0, 0⟩
def passedB (c : Cnd) : Bool := inB c.am 1 1125899906842624 && inB c.ex 1 1048576 && decide (c.pt ≠ 1) && right c.pt
def worldB (h : Int) (b : Bnd) : Bool := inB h 0 1048576 && inB b.jam 0 1000 && inB b.bar 0 1000 && inB b.nap 0 1000
/-- May x be passed on as y? -/
def mayE (x y : Cnd) (p : Pol) (h : Int) (b : Bnd) : Int :=
  if polOk p = true ∧ passedB x = true ∧ passedB y = true ∧ worldB h b = true then
    if inB y.am p.l p.m = true then
      if (feeG p y.am).2 = true ∧ ¬ x.am - y.am < (feeG p y.am).1 then
        if ¬ x.ex - y.ex < p.d ∧ ¬ y.ex - h ≤ b.nap then 0 else 16
      else 13
    else 6
  else 1
def toldC (h : Hop) : Cnd := ⟨0, 0, h.2.2.1, h.2.2.2.2.1, h.2.2.2.1⟩
def ownP (h : Hop) : Nat := addP h.2.2.2.2.1 (base h.2.2.2.2.2)
def nextE (h : Hop) (x : Cnd) (p : Pol) (ht : Int) (b : Bnd) : Cnd × Int :=
  if inB h.1 0 11 = true ∧ inB h.2.1 0 39 = true ∧ mayE x (toldC h) p ht b ≠ 1 then
    if x.pt = ownP h then (if mayE x (toldC h) p ht b = 0 then (toldC h, 0) else (noCnd, mayE x (toldC h) p ht b)) else (noCnd, 23)
  else (noCnd, 1)
def lastE (h : Hop) (x : Cnd) (ht : Int) (b : Bnd) : Int :=
  if h.1 = -1 ∧ passedB (toldC h) = true ∧ passedB x = true ∧ worldB ht b = true then
    if x.pt = ownP h then (if x.am < h.2.2.1 then 13 else if x.ex < h.2.2.2.1 ∨ x.ex - ht ≤ b.nap then 16 else 0) else 23
  else 1
theorem passedB_T {c : Cnd} (h : passedB c = true) : (1 ≤ c.am ∧ c.am ≤ 1125899906842624) ∧ (1 ≤ c.ex ∧ c.ex ≤ 1048576) ∧ c.pt ≠ 1 ∧ right c.pt = true := by
  simp only [passedB, Bool.and_eq_true, decide_eq_true_eq] at h
  exact ⟨inB_T h.1.1.1, inB_T h.1.1.2, h.1.2, h.2⟩
theorem worldB_T {h : Int} {b : Bnd} (w : worldB h b = true) : (0 ≤ h ∧ h ≤ 1048576) ∧ (0 ≤ b.jam ∧ b.jam ≤ 1000) ∧ (0 ≤ b.bar ∧ b.bar ≤ 1000) ∧ 0 ≤ b.nap ∧ b.nap ≤ 1000 := by
  simp only [worldB, Bool.and_eq_true] at w
  exact ⟨inB_T w.1.1.1, inB_T w.1.1.2, inB_T w.1.2, inB_T w.2⟩
theorem mayE_in {x y : Cnd} {p : Pol} {h : Int} {b : Bnd} (hm : mayE x y p h b ≠ 1) : polOk p = true ∧ passedB x = true ∧ passedB y = true ∧ worldB h b = true := by
  unfold mayE at hm
  split at hm
  · assumption
  · exact absurd rfl hm
end Go.Gsp
