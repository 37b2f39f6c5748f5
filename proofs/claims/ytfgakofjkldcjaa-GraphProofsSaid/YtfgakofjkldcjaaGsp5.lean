/- The end and the beginning of a way. No program in sight. -/
import Derived.Test.YtfgakofjkldcjaaGsp4
namespace Go.Gsp
set_option linter.unusedSimpArgs false
set_option linter.unusedVariables false
theorem getD_drop' (xs : List Edge) (k i : Nat) : (xs.drop k).getD i noEdge = xs.getD (k + i) noEdge := by simp [List.getD, List.getElem?_drop]
theorem getD_take' (xs : List Edge) (k i : Nat) (h : i < k) : (xs.take k).getD i noEdge = xs.getD i noEdge := by simp [List.getD, List.getElem?_take, h]
theorem way_drop {xs : List Edge} {k : Nat} (h : wayG xs = true) (hk : k < xs.length) : wayG (xs.drop k) = true := by
  have hl := wayG_len h
  refine decide_eq_true ⟨by rw [List.length_drop]; omega, fun i hi => ?_⟩
  rw [List.length_drop] at hi
  obtain ⟨h1, h2, h3⟩ := wayG_at h (i := k + i) (by omega)
  refine ⟨by rw [getD_drop']; exact h1, fun h0 => ?_, fun q hq => ?_⟩
  · rw [getD_drop', getD_drop', show k + (i - 1) = k + i - 1 by omega]; exact h2 (by omega)
  · rw [getD_drop', getD_drop']; exact h3 (k + q) (by omega)
theorem way_take {xs : List Edge} {k : Nat} (h : wayG xs = true) (hk : k < xs.length) : wayG (xs.take (k + 1)) = true := by
  have hl := wayG_len h
  refine decide_eq_true ⟨by rw [List.length_take]; omega, fun i hi => ?_⟩
  rw [List.length_take] at hi
  obtain ⟨h1, h2, h3⟩ := wayG_at h (i := i) (by omega)
  refine ⟨by rw [getD_take' _ _ _ (by omega)]; exact h1, fun h0 => ?_, fun q hq => ?_⟩
  · rw [getD_take' _ _ _ (by omega), getD_take' _ _ _ (by omega)]; exact h2 h0
  · rw [getD_take' _ _ _ (by omega), getD_take' _ _ _ (by omega)]; exact h3 q hq
/-- No party is there twice. -/
theorem way_once {xs : List Edge} (h : wayG xs = true) {i j : Nat} (hji : j < i) (hi : i < xs.length) : (xs.getD j noEdge).f ≠ (xs.getD i noEdge).f ∧ (xs.getD j noEdge).t ≠ (xs.getD i noEdge).t ∧ (xs.getD j noEdge).f ≠ (xs.getD i noEdge).t := by
  have hf : ∀ i, 0 < i → i < xs.length → (xs.getD (i - 1) noEdge).t = (xs.getD i noEdge).f := fun i h0 hi => (wayG_at h hi).2.1 h0
  have hn : ∀ i k, i < xs.length → k ≤ i → (xs.getD k noEdge).f ≠ (xs.getD i noEdge).t := fun i k hi hk => (wayG_at h hi).2.2 k hk
  refine ⟨fun he => ?_, fun he => ?_, hn i j hi (by omega)⟩
  · have h1 := hf i (by omega) hi
    exact hn (i - 1) j (by omega) (by omega) (by rw [he, h1])
  · have h1 := hf (j + 1) (by omega) (by omega)
    rw [show j + 1 - 1 = j by omega] at h1
    exact hn i (j + 1) hi (by omega) (by rw [← h1, he])
variable {a x : Int}
theorem costF_drop : ∀ (xs : List Edge) (k : Nat) (nx : Option (Int × Int)) (l : List (Int × Int)), costF a x xs = .ok (nx, l) → ∃ n2, costF a x (xs.drop k) = .ok (n2, l.drop k)
  | xs, 0, nx, l, h => ⟨nx, h⟩
  | [], k + 1, nx, l, h => by
    have : l = [] := by simp [costF] at h; exact h.2
    subst this
    exact ⟨nx, by simpa using h⟩
  | e :: t, k + 1, nx, l, h => by
    rw [costF] at h
    split at h
    · cases h
    · cases h
    · rename_i a1 x1 l1 heq
      split at h
      · cases h
      · split at h
        · cases h
        · injection h with h
          injection h with _ hl
          subst hl
          simpa using costF_drop t k _ _ heq
theorem costF_take : ∀ (xs : List Edge) (k : Nat) (nx : Option (Int × Int)) (l : List (Int × Int)), k < xs.length → costF a x xs = .ok (nx, l) → costF (l.getD k (0, 0)).1 (l.getD k (0, 0)).2 (xs.take (k + 1)) = .ok (nx, l.take (k + 1))
  | [], k, nx, l, hk, h => by simp at hk
  | e :: t, k, nx, l, hk, h => by
    rw [costF] at h
    split at h
    · cases h
    · cases h
    · rename_i a1 x1 l1 heq
      split at h
      · cases h
      · rename_i h1
        split at h
        · cases h
        · rename_i h2
          injection h with h
          injection h with hn hl
          subst hl hn
          cases k with
          | zero =>
            simp only [List.getD_cons_zero, List.take_succ_cons, List.take_zero, costF]
            rw [if_neg h1, if_neg h2]
          | succ k =>
            have ih := costF_take t k _ _ (by simpa using hk) heq
            rw [List.take_succ_cons, costF, List.getD_cons_succ, ih]
            simp only []
            rw [if_neg h1, if_neg h2]
            rfl
theorem costG_drop {w : List Edge} (h : (costG w a x).2.2 = 0) {k : Nat} (hk : k < w.length) : costG (w.drop k) a x = ((costG w a x).1.drop k, (costG w a x).2.1.drop k, 0) := by
  obtain ⟨hw, ha, hx, nx, l, hF, hC, hl⟩ := costG_inv h
  obtain ⟨n2, h2⟩ := costF_drop w k nx l hF
  rw [costG_ok (way_drop hw hk) ha hx h2, hC]
  simp [List.map_drop]
theorem costG_take {w : List Edge} (h : (costG w a x).2.2 = 0) {k : Nat} (hk : k < w.length) (hs : inB ((costG w a x).1.getD k 0) 1 1125899906842624 = true) (ht : inB ((costG w a x).2.1.getD k 0) 1 1048576 = true) :
    costG (w.take (k + 1)) ((costG w a x).1.getD k 0) ((costG w a x).2.1.getD k 0) = ((costG w a x).1.take (k + 1), (costG w a x).2.1.take (k + 1), 0) := by
  obtain ⟨hw, ha, hx, nx, l, hF, hC, hl⟩ := costG_inv h
  have h2 := costF_take w k nx l hk hF
  rw [hC] at hs ht ⊢
  have e1 : (l.map Prod.fst).getD k 0 = (l.getD k (0, 0)).1 := map_getD Prod.fst l k (0, 0)
  have e2 : (l.map Prod.snd).getD k 0 = (l.getD k (0, 0)).2 := map_getD Prod.snd l k (0, 0)
  simp only [e1, e2] at hs ht ⊢
  rw [costG_ok (way_take hw hk) hs ht h2]
  simp [List.map_take]
/-- What is sent is no less than what comes; nothing goes till ahead of its end. -/
theorem Costs.ge {w : List Edge} {S T : List Int} (h : Costs w a x S T) : ∀ d i, i + d + 1 = w.length → a ≤ S.getD i 0 ∧ x ≤ T.getD i 0 := by
  intro d
  induction d with
  | zero => intro i hi; have h1 := h.endS; have h2 := h.endT; rw [show w.length - 1 = i by omega] at h1 h2; omega
  | succ d ih =>
    intro i hi
    have h1 := ih (i + 1) (by omega)
    obtain ⟨s1, s2, s3, s4⟩ := h.step i (by omega)
    have hf := feeG_bound (w.getD (i + 1) noEdge).pol (S.getD (i + 1) 0)
    have hok := edgeOk_T (wayG_at h.way (i := i + 1) (by omega)).1
    have hp := polOk_T hok.2.2.2.2.2
    omega
theorem Costs.inS {w : List Edge} {S T : List Int} (h : Costs w a x S T) {i : Nat} (hi : i < w.length) : inB (S.getD i 0) 1 1125899906842624 = true ∧ inB (T.getD i 0) 1 1048576 = true := by
  have h1 := h.ge (w.length - 1 - i) i (by omega)
  have h2 := h.room i hi
  have hok := edgeOk_T (wayG_at h.way hi).1
  have := h.amt
  have := h.exp
  exact ⟨decide_eq_true (by omega), decide_eq_true (by omega)⟩
theorem costG_short (w : List Edge) (a x : Int) : (costG w a x).1.length ≤ w.length ∧ (costG w a x).2.1.length ≤ w.length := by
  by_cases h : (costG w a x).2.2 = 0
  · have := costG_lens h; omega
  · rw [(costG_bad h).1, (costG_bad h).2]; simp
theorem hopsG_short (w : List Edge) (a x : Int) (p b : List Nat) : (hopsG w a x p b).1.length ≤ w.length := by
  unfold hopsG
  split
  · simp
  · split
    · simp
    · rename_i h1 h2
      have := (costs_of (Decidable.not_not.1 h1)).len
      simp [hopsL]
      omega
end Go.Gsp
