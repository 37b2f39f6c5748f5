/- What a way costs: what is sent over each of its edges. No program in sight. -/
import Derived.Test.YtfgakofjkldcjaaGsp2
namespace Go.Gsp
set_option linter.unusedSimpArgs false
set_option linter.unusedVariables false
variable {a x : Int}
theorem costF_at : ∀ (xs : List Edge) (nx : Option (Int × Int)) (l : List (Int × Int)), costF a x xs = .ok (nx, l) →
    (∀ i, i < xs.length → inB (l.getD i (0, 0)).1 (xs.getD i noEdge).pol.l (min (xs.getD i noEdge).pol.m (xs.getD i noEdge).r) = true ∧ ¬ 1048576 < (l.getD i (0, 0)).2) ∧
    (∀ i, i + 1 < xs.length → nextC (xs.getD (i + 1) noEdge) (l.getD (i + 1) (0, 0)).1 (l.getD (i + 1) (0, 0)).2 = some (l.getD i (0, 0))) ∧
    (0 < xs.length → l.getD (xs.length - 1) (0, 0) = (a, x)) ∧ nx = (if xs.length = 0 then some (a, x) else nextC (xs.getD 0 noEdge) (l.getD 0 (0, 0)).1 (l.getD 0 (0, 0)).2)
  | [], nx, l, h => by
    simp [costF] at h
    obtain ⟨rfl, rfl⟩ := h
    exact ⟨fun i hi => absurd hi (Nat.not_lt_zero _), fun i hi => absurd hi (Nat.not_lt_zero _), fun h => absurd h (Nat.lt_irrefl _), rfl⟩
  | e :: t, nx, l, h => by
    rw [costF] at h
    split at h
    · cases h
    · cases h
    · rename_i a1 x1 l1 heq
      obtain ⟨h1, h2, h3, h4⟩ := costF_at t _ _ heq
      split at h
      · cases h
      · rename_i hin
        split at h
        · cases h
        · rename_i hx
          injection h with h
          injection h with hn hl
          subst hl
          refine ⟨?_, ?_, ?_, ?_⟩
          · intro i hi
            cases i with
            | zero => exact ⟨by simpa using hin, hx⟩
            | succ i => have := h1 i (by simpa using hi); simpa using this
          · intro i hi
            cases i with
            | zero =>
              have ht : 0 < t.length := by simpa using hi
              rw [if_neg (by omega)] at h4
              simp only [List.getD_cons_succ, List.getD_cons_zero] at *
              rw [← h4]
            | succ i => have := h2 i (by simpa using hi); simpa using this
          · intro _
            cases t with
            | nil => simp at h4; obtain ⟨rfl, rfl⟩ := h4; rfl
            | cons e2 t2 => have := h3 (by simp); simpa using this
          · rw [if_neg (by simp)]; exact hn.symm
theorem nextC_inv {e : Edge} {am ex : Int} {p : Int × Int} (h : nextC e am ex = some p) : (feeG e.pol am).2 = true ∧ (addC am (feeG e.pol am).1).2 = true ∧ p = (am + (feeG e.pol am).1, ex + e.pol.d) := by
  unfold nextC at h
  split at h
  · rename_i hc
    rw [Bool.and_eq_true] at hc
    injection h with h
    exact ⟨hc.1, hc.2, h.symm⟩
  · cases h
structure Costs (w : List Edge) (a x : Int) (S T : List Int) : Prop where
  way : wayG w = true
  amt : 1 ≤ a ∧ a ≤ 1125899906842624
  exp : 1 ≤ x ∧ x ≤ 1048576
  lenS : S.length = w.length
  lenT : T.length = w.length
  len : 1 ≤ w.length ∧ w.length ≤ 8
  room : ∀ i, i < w.length → ((w.getD i noEdge).pol.l ≤ S.getD i 0 ∧ S.getD i 0 ≤ (w.getD i noEdge).pol.m ∧ S.getD i 0 ≤ (w.getD i noEdge).r) ∧ T.getD i 0 ≤ 1048576
  endS : S.getD (w.length - 1) 0 = a
  endT : T.getD (w.length - 1) 0 = x
  step : ∀ i, i + 1 < w.length → (feeG (w.getD (i + 1) noEdge).pol (S.getD (i + 1) 0)).2 = true ∧ (addC (S.getD (i + 1) 0) (feeG (w.getD (i + 1) noEdge).pol (S.getD (i + 1) 0)).1).2 = true ∧ S.getD i 0 = S.getD (i + 1) 0 + (feeG (w.getD (i + 1) noEdge).pol (S.getD (i + 1) 0)).1 ∧ T.getD i 0 = T.getD (i + 1) 0 + (w.getD (i + 1) noEdge).pol.d
theorem map_getD {α β : Type} (f : α → β) (l : List α) (i : Nat) (z : α) : (l.map f).getD i (f z) = f (l.getD i z) := by
  simp only [List.getD, List.getElem?_map]
  cases l[i]? <;> rfl
theorem costs_of {w : List Edge} (h : (costG w a x).2.2 = 0) : Costs w a x (costG w a x).1 (costG w a x).2.1 := by
  obtain ⟨hw, ha, hx, nx, l, hF, hC, hl⟩ := costG_inv h
  obtain ⟨h1, h2, h3, h4⟩ := costF_at w nx l hF
  have hwl := wayG_len hw
  rw [hC]
  have e1 : ∀ i, (l.map Prod.fst).getD i 0 = (l.getD i (0, 0)).1 := fun i => map_getD Prod.fst l i (0, 0)
  have e2 : ∀ i, (l.map Prod.snd).getD i 0 = (l.getD i (0, 0)).2 := fun i => map_getD Prod.snd l i (0, 0)
  refine ⟨hw, inB_T ha, inB_T hx, by simp [hl], by simp [hl], hwl, ?_, ?_, ?_, ?_⟩
  · intro i hi
    obtain ⟨q1, q2⟩ := h1 i hi
    have := inB_T q1
    show (_ ≤ (l.map Prod.fst).getD i 0 ∧ (l.map Prod.fst).getD i 0 ≤ _ ∧ (l.map Prod.fst).getD i 0 ≤ _) ∧ (l.map Prod.snd).getD i 0 ≤ _
    rw [e1, e2]
    omega
  · show (l.map Prod.fst).getD _ 0 = a
    rw [e1, h3 (by omega)]
  · show (l.map Prod.snd).getD _ 0 = x
    rw [e2, h3 (by omega)]
  · intro i hi
    obtain ⟨q1, q2, q3⟩ := nextC_inv (h2 i hi)
    show (feeG _ ((l.map Prod.fst).getD _ 0)).2 = true ∧ (addC ((l.map Prod.fst).getD _ 0) (feeG _ ((l.map Prod.fst).getD _ 0)).1).2 = true ∧ (l.map Prod.fst).getD _ 0 = (l.map Prod.fst).getD _ 0 + (feeG _ ((l.map Prod.fst).getD _ 0)).1 ∧ (l.map Prod.snd).getD _ 0 = (l.map Prod.snd).getD _ 0 + _
    rw [e1, e2, e1, e2]
    exact ⟨q1, q2, by rw [q3], by rw [q3]⟩
theorem costG_bad {w : List Edge} {a x : Int} (h : (costG w a x).2.2 ≠ 0) : (costG w a x).1 = [] ∧ (costG w a x).2.1 = [] := by
  unfold costG at *
  split
  · exact ⟨rfl, rfl⟩
  · split
    · exact ⟨rfl, rfl⟩
    · rename_i h1 h2
      rw [if_neg h1, if_neg h2] at h
      split
      · exact ⟨rfl, rfl⟩
      · rename_i heq
        rw [heq] at h
        exact absurd rfl h
theorem feeG_bound (p : Pol) (am : Int) : 0 ≤ (feeG p am).1 ∧ (feeG p am).1 ≤ 1125899906842624 := by
  unfold feeG
  split
  · unfold addC
    split
    · rename_i hc
      simp only [coinB, Bool.and_eq_true, decide_eq_true_eq] at hc
      have h1 := inB_T hc.1.1
      have h2 := inB_T hc.1.2
      show 0 ≤ _ + _ ∧ _ + _ ≤ _
      omega
    · show (0 : Int) ≤ 0 ∧ (0 : Int) ≤ _
      omega
  · show (0 : Int) ≤ 0 ∧ (0 : Int) ≤ _
    omega
end Go.Gsp
