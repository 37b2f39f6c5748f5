/- What is peeled off, by cases; other macs; the small case. No program in sight. -/
import Derived.Test.YtpmjdiccekkadaaOsp3
namespace Go.Osp
open Go.Hsp Go.Num
def stP (k : Nat) (p : List Byte) : Stop := (numB p, sharedB (scale (numB p) k))
def opP (k : Nat) (p : List Byte) : List Byte := opened (stP k p) ((p.drop 8).take 640)
theorem peel_cases (k : Nat) (p : List Byte) : (∃ e : Int, peelB k p = (noHop, [], zeros 32, e) ∧ e ≠ 0) ∨
    (k ≠ 0 ∧ k < q ∧ p.length = 680 ∧ keyOk (numB p) = true ∧ macB (stP k p) ((p.drop 8).take 640) = p.drop 648 ∧ mayB (readH (opP k p)) = true ∧
      peelB k p = (readH (opP k p), if (readH (opP k p)).1 < 0 then [] else be8 (scale (numB p) (blindB (stP k p))) ++ (opP k p).drop 80 ++ ((opP k p).drop 48).take 32, sharedB (scale (numB p) k), 0)) := by
  by_cases h1 : k = 0 ∨ q ≤ k
  · exact .inl ⟨1, by rw [peelB, if_pos h1], by decide⟩
  by_cases h2 : p.length ≠ 680
  · exact .inl ⟨2, by rw [peelB, if_neg h1, if_pos h2], by decide⟩
  by_cases h3 : keyOk (numB p) = false
  · exact .inl ⟨2, by rw [peelB, if_neg h1, if_neg h2, if_pos h3], by decide⟩
  by_cases h4 : macB (numB p, sharedB (scale (numB p) k)) ((p.drop 8).take 640) ≠ p.drop 648
  · exact .inl ⟨18, by rw [peelB, if_neg h1, if_neg h2, if_neg h3, if_pos h4], by decide⟩
  by_cases h5 : mayB (readH (opened (numB p, sharedB (scale (numB p) k)) ((p.drop 8).take 640))) = false
  · exact .inl ⟨2, by rw [peelB, if_neg h1, if_neg h2, if_neg h3, if_neg h4, if_pos h5], by decide⟩
  refine .inr ⟨fun h => h1 (.inl h), Nat.lt_of_not_le (fun h => h1 (.inr h)), by simpa using h2, by simpa using h3, Classical.not_not.1 h4, by rw [Bool.not_eq_false] at h5; exact h5, ?_⟩
  rw [peelB, if_neg h1, if_neg h2, if_neg h3, if_neg h4, if_neg h5]
  rfl
theorem peel_err (k : Nat) (p : List Byte) (h : (peelB k p).2.2.2 ≠ 0) : (peelB k p).1 = noHop ∧ (peelB k p).2.1 = [] ∧ (peelB k p).2.2.1 = zeros 32 := by
  rcases peel_cases k p with ⟨e, he, _⟩ | ⟨_, _, _, _, _, _, he⟩
  · rw [he]; exact ⟨rfl, rfl, rfl⟩
  · rw [he] at h; exact absurd rfl h
theorem may_next {h : Hop} (hy : mayB h = true) : -1 ≤ h.1 := by
  rw [mayB] at hy
  simp only [Bool.and_eq_true, decide_eq_true_eq] at hy
  exact hy.1.1.1.1.1
theorem peel_good (k : Nat) (p : List Byte) (h : (peelB k p).2.2.2 = 0) : p.length = 680 ∧ ((peelB k p).1.1 = -1 ↔ (peelB k p).2.1.length = 0) := by
  rcases peel_cases k p with ⟨e, he, h0⟩ | ⟨_, _, h1, _, _, hy, he⟩
  · rw [he] at h; exact absurd h h0
  · refine ⟨h1, ?_⟩
    rw [he]
    have := may_next hy
    have hl := opened_length (stP k p) ((p.drop 8).take 640) (by rw [List.length_take, List.length_drop, h1]; rfl)
    show (readH (opP k p)).1 = -1 ↔ _
    by_cases hn : (readH (opP k p)).1 < 0
    · simp only [if_pos hn, List.length_nil, iff_true]; omega
    · simp only [if_neg hn, List.length_append, be8_length]
      constructor
      · intro h; omega
      · intro h; omega
/-- Of a packet that is peeled no other mac is taken. -/
theorem peel_mac (k : Nat) (p p' : List Byte) (h : (peelB k p).2.2.2 = 0) (hl : p'.length = 680) (ht : p'.take 648 = p.take 648) (hd : p'.drop 648 ≠ p.drop 648) : (peelB k p').2.2.2 = 18 := by
  rcases peel_cases k p with ⟨e, he, h0⟩ | ⟨h1, h2, h3, h4, h5, _, _⟩
  · rw [he] at h; exact absurd h h0
  · have e1 : numB p' = numB p := by
      have : p'.take 8 = p.take 8 := by have := congrArg (List.take 8) ht; simpa [List.take_take] using this
      rw [numB, numB, this]
    have e2 : (p'.drop 8).take 640 = (p.drop 8).take 640 := by
      have := congrArg (List.drop 8) ht
      rw [List.drop_take, List.drop_take] at this
      exact this
    rw [peelB, if_neg (by omega), if_neg (by omega), e1, if_neg (by rw [h4]; simp), e2, if_pos (by
      intro hm
      exact hd (by rw [← hm]; exact h5))]
theorem peel_none (k : Nat) (p : List Byte) (h : k = 0 ∨ q ≤ k) : (peelB k p).2.2.2 = 1 := by rw [peelB, if_pos h]
theorem peel_form (k : Nat) (p : List Byte) (h0 : k ≠ 0) (hq : k < q) (hl : p.length ≠ 680) : (peelB k p).2.2.2 = 2 := by rw [peelB, if_neg (by omega), if_pos hl]
/-! ### The small case -/
def hopL (nx : Int) (m : Nat) : Hop := (nx, (m : Int), 1000 + (m : Int), 50 + (m : Int), base m, m)
theorem hopL_may (nx : Int) (m : Nat) (h : -1 ≤ nx ∧ nx ≤ 11) (hm : m ≤ 100) : mayB (hopL nx m) = true := by
  have h1 : m < q := Nat.lt_of_le_of_lt hm (by decide)
  rw [mayB]
  show ((decide (-1 ≤ nx ∧ nx ≤ 11) && decide (0 ≤ (m : Int) ∧ (m : Int) ≤ 1048575) && decide (0 ≤ 1000 + (m : Int) ∧ 1000 + (m : Int) ≤ 1125899906842624) && decide (0 ≤ 50 + (m : Int) ∧ 50 + (m : Int) ≤ 1048576)) && (decide (m < q) && (decide (base m = 0) || right (base m)))) = true
  rw [decide_eq_true h, decide_eq_true (show 0 ≤ (m : Int) ∧ (m : Int) ≤ 1048575 by omega), decide_eq_true (show 0 ≤ 1000 + (m : Int) ∧ 1000 + (m : Int) ≤ 1125899906842624 by omega), decide_eq_true (show 0 ≤ 50 + (m : Int) ∧ 50 + (m : Int) ≤ 1048576 by omega), decide_eq_true h1, right_base m, Bool.or_true]
  rfl
theorem hopL_ok (nx : Int) (m : Nat) (h : -1 ≤ nx ∧ nx ≤ 11) (hm : m ≤ 100) : HopOk (hopL nx m) :=
  ⟨by show I64 nx; unfold I64; omega, by show I64 (m : Int); unfold I64; omega, by show I64 (1000 + (m : Int)); unfold I64; omega, by show I64 (50 + (m : Int)); unfold I64; omega, base_lt m, by show m < _; omega⟩
def hsS : List Hop := [hopL 3 4, hopL (-1) 6]
theorem ownS : ∀ k ∈ [5, 7], k ≠ 0 ∧ k < q := fun k hk => by
  simp at hk
  rcases hk with rfl | rfl <;> exact ⟨by decide, by decide⟩
theorem hopsS_ok : hopsOk ([5, 7].map base) hsS = true := by
  rw [hopsOk]
  simp only [List.map_cons, List.map_nil, hsS, List.length_cons, List.length_nil, decide_true, Bool.true_and, List.all_eq_true, List.mem_range]
  intro i hi
  have : i = 0 ∨ i = 1 := by omega
  rcases this with rfl | rfl
  · show (mayB (hopL 3 4) && decide (decide ((3 : Int) < 0) = decide (0 + 1 = 2))) = true
    rw [hopL_may 3 4 (by decide) (by decide)]; decide
  · show (mayB (hopL (-1) 6) && decide (decide ((-1 : Int) < 0) = decide (1 + 1 = 2))) = true
    rw [hopL_may (-1) 6 (by decide) (by decide)]; decide
theorem hopsS_wf : ∀ h ∈ hsS, HopOk h := fun h hh => by
  simp [hsS] at hh
  rcases hh with rfl | rfl
  · exact hopL_ok 3 4 (by decide) (by decide)
  · exact hopL_ok (-1) 6 (by decide) (by decide)
theorem hopsS_bad : hopsOk ([5, 7].map base) [hopL 3 4, hopL 3 6] = false := by
  rw [hopsOk, Bool.and_eq_false_iff]
  right
  rw [← Bool.not_eq_true, List.all_eq_true]
  intro h
  have := h 1 (by simp)
  simp [hopL] at this
theorem hopsS_short : hopsOk [base 5] hsS = false := by rw [hopsOk]; simp [hsS]
end Go.Osp
