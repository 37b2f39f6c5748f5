/- Edges put in order by insertion. No program in sight. -/
import Derived.Test.YtfgakofjkldcjaaGsp2
namespace Go.Gsp
set_option linter.unusedSimpArgs false
set_option linter.unusedVariables false
/-- The edge at j goes down as long as it stands ahead of the one below it, but not below a. -/
def bub (a : Nat) : Nat → List Edge → List Edge
  | 0, xs => xs
  | j + 1, xs => if a < j + 1 ∧ ordE (xs.getD (j + 1) noEdge) (xs.getD j noEdge) < 0 then bub a j ((xs.set (j + 1) (xs.getD j noEdge)).set j (xs.getD (j + 1) noEdge)) else xs
/-- From i on. -/
def isoC (a b i : Nat) (xs : List Edge) : List Edge := (List.range' i (b - i)).foldl (fun l i => bub a i l) xs
def isort (a b : Nat) (xs : List Edge) : List Edge := isoC a b (a + 1) xs
theorem isoC_end {a b i : Nat} {xs : List Edge} (h : b ≤ i) : isoC a b i xs = xs := by unfold isoC; rw [show b - i = 0 by omega]; rfl
theorem isoC_step {a b i : Nat} {xs : List Edge} (h : i < b) : isoC a b i xs = isoC a b (i + 1) (bub a i xs) := by
  unfold isoC
  rw [show b - i = (b - (i + 1)) + 1 by omega, List.range'_succ]
  rfl
theorem bub_stop {a j : Nat} {xs : List Edge} (h : ¬ (a < j ∧ ordE (xs.getD j noEdge) (xs.getD (j - 1) noEdge) < 0)) : bub a j xs = xs := by
  cases j with
  | zero => rfl
  | succ j => rw [bub, if_neg (by simpa using h)]
theorem bub_down {a j : Nat} {xs : List Edge} (h : a < j) (h2 : ordE (xs.getD j noEdge) (xs.getD (j - 1) noEdge) < 0) : bub a j xs = bub a (j - 1) ((xs.set j (xs.getD (j - 1) noEdge)).set (j - 1) (xs.getD j noEdge)) := by
  cases j with
  | zero => omega
  | succ j => rw [bub, if_pos ⟨h, by simpa using h2⟩]; simp
theorem bub_length (a : Nat) : ∀ (j : Nat) (xs : List Edge), (bub a j xs).length = xs.length
  | 0, _ => rfl
  | j + 1, xs => by
    rw [bub]
    split
    · rw [bub_length a j]; simp
    · rfl
theorem isoC_length (a b : Nat) (k : Nat) : ∀ (i : Nat) (xs : List Edge), b - i = k → (isoC a b i xs).length = xs.length := by
  induction k with
  | zero => intro i xs h; rw [isoC_end (by omega)]
  | succ k ih => intro i xs h; rw [isoC_step (by omega), ih _ _ (by omega), bub_length]
theorem isort_length (a b : Nat) (xs : List Edge) : (isort a b xs).length = xs.length := isoC_length a b _ _ _ rfl
end Go.Gsp
