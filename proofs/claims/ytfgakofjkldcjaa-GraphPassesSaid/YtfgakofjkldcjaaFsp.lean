/- What the program's fault packets compute, in plain functions on lists of bytes. No program in sight. -/
import Derived.Test.YtfgakofjkldcjaaSsp
namespace Go.Hsp
def byB (key : List Byte) : List Byte := tag nFault [key]
theorem byB_length (key : List Byte) : (byB key).length = 32 := tag_length _ _
/-- A packet's step, of its length; -1: none. -/
def stepB (n : Nat) : Int := if n < 64 ∨ (n - 64) % 8 ≠ 0 ∨ 8 ≤ (n - 64) / 8 then -1 else ((n - 64) / 8 : Nat)
def rowB (r : List Byte) : List Byte := BitVec.ofNat 8 r.length :: (r ++ List.replicate (55 - r.length) 0)
theorem rowB_length (r : List Byte) (h : r.length ≤ 55) : (rowB r).length = 56 := by simp [rowB]; omega
def makeB (key r : List Byte) : List Byte × Int := if r.length ≤ 55 then (sealB (byB key) (rowB r), 0) else ([], 1)
def addB (key p : List Byte) : List Byte × Int := if 0 ≤ stepB p.length ∧ stepB p.length < 7 then (sealB (byB key) p, 0) else ([], 2)
/-- Layers taken off: how many at most, which is next, what is left. -/
def unw (keys : List (List Byte)) : Nat → Nat → List Byte → Nat × List Byte
  | 0, a, left => (a, left)
  | m + 1, a, left => if fits (byB (keys.getD a [])) left then unw keys m (a + 1) (inner (byB (keys.getD a [])) left) else (a, left)
def readRow (n : Nat) (l : List Byte) : Nat × List Byte × Int :=
  if (l.getD 0 0).toNat ≤ 55 ∧ (l.drop (1 + (l.getD 0 0).toNat)).all (fun b => decide (b = 0#8)) = true then (n, (l.drop 1).take (l.getD 0 0).toNat, 0) else (n, [], 2)
def readB (keys : List (List Byte)) (p : List Byte) : Nat × List Byte × Int :=
  if stepB p.length < 0 ∨ keys.length ≤ (stepB p.length).toNat then (0, [], 2)
  else if (unw keys ((stepB p.length).toNat + 1) 0 p).1 ≤ (stepB p.length).toNat then ((unw keys ((stepB p.length).toNat + 1) 0 p).1, [], 18)
  else readRow (stepB p.length).toNat (unw keys ((stepB p.length).toNat + 1) 0 p).2
theorem unw_le (keys : List (List Byte)) : ∀ m a l, a ≤ (unw keys m a l).1 ∧ (unw keys m a l).1 ≤ a + m
  | 0, a, l => ⟨Nat.le_refl _, Nat.le_refl _⟩
  | m + 1, a, l => by
    unfold unw
    split
    · have := unw_le keys m (a + 1) (inner (byB (keys.getD a [])) l); omega
    · exact ⟨Nat.le_refl _, by simp⟩
/-- What is left, as long as it is opened. -/
theorem unw_length (keys : List (List Byte)) : ∀ m a l, (unw keys m a l).2.length = l.length - 8 * ((unw keys m a l).1 - a)
  | 0, a, l => by simp [unw]
  | m + 1, a, l => by
    unfold unw
    split
    · have h1 := unw_length keys m (a + 1) (inner (byB (keys.getD a [])) l)
      have h2 := unw_le keys m (a + 1) (inner (byB (keys.getD a [])) l)
      rw [h1, inner_length]; omega
    · simp
/-- All packets of a step have their length. -/
theorem stepB_cases (n : Nat) : (stepB n = -1 ∧ (n < 64 ∨ (n - 64) % 8 ≠ 0 ∨ 8 ≤ (n - 64) / 8)) ∨ ∃ s : Nat, stepB n = s ∧ n = 64 + 8 * s ∧ s ≤ 7 := by
  unfold stepB
  split
  · rename_i h; exact .inl ⟨rfl, h⟩
  · rename_i h; exact .inr ⟨_, rfl, by omega, by omega⟩
end Go.Hsp
