/- The document's own hash and the program's: the same function in plain Lean. No program in sight. -/
import Derived.Test.YtpmjdiccekkadaaHsp
namespace Go.Hsp
theorem choice_eq (a b c : Word) : a &&& b ^^^ ~~~a &&& c = c ^^^ a &&& (b ^^^ c) := by
  apply BitVec.eq_of_getLsbD_eq
  intro i hi
  simp only [BitVec.getLsbD_xor, BitVec.getLsbD_and, BitVec.getLsbD_not, hi, decide_true, Bool.true_and]
  cases a.getLsbD i <;> cases b.getLsbD i <;> cases c.getLsbD i <;> rfl
theorem most_eq (a b c : Word) : a &&& b ^^^ a &&& c ^^^ b &&& c = a &&& b ||| c &&& (a ||| b) := by
  apply BitVec.eq_of_getLsbD_eq
  intro i hi
  simp only [BitVec.getLsbD_xor, BitVec.getLsbD_and, BitVec.getLsbD_or]
  cases a.getLsbD i <;> cases b.getLsbD i <;> cases c.getLsbD i <;> rfl
theorem rot_comm (x : Word) (k : Nat) : x >>> k ||| x <<< (32 - k) = rot x k := by rw [rot, BitVec.or_comm]
theorem be32_drop (b : List Byte) (k : Nat) : be32 (b.drop k) = (b.getD k 0).setWidth 32 <<< 24 ||| (b.getD (k + 1) 0).setWidth 32 <<< 16 ||| (b.getD (k + 2) 0).setWidth 32 <<< 8 ||| (b.getD (k + 3) 0).setWidth 32 := by
  simp only [be32, List.getD_eq_getElem?_getD, List.getElem?_drop, Nat.add_zero]
/-- The bytes, a one, noughts, and how many bits they have. -/
def padB (b : List Byte) : List Byte := b ++ [128] ++ List.replicate (noughts b.length) 0 ++ be8 (8 * b.length)
theorem padB_length (b : List Byte) : (padB b).length = b.length + 1 + noughts b.length + 8 := by simp [padB, be8_length]; omega
theorem padB_mod (b : List Byte) : (padB b).length % 64 = 0 := by rw [padB_length, noughts]; omega
theorem mixAll_append : ∀ (m : Nat) (h : List Word) (p t : List Byte), p.length = 64 * m → mixAll h (p ++ t) = mixAll (mixAll h p) t
  | 0, h, p, t, hp => by
    have : p = [] := List.eq_nil_of_length_eq_zero (by omega)
    subst this
    rw [mixAll_end h [] (by simp)]; rfl
  | m + 1, h, p, t, hp => by
    rw [mixAll_step h (p ++ t) (by simp; omega), mixAll_step h p (by omega), List.take_append_of_le_length (by omega), List.drop_append_of_le_length (by omega)]
    exact mixAll_append m _ _ t (by simp; omega)
theorem mixAll_rest (m : Nat) (h : List Word) (p t : List Byte) (hp : p.length = 64 * m) (ht : t.length < 64) : mixAll h (p ++ t) = mixAll h p := by
  rw [mixAll_append m h p t hp, mixAll_end _ t ht]
theorem sum_pad (b : List Byte) : sum b = digest (mixAll first (padB b)) := by
  have hb : b = b.take (b.length - b.length % 64) ++ b.drop (b.length - b.length % 64) := (List.take_append_drop _ _).symm
  have hl : (b.take (b.length - b.length % 64)).length = 64 * (b.length / 64) := by rw [List.length_take]; omega
  have e1 : mixAll first b = mixAll first (b.take (b.length - b.length % 64)) := by
    conv => lhs; rw [hb]
    exact mixAll_rest _ _ _ _ hl (by rw [List.length_drop]; omega)
  have e2 : padB b = b.take (b.length - b.length % 64) ++ tail b := by
    unfold padB tail
    rw [← List.append_assoc, ← List.append_assoc, ← List.append_assoc, List.take_append_drop]
  rw [sum, e1, e2, mixAll_append _ _ _ _ hl]
end Go.Hsp
