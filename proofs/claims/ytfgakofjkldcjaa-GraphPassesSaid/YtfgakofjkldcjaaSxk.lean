/- Rows that lie apart; structs of numbers compared. No program in sight. -/
import Derived.Test.YtfgakofjkldcjaaSxj
import Derived.Laws.StructEq
namespace Go.Sx
open Go Go.RowKit
section
variable {P : Program} {w : World}
def Apart (A : Option Addr) (c : Nat) (B : Option Addr) (d : Nat) : Prop := ∀ g, rowOf A c = some g → rowOf B d ≠ some g
theorem Apart.symm {A B : Option Addr} {c d : Nat} (h : Apart A c B d) : Apart B d A c := fun g h1 h2 => h g h2 h1
theorem Apart.zero (A B : Option Addr) (d : Nat) : Apart A 0 B d := fun g h => by rw [rowOf_zero] at h; cases h
theorem Apart.step {A A' B : Option Addr} {c c' d : Nat} (h : Apart A c B d) (ht : At w A c A' c') (hb : ∀ g, rowOf B d = some g → g < w.heap.size) : Apart A' c' B d := fun g h1 h2 => by
  rcases ht g h1 with h3 | h3
  · exact h g h3 h2
  · have := hb g h2; omega
theorem Apart.new {A B : Option Addr} {c d g : Nat} (hA : A = some ⟨g, 0, none⟩) (hg : w.heap.size ≤ g) (hb : ∀ g, rowOf B d = some g → g < w.heap.size) : Apart A c B d := fun g' h1 h2 => by
  subst hA
  have := rowOf_lit h1
  have := hb g' h2
  omega
/-- Fields that are numbers of one cell. -/
def eqAll (xs ys : List Value) : List (IntKind × Nat) → Bool
  | [] => true
  | (_, o) :: fs => (match xs[o]?, ys[o]? with | some (.int _ a), some (.int _ b) => decide (a = b) | _, _ => false) && eqAll xs ys fs
def FieldsOk (P : Program) (xs ys : List Value) : List Field → List (IntKind × Nat) → Prop
  | [], [] => True
  | f :: fs, (k, o) :: ks => f.name ≠ "_" ∧ f.offset = o ∧ P.underlying f.type = some (.int k) ∧ (∃ a b : Int, xs[o]? = some (.int k a) ∧ ys[o]? = some (.int k b)) ∧ FieldsOk P xs ys fs ks
  | _, _ => False
theorem run_eqFields (d : Nat) (xs ys : List Value) : ∀ (fs : List Field) (ks : List (IntKind × Nat)), FieldsOk P xs ys fs ks → ∀ w : World, (Op.eqFields (d + 1) xs.toArray ys.toArray fs).run P w = .ok (eqAll xs ys ks) w
  | [], [], _, w => by simp [Op.eqFields, eqAll]
  | f :: fs, (k, o) :: ks, h, w => by
    obtain ⟨h1, h2, h3, ⟨a, b, ha, hb⟩, h4⟩ := h
    have ih := run_eqFields d xs ys fs ks h4 w
    have p1 := run_part1 (P := P) (e := f.type) (xs := xs.toArray) (o := o) (v := .int k a) ⟨_, h3, rfl⟩ (by simpa using ha) w
    have p2 := run_part1 (P := P) (e := f.type) (xs := ys.toArray) (o := o) (v := .int k b) ⟨_, h3, rfl⟩ (by simpa using hb) w
    have p3 := run_equalIn_int (P := P) w d f.type k k a b h3
    simp only [Op.eqFields, eqAll, ha, hb]
    rw [if_pos h1, h2]
    simp only [Sem.run_bind, p1, p2, p3, Result.andThen_ok]
    by_cases hab : a = b
    · subst hab; simp [ih]
    · have : (a == b) = false := by simpa using hab
      simp [this, hab]
  | [], _ :: _, h, _ => h.elim
  | _ :: _, [], h, _ => h.elim
theorem Eqv.ints {d t : Nat} (xs ys : List Value) (ks : List (IntKind × Nat)) (ht : P.underlying t = some (.struct (P.fieldsOf t))) (hp : P.stoodInHeld t = false) (hf : FieldsOk P xs ys (P.fieldsOf t).toList ks) : Eqv P (d + 2) t (.agg xs.toArray) (.agg ys.toArray) (eqAll xs ys ks) := fun w => by
  rw [run_equalIn_struct w (d + 1) t _ _ ht hp]
  exact run_eqFields d xs ys _ ks hf w
end
end Go.Sx
