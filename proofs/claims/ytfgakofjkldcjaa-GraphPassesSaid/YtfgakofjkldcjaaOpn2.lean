/- Opening slices of words of 64 bits. -/
import Derived.Test.YtfgakofjkldcjaaOpn
namespace Go.Sx
open Go Go.ChangeShapes Go.WideShapes Go.Deep
set_option linter.unusedVariables false
variable {H : Type} {enc : TypeId × Value → H} {P : Program} {w : World} {base : Nat} {spare : Nat → Bool} {held : Bool}
theorem read_u64 {e : TypeId} (he : P.underlying e = some (.int .u64)) : ∀ fuel cs x, DataW.trod enc P w base spare held fuel e cs = some x → ∃ q : Nat, cs = [.int .u64 ((q : Nat) : Int)] ∧ q < 18446744073709551616 := by
  intro fuel cs x h
  obtain ⟨n, rfl, _, hw⟩ := DataW.trod_int he h
  have := bounds_u64 hw
  exact ⟨n.toNat, by rw [show ((n.toNat : Nat) : Int) = n by omega], by omega⟩
theorem open_us {t e : TypeId} {r : Reach} {b0 : Nat} {v : Value} {d : DataW H} {ps : List MemPlace} (ht : P.underlying t = some (.slice e)) (he : P.underlying e = some (.int .u64)) (hc : P.cellsOf e = 1)
    (hval : Value.okWide P w r b0 t v) (hd : DataW.Trod enc P w base spare held t v d ps) : ∃ A n c, ∃ xs : List Nat, v = .slice A n c ∧ (Sl w 1 A n (xs.map fun q => .int .u64 ((q : Nat) : Int)) ∧ ∀ q ∈ xs, q < 18446744073709551616) ∧ n ≤ c ∧ c ≤ 9223372036854775807 := by
  obtain ⟨A, n, c, qs, rfl, h1, h2, h3, h4, h5⟩ := open_rows (α := Nat) (f := fun q => [.int .u64 ((q : Nat) : Int)]) ht hc (read_u64 he) hval hd
  rw [flat1] at h3
  exact ⟨A, n, c, qs, rfl, ⟨h3, fun q hq => (h2 q hq).1⟩, h4, by unfold maxLen at h5; omega⟩
theorem open_u64 {t : TypeId} {r : Reach} {b0 : Nat} {v : Value} {d : DataW H} {ps : List MemPlace} (ht : P.underlying t = some (.int .u64)) (hval : Value.okWide P w r b0 t v) (hd : DataW.Trod enc P w base spare held t v d ps) : ∃ q : Nat, v = .int .u64 ((q : Nat) : Int) ∧ q < 18446744073709551616 := by
  obtain ⟨a, rfl, rfl, rfl, s⟩ := open_int ht hval hd
  have := bounds_u64 s
  exact ⟨a.toNat, by rw [show ((a.toNat : Nat) : Int) = a by omega], by omega⟩
end Go.Sx
