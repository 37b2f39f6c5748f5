/- Opening slices of hops. -/
import Derived.Test.YtpmjdiccekkadaaOpn2
import Derived.Test.YtpmjdiccekkadaaOnion2
namespace Go.Proofs.Ytpmjdiccekkadaa
open Go Go.Sx Go.Osp Go.ChangeShapes Go.WideShapes Go.Deep
set_option linter.unusedVariables false
set_option maxRecDepth 20000
variable {H : Type} {enc : TypeId × Value → H} {w : World} {base : Nat} {spare : Nat → Bool} {held : Bool}
theorem one_at {α : Type} {cs : List α} {i : Nat} {v : α} (h : (cs.drop i).take 1 = [v]) : cs[i]? = some v := by
  have h0 : ((cs.drop i).take 1)[0]? = cs[i]? := by simp [List.getElem?_drop]
  rw [← h0, h]; rfl
theorem read_hop : ∀ fuel cs x, DataW.trod enc Try.prog w base spare held fuel 51 cs = some x → ∃ q : Hop, cs = hopV q ∧ HopOk q := by
  intro fuel cs x h
  obtain ⟨xs, m, _, _, hl, hxl, hi⟩ := DataW.trod_struct Try.underlying51 h
  rw [show Try.prog.cellsOf 51 = 6 by kernel_rfl] at hl
  have hx : ∀ i, i < 6 → ∃ y, xs[i]? = some y := fun i h6 => ⟨_, List.getElem?_eq_getElem (by rw [hxl]; exact h6)⟩
  have c1 : Try.prog.cellsOf 3 = 1 := by kernel_rfl
  have c2 : Try.prog.cellsOf 49 = 1 := by kernel_rfl
  have c3 : Try.prog.cellsOf 48 = 1 := by kernel_rfl
  have gi : ∀ (i : Nat) (f : Field), i < 6 → DataW.trod enc Try.prog w base spare held m f.type ((cs.drop f.offset).take (Try.prog.cellsOf f.type)) = xs[i]? → f.offset = i → f.type = 3 → ∃ n : Int, cs[i]? = some (.int .i64 n) ∧ I64 n := by
    intro i f h6 hf ho ht
    obtain ⟨y, hy⟩ := hx i h6
    rw [ho, ht, c1, hy] at hf
    obtain ⟨n, hn, _, hw⟩ := DataW.trod_int Try.underlying3 hf
    exact ⟨n, one_at hn, bounds_i64 hw⟩
  have gu : ∀ (i : Nat) (f : Field) (t : TypeId), i < 6 → DataW.trod enc Try.prog w base spare held m f.type ((cs.drop f.offset).take (Try.prog.cellsOf f.type)) = xs[i]? → f.offset = i → f.type = t → Try.prog.cellsOf t = 1 → Try.prog.underlying t = some (.int .u64) → ∃ n : Nat, cs[i]? = some (.int .u64 ((n : Nat) : Int)) ∧ n < 18446744073709551616 := by
    intro i f t h6 hf ho ht hc hu
    obtain ⟨y, hy⟩ := hx i h6
    rw [ho, ht, hc, hy] at hf
    obtain ⟨n, hn, hb⟩ := read_u64 hu _ _ _ hf
    exact ⟨n, one_at hn, hb⟩
  obtain ⟨n0, e0, b0⟩ := gi 0 _ (by decide) (hi 0 _ rfl) rfl rfl
  obtain ⟨n1, e1, b1⟩ := gi 1 _ (by decide) (hi 1 _ rfl) rfl rfl
  obtain ⟨n2, e2, b2⟩ := gi 2 _ (by decide) (hi 2 _ rfl) rfl rfl
  obtain ⟨n3, e3, b3⟩ := gi 3 _ (by decide) (hi 3 _ rfl) rfl rfl
  obtain ⟨n4, e4, b4⟩ := gu 4 _ _ (by decide) (hi 4 _ rfl) rfl rfl c2 Try.underlying49
  obtain ⟨n5, e5, b5⟩ := gu 5 _ _ (by decide) (hi 5 _ rfl) rfl rfl c3 Try.underlying48
  refine ⟨(n0, n1, n2, n3, n4, n5), ?_, b0, b1, b2, b3, b4, b5⟩
  apply List.ext_getElem?
  intro i
  by_cases h6 : i < 6
  · have : i = 0 ∨ i = 1 ∨ i = 2 ∨ i = 3 ∨ i = 4 ∨ i = 5 := by omega
    rcases this with rfl | rfl | rfl | rfl | rfl | rfl
    · rw [e0]; rfl
    · rw [e1]; rfl
    · rw [e2]; rfl
    · rw [e3]; rfl
    · rw [e4]; rfl
    · rw [e5]; rfl
  · rw [List.getElem?_eq_none (by omega), List.getElem?_eq_none (by rw [hopV_length]; omega)]
theorem open_hops {r : Reach} {b0 : Nat} {v : Value} {d : DataW H} {ps : List MemPlace} (hval : Value.okWide Try.prog w r b0 42 v) (hd : DataW.Trod enc Try.prog w base spare held 42 v d ps) :
    ∃ A n c, ∃ xs : List Hop, v = .slice A n c ∧ (Rws w 6 A n (xs.map hopV) ∧ ∀ h ∈ xs, HopOk h) ∧ n ≤ c ∧ c ≤ 9223372036854775807 := by
  obtain ⟨A, n, c, qs, rfl, h1, h2, h3, h4, h5⟩ := open_rows (α := Hop) (f := hopV) (good := HopOk) Try.underlying42 (show Try.prog.cellsOf 51 = 6 by kernel_rfl) read_hop hval hd
  exact ⟨A, n, c, qs, rfl, ⟨⟨by simp [h1], fun r hr => by obtain ⟨x, _, rfl⟩ := List.mem_map.1 hr; rfl, h3⟩, fun q hq => (h2 q hq).1⟩, h4, by unfold maxLen at h5; omega⟩
end Go.Proofs.Ytpmjdiccekkadaa
