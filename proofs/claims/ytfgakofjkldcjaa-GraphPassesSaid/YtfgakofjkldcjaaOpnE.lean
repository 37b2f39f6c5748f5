/- Opening slices of edges. -/
import Derived.Test.YtfgakofjkldcjaaOpn2
import Derived.Test.YtfgakofjkldcjaaHop
namespace Go.Proofs.Ytfgakofjkldcjaa
set_option linter.unusedSimpArgs false
set_option linter.unusedVariables false
open Go Go.Sx Go.Osp Go.Gsp Go.ChangeShapes Go.WideShapes Go.Deep
set_option linter.unusedVariables false
set_option maxRecDepth 20000
variable {H : Type} {enc : TypeId × Value → H} {w : World} {base : Nat} {spare : Nat → Bool} {held : Bool}
theorem one_at' {α : Type} {cs : List α} {i : Nat} {v : α} (h : (cs.drop i).take 1 = [v]) : cs[i]? = some v := by
  have h0 : ((cs.drop i).take 1)[0]? = cs[i]? := by simp [List.getElem?_drop]
  rw [← h0, h]; rfl
instance : Inhabited Gsp.Edge := ⟨noEdge⟩
def I64' (n : Int) : Prop := -9223372036854775808 ≤ n ∧ n ≤ 9223372036854775807
theorem read_pol : ∀ fuel cs x, DataW.trod enc Try.prog w base spare held fuel 74 cs = some x → ∃ q : Pol, cs = polV q ∧ PolI q := by
  intro fuel cs x h
  obtain ⟨xs, m, _, _, hl, hxl, hi⟩ := DataW.trod_struct Try.underlying74 h
  rw [show Try.prog.cellsOf 74 = 5 by kernel_rfl] at hl
  have hx : ∀ i, i < 5 → ∃ y, xs[i]? = some y := fun i h6 => ⟨_, List.getElem?_eq_getElem (by rw [hxl]; exact h6)⟩
  have c1 : Try.prog.cellsOf 3 = 1 := by kernel_rfl
  have gi : ∀ (i : Nat) (f : Field), i < 5 → DataW.trod enc Try.prog w base spare held m f.type ((cs.drop f.offset).take (Try.prog.cellsOf f.type)) = xs[i]? → f.offset = i → f.type = 3 → ∃ n : Int, cs[i]? = some (.int .i64 n) ∧ I64' n := by
    intro i f h6 hf ho ht
    obtain ⟨y, hy⟩ := hx i h6
    rw [ho, ht, c1, hy] at hf
    obtain ⟨n, hn, _, hw⟩ := DataW.trod_int Try.underlying3 hf
    exact ⟨n, one_at' hn, bounds_i64 hw⟩
  obtain ⟨n0, e0, b0⟩ := gi 0 _ (by decide) (hi 0 _ rfl) rfl rfl
  obtain ⟨n1, e1, b1⟩ := gi 1 _ (by decide) (hi 1 _ rfl) rfl rfl
  obtain ⟨n2, e2, b2⟩ := gi 2 _ (by decide) (hi 2 _ rfl) rfl rfl
  obtain ⟨n3, e3, b3⟩ := gi 3 _ (by decide) (hi 3 _ rfl) rfl rfl
  obtain ⟨n4, e4, b4⟩ := gi 4 _ (by decide) (hi 4 _ rfl) rfl rfl
  refine ⟨⟨n0, n1, n2, n3, n4⟩, ?_, b0, b1, b2, b3, b4⟩
  apply List.ext_getElem?
  intro i
  by_cases h6 : i < 5
  · have : i = 0 ∨ i = 1 ∨ i = 2 ∨ i = 3 ∨ i = 4 := by omega
    rcases this with rfl | rfl | rfl | rfl | rfl
    · rw [e0]; rfl
    · rw [e1]; rfl
    · rw [e2]; rfl
    · rw [e3]; rfl
    · rw [e4]; rfl
  · rw [List.getElem?_eq_none (by omega), List.getElem?_eq_none (by rw [polV_row.len]; omega)]
theorem read_edge : ∀ fuel cs x, DataW.trod enc Try.prog w base spare held fuel 76 cs = some x → ∃ q : Gsp.Edge, cs = edgeV q ∧ EdgeI q := by
  intro fuel cs x h
  obtain ⟨xs, m, _, _, hl, hxl, hi⟩ := DataW.trod_struct Try.underlying76 h
  rw [show Try.prog.cellsOf 76 = 9 by kernel_rfl] at hl
  have hx : ∀ i, i < 5 → ∃ y, xs[i]? = some y := fun i h6 => ⟨_, List.getElem?_eq_getElem (by rw [hxl]; exact h6)⟩
  have c1 : Try.prog.cellsOf 3 = 1 := by kernel_rfl
  have c5 : Try.prog.cellsOf 74 = 5 := by kernel_rfl
  have gi : ∀ (i : Nat) (f : Field), i < 5 → DataW.trod enc Try.prog w base spare held m f.type ((cs.drop f.offset).take (Try.prog.cellsOf f.type)) = xs[i]? → f.offset = i → f.type = 3 → ∃ n : Int, cs[i]? = some (.int .i64 n) ∧ I64' n := by
    intro i f h6 hf ho ht
    obtain ⟨y, hy⟩ := hx i h6
    rw [ho, ht, c1, hy] at hf
    obtain ⟨n, hn, _, hw⟩ := DataW.trod_int Try.underlying3 hf
    exact ⟨n, one_at' hn, bounds_i64 hw⟩
  obtain ⟨n0, e0, b0⟩ := gi 0 _ (by decide) (hi 0 _ rfl) rfl rfl
  obtain ⟨n1, e1, b1⟩ := gi 1 _ (by decide) (hi 1 _ rfl) rfl rfl
  obtain ⟨n2, e2, b2⟩ := gi 2 _ (by decide) (hi 2 _ rfl) rfl rfl
  obtain ⟨n3, e3, b3⟩ := gi 3 _ (by decide) (hi 3 _ rfl) rfl rfl
  obtain ⟨p, hp, bp⟩ : ∃ q : Pol, (cs.drop 4).take 5 = polV q ∧ PolI q := by
    obtain ⟨y, hy⟩ := hx 4 (by decide)
    have h4 := hi 4 _ rfl
    rw [hy] at h4
    have h5 : DataW.trod enc Try.prog w base spare held m 74 ((cs.drop 4).take (Try.prog.cellsOf 74)) = some y := h4
    rw [c5] at h5
    exact read_pol _ _ _ h5
  refine ⟨⟨n0, n1, n2, n3, p⟩, ?_, b0, b1, b2, b3, bp⟩
  apply List.ext_getElem?
  intro i
  by_cases h4 : i < 4
  · have : i = 0 ∨ i = 1 ∨ i = 2 ∨ i = 3 := by omega
    rcases this with rfl | rfl | rfl | rfl
    · rw [e0]; rfl
    · rw [e1]; rfl
    · rw [e2]; rfl
    · rw [e3]; rfl
  · by_cases h9 : i < 9
    · have h := part_at hp (i - 4)
      have e : (edgeV ⟨n0, n1, n2, n3, p⟩)[i]? = (polV p)[i - 4]? := by
        have : i = 4 ∨ i = 5 ∨ i = 6 ∨ i = 7 ∨ i = 8 := by omega
        rcases this with rfl | rfl | rfl | rfl | rfl <;> rfl
      rw [e]
      have hlt : i - 4 < (polV p).length := by rw [polV_row.len]; omega
      rw [List.getElem?_eq_getElem hlt]
      have := h _ (List.getElem?_eq_getElem hlt)
      rwa [show 4 + (i - 4) = i by omega] at this
    · rw [List.getElem?_eq_none (by omega), List.getElem?_eq_none (by rw [edgeV_row.len]; omega)]
theorem open_edges {r : Reach} {b0 : Nat} {v : Value} {d : DataW H} {ps : List MemPlace} (hval : Value.okWide Try.prog w r b0 59 v) (hd : DataW.Trod enc Try.prog w base spare held 59 v d ps) :
    ∃ A n c, ∃ xs : List Gsp.Edge, v = .slice A n c ∧ (Vec w edgeV 9 A n xs ∧ ∀ h ∈ xs, EdgeI h) ∧ n ≤ c ∧ c ≤ 9223372036854775807 := by
  obtain ⟨A, n, c, qs, rfl, h1, h2, h3, h4, h5⟩ := open_rows (α := Gsp.Edge) (f := edgeV) (good := EdgeI) Try.underlying59 (show Try.prog.cellsOf 76 = 9 by kernel_rfl) read_edge hval hd
  exact ⟨A, n, c, qs, rfl, ⟨⟨h1, h3⟩, fun q hq => (h2 q hq).1⟩, h4, by unfold maxLen at h5; omega⟩
end Go.Proofs.Ytfgakofjkldcjaa
