/- Opening bounds. -/
import Derived.Test.YtfgakofjkldcjaaOpnP
import Derived.Test.YtfgakofjkldcjaaHop2
namespace Go.Proofs.Ytfgakofjkldcjaa
open Go Go.Sx Go.Osp Go.Gsp Go.ChangeShapes Go.WideShapes Go.Deep
set_option linter.unusedVariables false
set_option linter.unusedSimpArgs false
set_option maxRecDepth 20000
variable {H : Type} {enc : TypeId × Value → H} {w : World} {base : Nat} {spare : Nat → Bool} {held : Bool}
theorem one_atB {α : Type} {cs : List α} {i : Nat} {v : α} (h : (cs.drop i).take 1 = [v]) : cs[i]? = some v := by
  have h0 : ((cs.drop i).take 1)[0]? = cs[i]? := by simp [List.getElem?_drop]
  rw [← h0, h]; rfl
theorem open_bnd {r : Reach} {b0 : Nat} {v : Value} {d : DataW H} {ps : List MemPlace} (hval : Value.okWide Try.prog w r b0 100 v) (hd : DataW.Trod enc Try.prog w base spare held 100 v d ps) : ∃ b : Bnd, v = .agg (bndV b).toArray := by
  obtain ⟨cs, rfl⟩ := okWide_struct Try.underlying100 hval
  obtain ⟨fuel, h⟩ := hd
  obtain ⟨xs, m, _, _, hl, hxl, hi⟩ := DataW.trod_struct Try.underlying100 h
  rw [show Try.prog.cellsOf 100 = 3 by kernel_rfl] at hl
  have hx : ∀ i, i < 3 → ∃ y, xs[i]? = some y := fun i h6 => ⟨_, List.getElem?_eq_getElem (by rw [hxl]; exact h6)⟩
  have c1 : Try.prog.cellsOf 3 = 1 := by kernel_rfl
  have gi : ∀ (i : Nat) (f : Field), i < 3 → DataW.trod enc Try.prog w base spare held m f.type (((Value.agg cs).cells.toList.drop f.offset).take (Try.prog.cellsOf f.type)) = xs[i]? → f.offset = i → f.type = 3 → ∃ n : Int, cs.toList[i]? = some (.int .i64 n) := by
    intro i f h6 hf ho ht
    obtain ⟨y, hy⟩ := hx i h6
    rw [ho, ht, c1, hy] at hf
    obtain ⟨n, hn, _, hw⟩ := DataW.trod_int Try.underlying3 hf
    exact ⟨n, one_atB hn⟩
  obtain ⟨n0, e0⟩ := gi 0 _ (by decide) (hi 0 _ rfl) rfl rfl
  obtain ⟨n1, e1⟩ := gi 1 _ (by decide) (hi 1 _ rfl) rfl rfl
  obtain ⟨n2, e2⟩ := gi 2 _ (by decide) (hi 2 _ rfl) rfl rfl
  refine ⟨⟨n0, n1, n2⟩, ?_⟩
  congr 1
  apply Array.ext'
  apply List.ext_getElem?
  intro i
  have hl' : cs.toList.length = 3 := hl
  by_cases h6 : i < 3
  · have : i = 0 ∨ i = 1 ∨ i = 2 := by omega
    rcases this with rfl | rfl | rfl
    · rw [e0]; rfl
    · rw [e1]; rfl
    · rw [e2]; rfl
  · rw [List.getElem?_eq_none (by omega), List.getElem?_eq_none (by show (bndV _).length ≤ i; rw [bndV_row.len]; omega)]
end Go.Proofs.Ytfgakofjkldcjaa
