/- Opening slices of acts. -/
import Derived.Test.YtpmjdiccekkadaaOpn3
import Derived.Test.YtpmjdiccekkadaaLaw31c
namespace Go.Proofs.Ytpmjdiccekkadaa
open Go Go.Sx Go.Osp Go.ChangeShapes Go.WideShapes Go.Deep
set_option linter.unusedVariables false
set_option maxRecDepth 20000
variable {H : Type} {enc : TypeId × Value → H} {w : World} {base : Nat} {spare : Nat → Bool} {held : Bool}
theorem read_act : ∀ fuel cs x, DataW.trod enc Try.prog w base spare held fuel 65 cs = some x → ∃ q : ActS, cs = actV q ∧ q.2.1.length = 32 := by
  intro fuel cs x h
  obtain ⟨xs, m, _, _, hl, hxl, hi⟩ := DataW.trod_struct Try.underlying65 h
  rw [show Try.prog.cellsOf 65 = 34 by kernel_rfl] at hl
  have hx : ∀ i, i < 3 → ∃ y, xs[i]? = some y := fun i h6 => ⟨_, List.getElem?_eq_getElem (by rw [hxl]; exact h6)⟩
  have c1 : Try.prog.cellsOf 3 = 1 := by kernel_rfl
  have c2 : Try.prog.cellsOf 23 = 32 := by kernel_rfl
  have gi : ∀ (i off : Nat) (f : Field), i < 3 → DataW.trod enc Try.prog w base spare held m f.type ((cs.drop f.offset).take (Try.prog.cellsOf f.type)) = xs[i]? → f.offset = off → f.type = 3 → ∃ n : Int, cs[off]? = some (.int .i64 n) := by
    intro i off f h6 hf ho ht
    obtain ⟨y, hy⟩ := hx i h6
    rw [ho, ht, c1, hy] at hf
    obtain ⟨n, hn, _, hw⟩ := DataW.trod_int Try.underlying3 hf
    exact ⟨n, one_at hn⟩
  have gh : ∀ (f : Field), DataW.trod enc Try.prog w base spare held m f.type ((cs.drop f.offset).take (Try.prog.cellsOf f.type)) = xs[1]? → f.offset = 1 → f.type = 23 → ∃ q : List (BitVec 8), (cs.drop 1).take 32 = q.map u8v ∧ q.length = 32 := by
    intro f hf ho ht
    obtain ⟨y, hy⟩ := hx 1 (by decide)
    rw [ho, ht, c2, hy] at hf
    exact read_bytes Try.underlying23 Try.underlying5 (by kernel_rfl) c2 _ _ _ hf
  obtain ⟨n0, e0⟩ := gi 0 0 _ (by decide) (hi 0 _ rfl) rfl rfl
  obtain ⟨q, e1, q32⟩ := gh _ (hi 1 _ rfl) rfl rfl
  obtain ⟨n2, e2⟩ := gi 2 33 _ (by decide) (hi 2 _ rfl) rfl rfl
  refine ⟨(n0, q, n2), ?_, q32⟩
  apply List.ext_getElem?
  intro i
  by_cases h0 : i = 0
  · subst h0; rw [e0]; rfl
  · obtain ⟨j, rfl⟩ : ∃ j, i = j + 1 := ⟨i - 1, by omega⟩
    simp only [actV, List.getElem?_cons_succ]
    by_cases h32 : j < 32
    · rw [List.getElem?_append_left (by simp [q32, h32]), ← e1, List.getElem?_take, if_pos h32, List.getElem?_drop, Nat.add_comm]
    · by_cases h33 : j = 32
      · subst h33
        rw [List.getElem?_append_right (by simp [q32]), e2]; simp [q32]
      · rw [List.getElem?_eq_none (by omega), List.getElem?_eq_none (by simp [q32]; omega)]
theorem open_acts {r : Reach} {b0 : Nat} {v : Value} {d : DataW H} {ps : List MemPlace} (hval : Value.okWide Try.prog w r b0 59 v) (hd : DataW.Trod enc Try.prog w base spare held 59 v d ps) :
    ∃ A n c, ∃ xs : List ActS, v = .slice A n c ∧ (Rws w 34 A n (xs.map actV) ∧ ∀ a ∈ xs, a.2.1.length = 32) ∧ n ≤ c ∧ c ≤ 9223372036854775807 := by
  obtain ⟨A, n, c, qs, rfl, h1, h2, h3, h4, h5⟩ := open_rows (α := ActS) (f := actV) (good := fun q => q.2.1.length = 32) Try.underlying59 (show Try.prog.cellsOf 65 = 34 by kernel_rfl) read_act hval hd
  exact ⟨A, n, c, qs, rfl, ⟨⟨by simp [h1], fun r hr => by obtain ⟨x, hx, rfl⟩ := List.mem_map.1 hr; exact (h2 x hx).2, h3⟩, fun q hq => (h2 q hq).1⟩, h4, by unfold maxLen at h5; omega⟩
end Go.Proofs.Ytpmjdiccekkadaa
