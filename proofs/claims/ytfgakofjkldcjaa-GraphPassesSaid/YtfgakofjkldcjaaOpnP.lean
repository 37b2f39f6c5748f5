/- Opening a plan: points and blinds. -/
import Derived.Test.YtfgakofjkldcjaaOpn2
import Derived.Test.YtfgakofjkldcjaaHop
namespace Go.Proofs.Ytfgakofjkldcjaa
open Go Go.Sx Go.Osp Go.Gsp Go.ChangeShapes Go.WideShapes Go.Deep
set_option linter.unusedVariables false
set_option linter.unusedSimpArgs false
set_option maxRecDepth 20000
variable {H : Type} {enc : TypeId × Value → H} {w : World} {base : Nat} {spare : Nat → Bool} {held : Bool} {P : Program}
/-- A slice of rows read out of its cell. -/
theorem read_rows {α : Type} [Inhabited α] {f : α → List Value} {good : α → Prop} {t e : TypeId} {k : Nat}
    (ht : P.underlying t = some (.slice e)) (hc : P.cellsOf e = k) (hp : ∀ fuel cs x, DataW.trod enc P w base spare held fuel e cs = some x → ∃ q, cs = f q ∧ good q) :
    ∀ fuel cs x, DataW.trod enc P w base spare held fuel t cs = some x → ∃ (A : Option Addr) (n c : Nat) (qs : List α), cs = [.slice A n c] ∧ qs.length = n ∧ (∀ q ∈ qs, good q ∧ (f q).length = k) ∧ Sl w k A n (qs.map f).flatten ∧ n ≤ c ∧ c ≤ maxLen := by
  intro fuel cs x hf
  obtain ⟨d, ps⟩ := x
  rcases open_slice ht hf with ⟨hcs, _⟩ | ⟨a, len, cap, m, n', D, Pl, hcs, hb, hl, hm, hmm, hx, hi⟩
  · exact ⟨none, 0, 0, [], hcs, rfl, fun q hq => by simp at hq, ⟨by simp, fun j u h => by simp at h⟩, Nat.le_refl _, Nat.zero_le _⟩
  · have hlm : len ≤ m := by rw [hmm]; split <;> omega
    obtain ⟨Q, hQ⟩ := choose_lt (α := α) (p := fun i q => w.cells? base (a.add (i * k)) k = some (f q) ∧ good q) (n := m) (fun i hi' => by
      obtain ⟨cs', h1, h2⟩ := hi i hi'
      obtain ⟨q, rfl, hg⟩ := hp _ _ _ h2
      rw [hc] at h1
      exact ⟨q, h1, hg⟩)
    have hall : ∀ q ∈ (List.range len).map Q, good q ∧ (f q).length = k := by
      intro q hq
      obtain ⟨i, hi', rfl⟩ := List.mem_map.1 hq
      have hin : i < len := List.mem_range.1 hi'
      obtain ⟨h1, h2⟩ := hQ i (by omega)
      exact ⟨h2, (World.cells?_some h1).2.1⟩
    refine ⟨some a, len, cap, (List.range len).map Q, hcs, by simp, hall, ⟨?_, ?_⟩, hl, hm⟩
    · rw [flatten_length _ (fun q hq => (hall q hq).2)]; simp
    · intro j u hu
      obtain ⟨hk0, q, h1, h2⟩ := flatten_get (k := k) _ (fun q hq => (hall q hq).2) j u hu
      have hjn : j / k < len := by
        have := (List.getElem?_eq_some_iff.1 h1).1
        simpa using this
      rw [List.getElem?_map, List.getElem?_range hjn] at h1
      simp at h1
      subst h1
      obtain ⟨g1, _⟩ := hQ (j / k) (by omega)
      obtain ⟨_, hlen, hcell⟩ := World.cells?_some g1
      refine ⟨a, rfl, ?_⟩
      have := hcell (j % k) (Nat.mod_lt _ hk0)
      rw [h2, Sx.add_add, show j / k * k + j % k = j by rw [Nat.mul_comm]; exact Nat.div_add_mod j k] at this
      exact this
theorem okWide_struct {t : TypeId} {fs : Array Field} {r : Reach} {b0 : Nat} {v : Value} (ht : P.underlying t = some (.struct fs)) (h : Value.okWide P w r b0 t v) : ∃ cs : Array Value, v = .agg cs := by
  simp only [Value.okWide, ht] at h
  obtain ⟨cs, h1, _⟩ := h
  exact ⟨cs, h1⟩
theorem open_plan {r : Reach} {b0 : Nat} {v : Value} {d : DataW H} {ps : List MemPlace} (hval : Value.okWide Try.prog w r b0 63 v) (hd : DataW.Trod enc Try.prog w base spare held 63 v d ps) :
    ∃ Ap np cp, ∃ pts : List Nat, ∃ Ab nb cb, ∃ bl : List Nat, v = .agg #[.slice Ap np cp, .slice Ab nb cb] ∧ Vec w pv1 1 Ap np pts ∧ Vec w pv1 1 Ab nb bl ∧ np ≤ 9223372036854775807 ∧ nb ≤ 9223372036854775807 ∧ (∀ q ∈ pts, q < 18446744073709551616) ∧ ∀ q ∈ bl, q < 18446744073709551616 := by
  obtain ⟨cs, rfl⟩ := okWide_struct Try.underlying63 hval
  obtain ⟨fuel, h⟩ := hd
  obtain ⟨xs, m, _, _, hl, hxl, hi⟩ := DataW.trod_struct Try.underlying63 h
  rw [show Try.prog.cellsOf 63 = 2 by kernel_rfl] at hl
  have hx : ∀ i, i < 2 → ∃ y, xs[i]? = some y := fun i h6 => ⟨_, List.getElem?_eq_getElem (by rw [hxl]; exact h6)⟩
  have c1 : Try.prog.cellsOf 60 = 1 := by kernel_rfl
  have c2 : Try.prog.cellsOf 61 = 1 := by kernel_rfl
  obtain ⟨y0, hy0⟩ := hx 0 (by decide)
  obtain ⟨y1, hy1⟩ := hx 1 (by decide)
  have h0 := hi 0 _ rfl
  have h1 := hi 1 _ rfl
  rw [hy0] at h0
  rw [hy1] at h1
  have k0 : DataW.trod enc Try.prog w base spare held m 60 (((Value.agg cs).cells.toList.drop 0).take (Try.prog.cellsOf 60)) = some y0 := h0
  have k1 : DataW.trod enc Try.prog w base spare held m 61 (((Value.agg cs).cells.toList.drop 1).take (Try.prog.cellsOf 61)) = some y1 := h1
  rw [c1] at k0
  rw [c2] at k1
  obtain ⟨Ap, np, cp, pts, e0, l0, g0, s0, n0, m0⟩ := read_rows (α := Nat) (f := pv1) (good := fun q => q < 18446744073709551616) Try.underlying60 (show Try.prog.cellsOf 31 = 1 by kernel_rfl) (read_u64 Try.underlying31) _ _ _ k0
  obtain ⟨Ab, nb, cb, bl, e1, l1, g1, s1, n1, m1⟩ := read_rows (α := Nat) (f := pv1) (good := fun q => q < 18446744073709551616) Try.underlying61 (show Try.prog.cellsOf 30 = 1 by kernel_rfl) (read_u64 Try.underlying30) _ _ _ k1
  refine ⟨Ap, np, cp, pts, Ab, nb, cb, bl, ?_, ⟨l0, s0⟩, ⟨l1, s1⟩, by unfold maxLen at m0; omega, by unfold maxLen at m1; omega, fun q hq => (g0 q hq).1, fun q hq => (g1 q hq).1⟩
  have hcs : cs.toList = [.slice Ap np cp, .slice Ab nb cb] := by
    have hl' : cs.toList.length = 2 := hl
    have e0' : (cs.toList.drop 0).take 1 = [.slice Ap np cp] := e0
    have e1' : (cs.toList.drop 1).take 1 = [.slice Ab nb cb] := e1
    match hq : cs.toList, hl' with
    | [u, v], _ => rw [hq] at e0' e1'; simp at e0' e1'; rw [e0', e1']
  congr 1
  apply Array.ext'
  exact hcs
end Go.Proofs.Ytfgakofjkldcjaa
