/- LedgerHolds: for every input the law answers true and leaves its arguments as they were. -/
import Derived.Test.YtnmcbdbpafhinaaLedgerHoldsM
import Derived.OrdersHeld
import Derived.WalkKit
import Derived.Deep.AppendSrc
import Derived.Deep.MidRow
import Derived.Laws.OwnMore
import Derived.WalkSpells
import Derived.Lib.ConvBytes
import Derived.Lib.AppendZerosOnto
import Derived.Laws.StructEq
import Derived.Maps.RangeRun
import Derived.Laws.Pointers
import Derived.Test.YtnmcbdbpafhinaaProg
import Derived.KernelRfl
import Derived.Lib.Mul64
import Derived.Shelf.SlIterI.Nil
import Derived.Shelf.SortM.Plain
import Derived.Shelf.SortM.SortNone
import Derived.Ground.GgzProg
import Derived.Ground.SlgmProg
import Derived.ProofKit
import Derived.OpenShut
import Derived.ShutString
import Derived.ChangeOld
import Derived.Below
import Derived.Deep.Slices
namespace Go.Sx
open Go Go.ChangeShapes Go.WideShapes Go.Deep
set_option linter.unusedVariables false
variable {H : Type} {enc : TypeId × Value → H} {P : Program} {w : World} {base : Nat} {spare : Nat → Bool} {held : Bool}

theorem okWide_array {t e : TypeId} {k : Nat} {r : Reach} {b0 : Nat} {v : Value} (ht : P.underlying t = some (.array k e)) (h : Value.okWide P w r b0 t v) : ∃ cs : Array Value, v = .agg cs := by
  simp only [Value.okWide, ht] at h
  obtain ⟨cs, h1, _⟩ := h
  exact ⟨cs, h1⟩
end Go.Sx

namespace Go.Sx
open Go Go.ChangeShapes Go.WideShapes Go.Deep
set_option linter.unusedVariables false
variable {H : Type} {enc : TypeId × Value → H} {P : Program} {w : World} {base : Nat} {spare : Nat → Bool} {held : Bool}
theorem open_u64 {t : TypeId} {r : Reach} {b0 : Nat} {v : Value} {d : DataW H} {ps : List MemPlace} (ht : P.underlying t = some (.int .u64)) (hval : Value.okWide P w r b0 t v) (hd : DataW.Trod enc P w base spare held t v d ps) : ∃ q : Nat, v = .int .u64 ((q : Nat) : Int) ∧ q < 18446744073709551616 := by
  obtain ⟨a, rfl, rfl, rfl, s⟩ := open_int ht hval hd
  have := bounds_u64 s
  exact ⟨a.toNat, by rw [show ((a.toNat : Nat) : Int) = a by omega], by omega⟩
end Go.Sx

namespace Go.Sx
open Go Go.ChangeShapes Go.WideShapes Go.Deep
set_option linter.unusedVariables false
set_option linter.unusedSimpArgs false
variable {H : Type} {enc : TypeId × Value → H} {P : Program} {w : World} {base : Nat} {spare : Nat → Bool} {held : Bool}
theorem cut1 {α : Type} (cs : List α) (o s : Nat) : cs.drop o = (cs.drop o).take s ++ cs.drop (o + s) := by
  rw [← List.drop_drop]
  exact (List.take_append_drop s (cs.drop o)).symm
end Go.Sx

namespace Go.Proofs.Ytnmcbdbpafhinaa
open Go Go.Sx Go.Gsp Go.Lsp Go.ChangeShapes Go.WideShapes Go.Deep
set_option linter.unusedVariables false
set_option linter.unusedSimpArgs false
set_option maxRecDepth 20000
variable {H : Type} {enc : TypeId × Value → H} {w : World} {base : Nat} {spare : Nat → Bool} {held : Bool}
theorem read_arr {α : Type} [Inhabited α] {P : Program} {g1 : α → Value} {good : α → Prop} {t e : TypeId} {k : Nat} (ht : P.underlying t = some (.array k e)) (hc : P.cellsOf e = 1) (hct : P.cellsOf t = k) (hp : ∀ fuel cs x, DataW.trod enc P w base spare held fuel e cs = some x → ∃ q : α, cs = [g1 q] ∧ good q) :
    ∀ fuel cs x, DataW.trod enc P w base spare held fuel t cs = some x → ∃ qs : List α, cs = qs.map g1 ∧ qs.length = k ∧ ∀ q ∈ qs, good q := by
  intro fuel cs x h
  obtain ⟨xs, m, rfl, _, hl, hxl, hi⟩ := DataW.trod_array ht h
  rw [hct] at hl
  obtain ⟨Q, hQ⟩ := choose_lt (α := α) (p := fun i q => cs[i]? = some (g1 q) ∧ good q) (n := k) (fun i hi' => by
    have := hi i hi'
    rw [List.getElem?_eq_getElem (by omega)] at this
    obtain ⟨q, hq, hg⟩ := hp _ _ _ this
    rw [hc, Nat.mul_one] at hq
    refine ⟨q, ?_, hg⟩
    have h0 : ((cs.drop i).take 1)[0]? = cs[i]? := by simp [List.getElem?_drop]
    rw [← h0, hq]; rfl)
  refine ⟨(List.range k).map Q, ?_, by simp, fun q hq => ?_⟩
  · apply List.ext_getElem?
    intro i
    by_cases hik : i < k
    · rw [(hQ i hik).1]; simp [hik]
    · rw [List.getElem?_eq_none (by omega), List.getElem?_eq_none (by simp; omega)]
  · obtain ⟨i, hi', rfl⟩ := List.mem_map.1 hq
    exact (hQ i (List.mem_range.1 hi')).2
theorem read_u16 {P : Program} {e : TypeId} (he : P.underlying e = some (.int .u16)) : ∀ fuel cs x, DataW.trod enc P w base spare held fuel e cs = some x → ∃ q : Nat, cs = [.int .u16 ((q : Nat) : Int)] ∧ q < 65536 := by
  intro fuel cs x h
  obtain ⟨n, rfl, _, hw⟩ := DataW.trod_int he h
  have := bounds_u16 hw
  exact ⟨n.toNat, by rw [show ((n.toNat : Nat) : Int) = n by omega], by omega⟩
instance : Inhabited Four := ⟨noFour⟩
theorem open_four {r : Reach} {b0 : Nat} {v : Value} {d : DataW H} {ps : List MemPlace} (hval : Value.okWide Try.prog w r b0 23 v) (hd : DataW.Trod enc Try.prog w base spare held 23 v d ps) : ∃ x : Four, v = .agg (fourV x).toArray ∧ x.ok := by
  obtain ⟨cs, rfl⟩ := okWide_array Try.underlying23 hval
  obtain ⟨fuel, h⟩ := hd
  obtain ⟨qs, e, hl, hg⟩ := read_arr (P := Try.prog) Try.underlying23 (by kernel_rfl) (by kernel_rfl) (read_u16 Try.underlying22) _ _ _ h
  match qs, hl with
  | [a, b, c, d], _ =>
    refine ⟨⟨a, b, c, d⟩, ?_, hg a (by simp), hg b (by simp), hg c (by simp), hg d (by simp)⟩
    congr 1
    apply Array.ext'
    exact e
theorem open_u8n {t : TypeId} {r : Reach} {b0 : Nat} {v : Value} {d : DataW H} {ps : List MemPlace} (ht : Try.prog.underlying t = some (.int .u8)) (hval : Value.okWide Try.prog w r b0 t v) (hd : DataW.Trod enc Try.prog w base spare held t v d ps) : ∃ x : Nat, v = .int .u8 ((x : Nat) : Int) ∧ x < 256 := by
  obtain ⟨a, rfl, rfl, rfl, s⟩ := open_int ht hval hd
  have := bounds_u8 s
  exact ⟨a.toNat, by rw [show ((a.toNat : Nat) : Int) = a by omega], by omega⟩
theorem open_u16n {t : TypeId} {r : Reach} {b0 : Nat} {v : Value} {d : DataW H} {ps : List MemPlace} (ht : Try.prog.underlying t = some (.int .u16)) (hval : Value.okWide Try.prog w r b0 t v) (hd : DataW.Trod enc Try.prog w base spare held t v d ps) : ∃ x : Nat, v = .int .u16 ((x : Nat) : Int) ∧ x < 65536 := by
  obtain ⟨a, rfl, rfl, rfl, s⟩ := open_int ht hval hd
  have := bounds_u16 s
  exact ⟨a.toNat, by rw [show ((a.toNat : Nat) : Int) = a by omega], by omega⟩
instance : Inhabited Leg := ⟨noLeg⟩
end Go.Proofs.Ytnmcbdbpafhinaa

