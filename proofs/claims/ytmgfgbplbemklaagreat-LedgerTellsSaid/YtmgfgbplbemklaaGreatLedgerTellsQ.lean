/- LedgerTells: for every input the law answers true and leaves its arguments as they were. -/
import Derived.Test.YtmgfgbplbemklaaGreatLedgerTellsP
import Derived.OrdersHeld
import Derived.WalkKit
import Derived.Deep.AppendSrc
import Derived.Deep.MidRow
import Derived.Laws.OwnMore
import Derived.WalkSpells
import Derived.Lib.ConvBytes
import Derived.Lib.AppendZerosOnto
import Derived.Laws.StructEq
import Derived.Maps.RangeRun
import Derived.Laws.Pointers
import Derived.Test.YtmgfgbplbemklaaGreatProg
import Derived.KernelRfl
import Derived.Lib.Mul64
import Derived.Shelf.SlIterI.Nil
import Derived.Shelf.SortM.Plain
import Derived.Shelf.SortM.SortNone
import Derived.Ground.GgzProg
import Derived.Ground.SlgmProg
import Derived.ProofKit
import Derived.OpenShut
import Derived.ShutString
import Derived.ChangeOld
import Derived.Below
import Derived.Deep.Slices
namespace Go.Sx
open Go Go.ChangeShapes Go.WideShapes Go.Deep
set_option linter.unusedVariables false
variable {H : Type} {enc : TypeId × Value → H} {P : Program} {w : World} {base : Nat} {spare : Nat → Bool} {held : Bool}

theorem flatten_get {α : Type} {k : Nat} {f : α → List Value} : ∀ (qs : List α), (∀ q ∈ qs, (f q).length = k) → ∀ (j : Nat) (u : Value), ((qs.map f).flatten)[j]? = some u → 0 < k ∧ ∃ q, qs[j / k]? = some q ∧ (f q)[j % k]? = some u
  | [], _, j, u, h => by simp at h
  | q :: qs, hk, j, u, h => by
    have hq := hk q (by simp)
    simp only [List.map_cons, List.flatten_cons] at h
    by_cases hj : j < k
    · rw [List.getElem?_append_left (by omega)] at h
      exact ⟨by omega, q, by simp [Nat.div_eq_of_lt hj], by rw [Nat.mod_eq_of_lt hj]; exact h⟩
    · rw [List.getElem?_append_right (by omega), hq] at h
      obtain ⟨hp, r, h1, h2⟩ := flatten_get qs (fun q hq => hk q (by simp [hq])) (j - k) u h
      have hd : j / k = (j - k) / k + 1 := by rw [Nat.div_eq_sub_div hp (by omega)]
      have hm : j % k = (j - k) % k := Nat.mod_eq_sub_mod (by omega)
      exact ⟨hp, r, by rw [hd]; simpa using h1, by rw [hm]; exact h2⟩
theorem flatten_length {α : Type} {k : Nat} {f : α → List Value} : ∀ (qs : List α), (∀ q ∈ qs, (f q).length = k) → ((qs.map f).flatten).length = qs.length * k
  | [], _ => by simp
  | q :: qs, hk => by
    have := flatten_length qs (fun q hq => hk q (by simp [hq]))
    simp only [List.map_cons, List.flatten_cons, List.length_append, List.length_cons, this, hk q (by simp)]
    rw [Nat.add_mul, Nat.one_mul, Nat.add_comm]

/-- A slice of rows opened: what is known of one row is known of all. -/
theorem open_rows {α : Type} [Inhabited α] {f : α → List Value} {good : α → Prop} {t e : TypeId} {k : Nat} {r : Reach} {b0 : Nat} {v : Value} {d : DataW H} {ps : List MemPlace}
    (ht : P.underlying t = some (.slice e)) (hc : P.cellsOf e = k) (hp : ∀ fuel cs x, DataW.trod enc P w base spare held fuel e cs = some x → ∃ q, cs = f q ∧ good q)
    (hval : Value.okWide P w r b0 t v) (hd : DataW.Trod enc P w base spare held t v d ps) :
    ∃ (A : Option Addr) (n c : Nat) (qs : List α), v = .slice A n c ∧ qs.length = n ∧ (∀ q ∈ qs, good q ∧ (f q).length = k) ∧ Sl w k A n (qs.map f).flatten ∧ n ≤ c ∧ c ≤ maxLen := by
  obtain ⟨A, n, c, rfl⟩ := okWide_slice ht hval
  obtain ⟨fuel, hf⟩ := hd
  rcases open_slice ht hf with ⟨hcs, _⟩ | ⟨a, len, cap, m, n', D, Pl, hcs, hb, hl, hm, hmm, hx, hi⟩
  · simp [Value.cells] at hcs
    obtain ⟨rfl, rfl, rfl⟩ := hcs
    exact ⟨none, 0, 0, [], rfl, rfl, fun q hq => by simp at hq, ⟨by simp, fun j u h => by simp at h⟩, Nat.le_refl _, Nat.zero_le _⟩
  · simp [Value.cells] at hcs
    obtain ⟨rfl, rfl, rfl⟩ := hcs
    have hlm : n ≤ m := by rw [hmm]; split <;> omega
    obtain ⟨Q, hQ⟩ := choose_lt (α := α) (p := fun i q => w.cells? base (a.add (i * k)) k = some (f q) ∧ good q) (n := m) (fun i hi' => by
      obtain ⟨cs', h1, h2⟩ := hi i hi'
      obtain ⟨q, rfl, hg⟩ := hp _ _ _ h2
      rw [hc] at h1
      exact ⟨q, h1, hg⟩)
    have hall : ∀ q ∈ (List.range n).map Q, good q ∧ (f q).length = k := by
      intro q hq
      obtain ⟨i, hi', rfl⟩ := List.mem_map.1 hq
      have hin : i < n := List.mem_range.1 hi'
      obtain ⟨h1, h2⟩ := hQ i (by omega)
      exact ⟨h2, (World.cells?_some h1).2.1⟩
    refine ⟨some a, n, c, (List.range n).map Q, rfl, by simp, hall, ⟨?_, ?_⟩, hl, hm⟩
    · rw [flatten_length _ (fun q hq => (hall q hq).2)]; simp
    · intro j u hu
      obtain ⟨hk0, q, h1, h2⟩ := flatten_get (k := k) _ (fun q hq => (hall q hq).2) j u hu
      have hjn : j / k < n := by
        have := (List.getElem?_eq_some_iff.1 h1).1
        simpa using this
      rw [List.getElem?_map, List.getElem?_range hjn] at h1
      simp at h1
      subst h1
      obtain ⟨g1, _⟩ := hQ (j / k) (by omega)
      obtain ⟨_, hlen, hcell⟩ := World.cells?_some g1
      refine ⟨a, rfl, ?_⟩
      have := hcell (j % k) (Nat.mod_lt _ hk0)
      rw [h2, add_add, show j / k * k + j % k = j by rw [Nat.mul_comm]; exact Nat.div_add_mod j k] at this
      exact this

end Go.Sx

namespace Go.Sx
open Go Go.ChangeShapes Go.WideShapes Go.Deep
set_option linter.unusedVariables false
variable {H : Type} {enc : TypeId × Value → H} {P : Program} {w : World} {base : Nat} {spare : Nat → Bool} {held : Bool}
theorem read_u64 {e : TypeId} (he : P.underlying e = some (.int .u64)) : ∀ fuel cs x, DataW.trod enc P w base spare held fuel e cs = some x → ∃ q : Nat, cs = [.int .u64 ((q : Nat) : Int)] ∧ q < 18446744073709551616 := by
  intro fuel cs x h
  obtain ⟨n, rfl, _, hw⟩ := DataW.trod_int he h
  have := bounds_u64 hw
  exact ⟨n.toNat, by rw [show ((n.toNat : Nat) : Int) = n by omega], by omega⟩
end Go.Sx

namespace Go.Sx
open Go Go.ChangeShapes Go.WideShapes Go.Deep
set_option linter.unusedVariables false
set_option linter.unusedSimpArgs false
variable {H : Type} {enc : TypeId × Value → H} {P : Program} {w : World} {base : Nat} {spare : Nat → Bool} {held : Bool}
def I64b (n : Int) : Prop := -9223372036854775808 ≤ n ∧ n ≤ 9223372036854775807
theorem cut1 {α : Type} (cs : List α) (o s : Nat) : cs.drop o = (cs.drop o).take s ++ cs.drop (o + s) := by
  rw [← List.drop_drop]
  exact (List.take_append_drop s (cs.drop o)).symm
theorem cut0 {α : Type} (cs : List α) : cs = cs.drop 0 := rfl
theorem cutN {α : Type} {cs : List α} {n : Nat} (h : cs.length = n) : cs.drop n = [] := List.drop_eq_nil_of_le (by omega)
theorem trod_fields {t : TypeId} {fs : Array Field} {fuel : Nat} {cs : List Value} {x : DataW H × List MemPlace} (ht : P.underlying t = some (.struct fs)) (h : DataW.trod enc P w base spare held fuel t cs = some x) :
    cs.length = P.cellsOf t ∧ ∃ m, ∀ (i : Nat) (f : Field), fs[i]? = some f → ∃ y, DataW.trod enc P w base spare held m f.type ((cs.drop f.offset).take (P.cellsOf f.type)) = some y := by
  obtain ⟨xs, m, _, _, hl, hxl, hi⟩ := DataW.trod_struct ht h
  refine ⟨hl, m, fun i f hf => ?_⟩
  have hlt : i < xs.length := by rw [hxl]; exact (Array.getElem?_eq_some_iff.1 hf).1
  exact ⟨_, (hi i f hf).trans (List.getElem?_eq_getElem hlt)⟩
theorem read_i64 {e : TypeId} (he : P.underlying e = some (.int .i64)) : ∀ fuel cs x, DataW.trod enc P w base spare held fuel e cs = some x → ∃ q : Int, cs = [.int .i64 q] ∧ I64b q := by
  intro fuel cs x h
  obtain ⟨n, rfl, _, hw⟩ := DataW.trod_int he h
  exact ⟨n, rfl, bounds_i64 hw⟩
/-- A slice of any rows, as a vector. -/
theorem open_vec {α : Type} [Inhabited α] {f : α → List Value} {good : α → Prop} {t e : TypeId} {k : Nat} {r : Reach} {b0 : Nat} {v : Value} {d : DataW H} {ps : List MemPlace} (ht : P.underlying t = some (.slice e)) (hc : P.cellsOf e = k) (hp : ∀ fuel cs x, DataW.trod enc P w base spare held fuel e cs = some x → ∃ q, cs = f q ∧ good q)
    (hval : Value.okWide P w r b0 t v) (hd : DataW.Trod enc P w base spare held t v d ps) : ∃ A n c, ∃ xs : List α, v = .slice A n c ∧ (Vec w f k A n xs ∧ ∀ h ∈ xs, good h) ∧ n ≤ c ∧ c ≤ 9223372036854775807 := by
  obtain ⟨A, n, c, qs, rfl, h1, h2, h3, h4, h5⟩ := open_rows (α := α) (f := f) (good := good) ht hc hp hval hd
  exact ⟨A, n, c, qs, rfl, ⟨⟨h1, h3⟩, fun q hq => (h2 q hq).1⟩, h4, by unfold maxLen at h5; omega⟩
end Go.Sx

namespace Go.Proofs.YtmgfgbplbemklaaGreat
open Go Go.Sx Go.Gsp Go.Lsp Go.ChangeShapes Go.WideShapes Go.Deep
set_option linter.unusedVariables false
set_option linter.unusedSimpArgs false
set_option maxRecDepth 20000
variable {H : Type} {enc : TypeId × Value → H} {w : World} {base : Nat} {spare : Nat → Bool} {held : Bool}
theorem read_arr {α : Type} [Inhabited α] {P : Program} {g1 : α → Value} {good : α → Prop} {t e : TypeId} {k : Nat} (ht : P.underlying t = some (.array k e)) (hc : P.cellsOf e = 1) (hct : P.cellsOf t = k) (hp : ∀ fuel cs x, DataW.trod enc P w base spare held fuel e cs = some x → ∃ q : α, cs = [g1 q] ∧ good q) :
    ∀ fuel cs x, DataW.trod enc P w base spare held fuel t cs = some x → ∃ qs : List α, cs = qs.map g1 ∧ qs.length = k ∧ ∀ q ∈ qs, good q := by
  intro fuel cs x h
  obtain ⟨xs, m, rfl, _, hl, hxl, hi⟩ := DataW.trod_array ht h
  rw [hct] at hl
  obtain ⟨Q, hQ⟩ := choose_lt (α := α) (p := fun i q => cs[i]? = some (g1 q) ∧ good q) (n := k) (fun i hi' => by
    have := hi i hi'
    rw [List.getElem?_eq_getElem (by omega)] at this
    obtain ⟨q, hq, hg⟩ := hp _ _ _ this
    rw [hc, Nat.mul_one] at hq
    refine ⟨q, ?_, hg⟩
    have h0 : ((cs.drop i).take 1)[0]? = cs[i]? := by simp [List.getElem?_drop]
    rw [← h0, hq]; rfl)
  refine ⟨(List.range k).map Q, ?_, by simp, fun q hq => ?_⟩
  · apply List.ext_getElem?
    intro i
    by_cases hik : i < k
    · rw [(hQ i hik).1]; simp [hik]
    · rw [List.getElem?_eq_none (by omega), List.getElem?_eq_none (by simp; omega)]
  · obtain ⟨i, hi', rfl⟩ := List.mem_map.1 hq
    exact (hQ i (List.mem_range.1 hi')).2
def goodLeg (q : Leg) : Prop := I64b q.ch ∧ I64b q.side ∧ I64b q.am
instance : Inhabited Leg := ⟨noLeg⟩
theorem read_Leg : ∀ fuel cs x, DataW.trod enc Tryz.prog w base spare held fuel 53 cs = some x → ∃ q : Leg, cs = legV q ∧ goodLeg q := by
  intro fuel cs x h
  obtain ⟨hl, m, hi⟩ := trod_fields Tryz.underlying53 h
  rw [show Tryz.prog.cellsOf 53 = 3 by kernel_rfl] at hl
  obtain ⟨y0, k0⟩ := hi 0 _ rfl
  have k0 : DataW.trod enc Tryz.prog w base spare held m 3 ((cs.drop 0).take (Tryz.prog.cellsOf 3)) = some y0 := k0
  rw [show Tryz.prog.cellsOf 3 = 1 by kernel_rfl] at k0
  obtain ⟨q0, e0, g0⟩ := read_i64 Tryz.underlying3 _ _ _ k0
  obtain ⟨y1, k1⟩ := hi 1 _ rfl
  have k1 : DataW.trod enc Tryz.prog w base spare held m 3 ((cs.drop 1).take (Tryz.prog.cellsOf 3)) = some y1 := k1
  rw [show Tryz.prog.cellsOf 3 = 1 by kernel_rfl] at k1
  obtain ⟨q1, e1, g1⟩ := read_i64 Tryz.underlying3 _ _ _ k1
  obtain ⟨y2, k2⟩ := hi 2 _ rfl
  have k2 : DataW.trod enc Tryz.prog w base spare held m 3 ((cs.drop 2).take (Tryz.prog.cellsOf 3)) = some y2 := k2
  rw [show Tryz.prog.cellsOf 3 = 1 by kernel_rfl] at k2
  obtain ⟨q2, e2, g2⟩ := read_i64 Tryz.underlying3 _ _ _ k2
  have e := (cut0 cs).trans ((cut1 cs 0 1).trans (congrArg (List.take 1 (cs.drop 0) ++ ·) ((cut1 cs 1 1).trans (congrArg (List.take 1 (cs.drop 1) ++ ·) ((cut1 cs 2 1).trans (congrArg (List.take 1 (cs.drop 2) ++ ·) (cutN hl)))))))
  simp only [e0, e1, e2] at e
  exact ⟨⟨q0, q1, q2⟩, e, g0, g1, g2⟩
end Go.Proofs.YtmgfgbplbemklaaGreat

namespace Go.Proofs.YtmgfgbplbemklaaGreat
open Go Go.Sx Go.ChangeShapes Go.WideShapes Go.Deep
set_option linter.unusedVariables false
set_option linter.unusedSimpArgs false
variable {H : Type} {enc : TypeId × Value → H} {w : World} {base : Nat} {spare : Nat → Bool} {held : Bool} {P : Program}
/-- A slice of rows read out of its cell. -/
theorem read_rows {α : Type} [Inhabited α] {f : α → List Value} {good : α → Prop} {t e : TypeId} {k : Nat}
    (ht : P.underlying t = some (.slice e)) (hc : P.cellsOf e = k) (hp : ∀ fuel cs x, DataW.trod enc P w base spare held fuel e cs = some x → ∃ q, cs = f q ∧ good q) :
    ∀ fuel cs x, DataW.trod enc P w base spare held fuel t cs = some x → ∃ (A : Option Addr) (n c : Nat) (qs : List α), cs = [.slice A n c] ∧ qs.length = n ∧ (∀ q ∈ qs, good q ∧ (f q).length = k) ∧ Sl w k A n (qs.map f).flatten ∧ n ≤ c ∧ c ≤ maxLen := by
  intro fuel cs x hf
  obtain ⟨d, ps⟩ := x
  rcases open_slice ht hf with ⟨hcs, _⟩ | ⟨a, len, cap, m, n', D, Pl, hcs, hb, hl, hm, hmm, hx, hi⟩
  · exact ⟨none, 0, 0, [], hcs, rfl, fun q hq => by simp at hq, ⟨by simp, fun j u h => by simp at h⟩, Nat.le_refl _, Nat.zero_le _⟩
  · have hlm : len ≤ m := by rw [hmm]; split <;> omega
    obtain ⟨Q, hQ⟩ := choose_lt (α := α) (p := fun i q => w.cells? base (a.add (i * k)) k = some (f q) ∧ good q) (n := m) (fun i hi' => by
      obtain ⟨cs', h1, h2⟩ := hi i hi'
      obtain ⟨q, rfl, hg⟩ := hp _ _ _ h2
      rw [hc] at h1
      exact ⟨q, h1, hg⟩)
    have hall : ∀ q ∈ (List.range len).map Q, good q ∧ (f q).length = k := by
      intro q hq
      obtain ⟨i, hi', rfl⟩ := List.mem_map.1 hq
      have hin : i < len := List.mem_range.1 hi'
      obtain ⟨h1, h2⟩ := hQ i (by omega)
      exact ⟨h2, (World.cells?_some h1).2.1⟩
    refine ⟨some a, len, cap, (List.range len).map Q, hcs, by simp, hall, ⟨?_, ?_⟩, hl, hm⟩
    · rw [flatten_length _ (fun q hq => (hall q hq).2)]; simp
    · intro j u hu
      obtain ⟨hk0, q, h1, h2⟩ := flatten_get (k := k) _ (fun q hq => (hall q hq).2) j u hu
      have hjn : j / k < len := by
        have := (List.getElem?_eq_some_iff.1 h1).1
        simpa using this
      rw [List.getElem?_map, List.getElem?_range hjn] at h1
      simp at h1
      subst h1
      obtain ⟨g1, _⟩ := hQ (j / k) (by omega)
      obtain ⟨_, hlen, hcell⟩ := World.cells?_some g1
      refine ⟨a, rfl, ?_⟩
      have := hcell (j % k) (Nat.mod_lt _ hk0)
      rw [h2, Sx.add_add, show j / k * k + j % k = j by rw [Nat.mul_comm]; exact Nat.div_add_mod j k] at this
      exact this
end Go.Proofs.YtmgfgbplbemklaaGreat

namespace Go.Proofs.YtmgfgbplbemklaaGreat
open Go Go.Sx Go.Gsp Go.Lsp Go.ChangeShapes Go.WideShapes Go.Deep
set_option linter.unusedVariables false
set_option linter.unusedSimpArgs false
set_option maxRecDepth 20000
variable {H : Type} {enc : TypeId × Value → H} {w : World} {base : Nat} {spare : Nat → Bool} {held : Bool}
theorem read_vec {α : Type} [Inhabited α] {P : Program} {f : α → List Value} {good : α → Prop} {t e : TypeId} {k : Nat} (ht : P.underlying t = some (.slice e)) (hc : P.cellsOf e = k) (hp : ∀ fuel cs x, DataW.trod enc P w base spare held fuel e cs = some x → ∃ q, cs = f q ∧ good q) :
    ∀ fuel cs x, DataW.trod enc P w base spare held fuel t cs = some x → ∃ (A : Option Addr) (n c : Nat) (xs : List α), cs = [.slice A n c] ∧ Vec w f k A n xs ∧ ∀ q ∈ xs, good q := by
  intro fuel cs x h
  obtain ⟨A, n, c, qs, e, h1, h2, h3, _⟩ := read_rows ht hc hp fuel cs x h
  exact ⟨A, n, c, qs, e, ⟨h1, h3⟩, fun q hq => (h2 q hq).1⟩
theorem read_pair : ∀ fuel cs x, DataW.trod enc Tryz.prog w base spare held fuel 35 cs = some x → ∃ q : Pair, cs = pairV q ∧ ∀ k, k < 2 → -9223372036854775808 ≤ q.ix k ∧ q.ix k ≤ 9223372036854775807 := by
  intro fuel cs x h
  obtain ⟨qs, e, hl, hg⟩ := read_arr (P := Tryz.prog) (g1 := fun q => .int .i64 q) Tryz.underlying35 (by kernel_rfl) (by kernel_rfl) (read_i64 Tryz.underlying3) _ _ _ h
  match qs, hl with
  | [a, b], _ =>
    refine ⟨⟨a, b⟩, e, fun k hk => ?_⟩
    have : k = 0 ∨ k = 1 := by omega
    rcases this with rfl | rfl
    · exact hg a (by simp)
    · exact hg b (by simp)
instance : Inhabited Seat := ⟨noSeat⟩
instance : Inhabited LAct := ⟨noLAct⟩
def anyS (_ : Seat) : Prop := True
theorem read_iv : ∀ fuel cs x, DataW.trod enc Tryz.prog w base spare held fuel 3 cs = some x → ∃ q : Int, cs = iv q ∧ I64b q := read_i64 Tryz.underlying3

theorem read_Seat : ∀ fuel cs x, DataW.trod enc Tryz.prog w base spare held fuel 44 cs = some x → ∃ q : Seat, cs = seatV q ∧ anyS q := by
  intro fuel cs x h
  obtain ⟨hl, m, hi⟩ := trod_fields Tryz.underlying44 h
  rw [show Tryz.prog.cellsOf 44 = 5 by kernel_rfl] at hl
  obtain ⟨y0, k0⟩ := hi 0 _ rfl
  have k0 : DataW.trod enc Tryz.prog w base spare held m 3 ((cs.drop 0).take (Tryz.prog.cellsOf 3)) = some y0 := k0
  rw [show Tryz.prog.cellsOf 3 = 1 by kernel_rfl] at k0
  obtain ⟨q0, e0, g0⟩ := read_i64 Tryz.underlying3 _ _ _ k0
  obtain ⟨y1, k1⟩ := hi 1 _ rfl
  have k1 : DataW.trod enc Tryz.prog w base spare held m 35 ((cs.drop 1).take (Tryz.prog.cellsOf 35)) = some y1 := k1
  rw [show Tryz.prog.cellsOf 35 = 2 by kernel_rfl] at k1
  obtain ⟨q1, e1, g1⟩ := read_pair _ _ _ k1
  obtain ⟨y2, k2⟩ := hi 2 _ rfl
  have k2 : DataW.trod enc Tryz.prog w base spare held m 35 ((cs.drop 3).take (Tryz.prog.cellsOf 35)) = some y2 := k2
  rw [show Tryz.prog.cellsOf 35 = 2 by kernel_rfl] at k2
  obtain ⟨q2, e2, g2⟩ := read_pair _ _ _ k2
  have e := (cut0 cs).trans ((cut1 cs 0 1).trans (congrArg (List.take 1 (cs.drop 0) ++ ·) ((cut1 cs 1 2).trans (congrArg (List.take 2 (cs.drop 1) ++ ·) ((cut1 cs 3 2).trans (congrArg (List.take 2 (cs.drop 3) ++ ·) (cutN hl)))))))
  simp only [e0, e1, e2] at e
  exact ⟨⟨q0, q1.a, q1.b, q2.a, q2.b⟩, e, trivial⟩
theorem read_LAct : ∀ fuel cs x, DataW.trod enc Tryz.prog w base spare held fuel 39 cs = some x → ∃ q : LAct, cs = lactV q ∧ (ActOk w) q := by
  intro fuel cs x h
  obtain ⟨hl, m, hi⟩ := trod_fields Tryz.underlying39 h
  rw [show Tryz.prog.cellsOf 39 = 17 by kernel_rfl] at hl
  obtain ⟨y0, k0⟩ := hi 0 _ rfl
  have k0 : DataW.trod enc Tryz.prog w base spare held m 3 ((cs.drop 0).take (Tryz.prog.cellsOf 3)) = some y0 := k0
  rw [show Tryz.prog.cellsOf 3 = 1 by kernel_rfl] at k0
  obtain ⟨q0, e0, g0⟩ := read_i64 Tryz.underlying3 _ _ _ k0
  obtain ⟨y1, k1⟩ := hi 1 _ rfl
  have k1 : DataW.trod enc Tryz.prog w base spare held m 3 ((cs.drop 1).take (Tryz.prog.cellsOf 3)) = some y1 := k1
  rw [show Tryz.prog.cellsOf 3 = 1 by kernel_rfl] at k1
  obtain ⟨q1, e1, g1⟩ := read_i64 Tryz.underlying3 _ _ _ k1
  obtain ⟨y2, k2⟩ := hi 2 _ rfl
  have k2 : DataW.trod enc Tryz.prog w base spare held m 3 ((cs.drop 2).take (Tryz.prog.cellsOf 3)) = some y2 := k2
  rw [show Tryz.prog.cellsOf 3 = 1 by kernel_rfl] at k2
  obtain ⟨q2, e2, g2⟩ := read_i64 Tryz.underlying3 _ _ _ k2
  obtain ⟨y3, k3⟩ := hi 3 _ rfl
  have k3 : DataW.trod enc Tryz.prog w base spare held m 3 ((cs.drop 3).take (Tryz.prog.cellsOf 3)) = some y3 := k3
  rw [show Tryz.prog.cellsOf 3 = 1 by kernel_rfl] at k3
  obtain ⟨q3, e3, g3⟩ := read_i64 Tryz.underlying3 _ _ _ k3
  obtain ⟨y4, k4⟩ := hi 4 _ rfl
  have k4 : DataW.trod enc Tryz.prog w base spare held m 3 ((cs.drop 4).take (Tryz.prog.cellsOf 3)) = some y4 := k4
  rw [show Tryz.prog.cellsOf 3 = 1 by kernel_rfl] at k4
  obtain ⟨q4, e4, g4⟩ := read_i64 Tryz.underlying3 _ _ _ k4
  obtain ⟨y5, k5⟩ := hi 5 _ rfl
  have k5 : DataW.trod enc Tryz.prog w base spare held m 33 ((cs.drop 5).take (Tryz.prog.cellsOf 33)) = some y5 := k5
  rw [show Tryz.prog.cellsOf 33 = 1 by kernel_rfl] at k5
  obtain ⟨q5, e5, g5⟩ := read_u64 Tryz.underlying33 _ _ _ k5
  obtain ⟨y6, k6⟩ := hi 6 _ rfl
  have k6 : DataW.trod enc Tryz.prog w base spare held m 34 ((cs.drop 6).take (Tryz.prog.cellsOf 34)) = some y6 := k6
  rw [show Tryz.prog.cellsOf 34 = 1 by kernel_rfl] at k6
  obtain ⟨q6, e6, g6⟩ := read_u64 Tryz.underlying34 _ _ _ k6
  obtain ⟨y7, k7⟩ := hi 7 _ rfl
  have k7 : DataW.trod enc Tryz.prog w base spare held m 35 ((cs.drop 7).take (Tryz.prog.cellsOf 35)) = some y7 := k7
  rw [show Tryz.prog.cellsOf 35 = 2 by kernel_rfl] at k7
  obtain ⟨q7, e7, g7⟩ := read_pair _ _ _ k7
  obtain ⟨y8, k8⟩ := hi 8 _ rfl
  have k8 : DataW.trod enc Tryz.prog w base spare held m 35 ((cs.drop 9).take (Tryz.prog.cellsOf 35)) = some y8 := k8
  rw [show Tryz.prog.cellsOf 35 = 2 by kernel_rfl] at k8
  obtain ⟨q8, e8, g8⟩ := read_pair _ _ _ k8
  obtain ⟨y9, k9⟩ := hi 9 _ rfl
  have k9 : DataW.trod enc Tryz.prog w base spare held m 35 ((cs.drop 11).take (Tryz.prog.cellsOf 35)) = some y9 := k9
  rw [show Tryz.prog.cellsOf 35 = 2 by kernel_rfl] at k9
  obtain ⟨q9, e9, g9⟩ := read_pair _ _ _ k9
  obtain ⟨y10, k10⟩ := hi 10 _ rfl
  have k10 : DataW.trod enc Tryz.prog w base spare held m 36 ((cs.drop 13).take (Tryz.prog.cellsOf 36)) = some y10 := k10
  rw [show Tryz.prog.cellsOf 36 = 1 by kernel_rfl] at k10
  obtain ⟨A10, n10, c10, x10, e10, g10⟩ := read_vec (f := legV) Tryz.underlying36 (show Tryz.prog.cellsOf 53 = 3 by kernel_rfl) read_Leg _ _ _ k10
  obtain ⟨y11, k11⟩ := hi 11 _ rfl
  have k11 : DataW.trod enc Tryz.prog w base spare held m 22 ((cs.drop 14).take (Tryz.prog.cellsOf 22)) = some y11 := k11
  rw [show Tryz.prog.cellsOf 22 = 1 by kernel_rfl] at k11
  obtain ⟨A11, n11, c11, x11, e11, g11⟩ := read_vec (f := iv) Tryz.underlying22 (show Tryz.prog.cellsOf 3 = 1 by kernel_rfl) read_iv _ _ _ k11
  obtain ⟨y12, k12⟩ := hi 12 _ rfl
  have k12 : DataW.trod enc Tryz.prog w base spare held m 37 ((cs.drop 15).take (Tryz.prog.cellsOf 37)) = some y12 := k12
  rw [show Tryz.prog.cellsOf 37 = 1 by kernel_rfl] at k12
  obtain ⟨A12, n12, c12, x12, e12, g12⟩ := read_vec (f := seatV) Tryz.underlying37 (show Tryz.prog.cellsOf 44 = 5 by kernel_rfl) read_Seat _ _ _ k12
  obtain ⟨y13, k13⟩ := hi 13 _ rfl
  have k13 : DataW.trod enc Tryz.prog w base spare held m 22 ((cs.drop 16).take (Tryz.prog.cellsOf 22)) = some y13 := k13
  rw [show Tryz.prog.cellsOf 22 = 1 by kernel_rfl] at k13
  obtain ⟨A13, n13, c13, x13, e13, g13⟩ := read_vec (f := iv) Tryz.underlying22 (show Tryz.prog.cellsOf 3 = 1 by kernel_rfl) read_iv _ _ _ k13
  have e := (cut0 cs).trans ((cut1 cs 0 1).trans (congrArg (List.take 1 (cs.drop 0) ++ ·) ((cut1 cs 1 1).trans (congrArg (List.take 1 (cs.drop 1) ++ ·) ((cut1 cs 2 1).trans (congrArg (List.take 1 (cs.drop 2) ++ ·) ((cut1 cs 3 1).trans (congrArg (List.take 1 (cs.drop 3) ++ ·) ((cut1 cs 4 1).trans (congrArg (List.take 1 (cs.drop 4) ++ ·) ((cut1 cs 5 1).trans (congrArg (List.take 1 (cs.drop 5) ++ ·) ((cut1 cs 6 1).trans (congrArg (List.take 1 (cs.drop 6) ++ ·) ((cut1 cs 7 2).trans (congrArg (List.take 2 (cs.drop 7) ++ ·) ((cut1 cs 9 2).trans (congrArg (List.take 2 (cs.drop 9) ++ ·) ((cut1 cs 11 2).trans (congrArg (List.take 2 (cs.drop 11) ++ ·) ((cut1 cs 13 1).trans (congrArg (List.take 1 (cs.drop 13) ++ ·) ((cut1 cs 14 1).trans (congrArg (List.take 1 (cs.drop 14) ++ ·) ((cut1 cs 15 1).trans (congrArg (List.take 1 (cs.drop 15) ++ ·) ((cut1 cs 16 1).trans (congrArg (List.take 1 (cs.drop 16) ++ ·) (cutN hl)))))))))))))))))))))))))))))
  simp only [e0, e1, e2, e3, e4, e5, e6, e7, e8, e9, e10, e11, e12, e13] at e
  exact ⟨⟨q0, q1, q2, q3, q4, q5, q6, q7, q8, q9, A10, n10, c10, x10, A11, n11, c11, x11, A12, n12, c12, x12, A13, n13, c13, x13⟩, e, ⟨g10.1, g11.1, g12.1, g13.1, g0, g5, g8⟩⟩
theorem open_lacts {r : Reach} {b0 : Nat} {v : Value} {d : DataW H} {ps : List MemPlace} (hval : Value.okWide Tryz.prog w r b0 23 v) (hd : DataW.Trod enc Tryz.prog w base spare held 23 v d ps) : ∃ A n c, ∃ xs : List LAct, v = .slice A n c ∧ (Vec w lactV 17 A n xs ∧ ∀ h ∈ xs, ActOk w h) ∧ n ≤ c ∧ c ≤ 9223372036854775807 := open_vec Tryz.underlying23 (show Tryz.prog.cellsOf 39 = 17 by kernel_rfl) read_LAct hval hd
theorem open_ints {r : Reach} {b0 : Nat} {v : Value} {d : DataW H} {ps : List MemPlace} (hval : Value.okWide Tryz.prog w r b0 22 v) (hd : DataW.Trod enc Tryz.prog w base spare held 22 v d ps) : ∃ A n c, ∃ xs : List Int, v = .slice A n c ∧ (Vec w iv 1 A n xs ∧ ∀ h ∈ xs, I64b h) ∧ n ≤ c ∧ c ≤ 9223372036854775807 := open_vec Tryz.underlying22 (show Tryz.prog.cellsOf 3 = 1 by kernel_rfl) (read_i64 Tryz.underlying3) hval hd
end Go.Proofs.YtmgfgbplbemklaaGreat

