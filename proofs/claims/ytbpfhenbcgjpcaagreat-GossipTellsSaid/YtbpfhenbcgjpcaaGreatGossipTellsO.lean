/- GossipTells: for every input the law answers true and leaves its arguments as they were. -/
import Derived.Test.YtbpfhenbcgjpcaaGreatGossipTellsN
import Derived.OrdersHeld
import Derived.WalkKit
import Derived.Deep.AppendSrc
import Derived.Deep.MidRow
import Derived.Laws.OwnMore
import Derived.WalkSpells
import Derived.Lib.ConvBytes
import Derived.Lib.AppendZerosOnto
import Derived.Laws.StructEq
import Derived.Maps.RangeRun
import Derived.Laws.Pointers
import Derived.Test.YtbpfhenbcgjpcaaGreatProg
import Derived.KernelRfl
import Derived.Lib.Mul64
import Derived.Shelf.SlSortCmp.NoneTotal
import Derived.Lib.QuietBelow
import Derived.Ground.SlsfProg
import Derived.ProofKit
import Derived.OpenShut
import Derived.ShutString
import Derived.ChangeOld
import Derived.Below
import Derived.Deep.Slices
namespace Go.Sx
open Go Go.ChangeShapes Go.WideShapes Go.Deep
set_option linter.unusedVariables false
variable {H : Type} {enc : TypeId × Value → H} {P : Program} {w : World} {base : Nat} {spare : Nat → Bool} {held : Bool}

theorem flatten_get {α : Type} {k : Nat} {f : α → List Value} : ∀ (qs : List α), (∀ q ∈ qs, (f q).length = k) → ∀ (j : Nat) (u : Value), ((qs.map f).flatten)[j]? = some u → 0 < k ∧ ∃ q, qs[j / k]? = some q ∧ (f q)[j % k]? = some u
  | [], _, j, u, h => by simp at h
  | q :: qs, hk, j, u, h => by
    have hq := hk q (by simp)
    simp only [List.map_cons, List.flatten_cons] at h
    by_cases hj : j < k
    · rw [List.getElem?_append_left (by omega)] at h
      exact ⟨by omega, q, by simp [Nat.div_eq_of_lt hj], by rw [Nat.mod_eq_of_lt hj]; exact h⟩
    · rw [List.getElem?_append_right (by omega), hq] at h
      obtain ⟨hp, r, h1, h2⟩ := flatten_get qs (fun q hq => hk q (by simp [hq])) (j - k) u h
      have hd : j / k = (j - k) / k + 1 := by rw [Nat.div_eq_sub_div hp (by omega)]
      have hm : j % k = (j - k) % k := Nat.mod_eq_sub_mod (by omega)
      exact ⟨hp, r, by rw [hd]; simpa using h1, by rw [hm]; exact h2⟩
theorem flatten_length {α : Type} {k : Nat} {f : α → List Value} : ∀ (qs : List α), (∀ q ∈ qs, (f q).length = k) → ((qs.map f).flatten).length = qs.length * k
  | [], _ => by simp
  | q :: qs, hk => by
    have := flatten_length qs (fun q hq => hk q (by simp [hq]))
    simp only [List.map_cons, List.flatten_cons, List.length_append, List.length_cons, this, hk q (by simp)]
    rw [Nat.add_mul, Nat.one_mul, Nat.add_comm]

/-- A slice of rows opened: what is known of one row is known of all. -/
theorem open_rows {α : Type} [Inhabited α] {f : α → List Value} {good : α → Prop} {t e : TypeId} {k : Nat} {r : Reach} {b0 : Nat} {v : Value} {d : DataW H} {ps : List MemPlace}
    (ht : P.underlying t = some (.slice e)) (hc : P.cellsOf e = k) (hp : ∀ fuel cs x, DataW.trod enc P w base spare held fuel e cs = some x → ∃ q, cs = f q ∧ good q)
    (hval : Value.okWide P w r b0 t v) (hd : DataW.Trod enc P w base spare held t v d ps) :
    ∃ (A : Option Addr) (n c : Nat) (qs : List α), v = .slice A n c ∧ qs.length = n ∧ (∀ q ∈ qs, good q ∧ (f q).length = k) ∧ Sl w k A n (qs.map f).flatten ∧ n ≤ c ∧ c ≤ maxLen := by
  obtain ⟨A, n, c, rfl⟩ := okWide_slice ht hval
  obtain ⟨fuel, hf⟩ := hd
  rcases open_slice ht hf with ⟨hcs, _⟩ | ⟨a, len, cap, m, n', D, Pl, hcs, hb, hl, hm, hmm, hx, hi⟩
  · simp [Value.cells] at hcs
    obtain ⟨rfl, rfl, rfl⟩ := hcs
    exact ⟨none, 0, 0, [], rfl, rfl, fun q hq => by simp at hq, ⟨by simp, fun j u h => by simp at h⟩, Nat.le_refl _, Nat.zero_le _⟩
  · simp [Value.cells] at hcs
    obtain ⟨rfl, rfl, rfl⟩ := hcs
    have hlm : n ≤ m := by rw [hmm]; split <;> omega
    obtain ⟨Q, hQ⟩ := choose_lt (α := α) (p := fun i q => w.cells? base (a.add (i * k)) k = some (f q) ∧ good q) (n := m) (fun i hi' => by
      obtain ⟨cs', h1, h2⟩ := hi i hi'
      obtain ⟨q, rfl, hg⟩ := hp _ _ _ h2
      rw [hc] at h1
      exact ⟨q, h1, hg⟩)
    have hall : ∀ q ∈ (List.range n).map Q, good q ∧ (f q).length = k := by
      intro q hq
      obtain ⟨i, hi', rfl⟩ := List.mem_map.1 hq
      have hin : i < n := List.mem_range.1 hi'
      obtain ⟨h1, h2⟩ := hQ i (by omega)
      exact ⟨h2, (World.cells?_some h1).2.1⟩
    refine ⟨some a, n, c, (List.range n).map Q, rfl, by simp, hall, ⟨?_, ?_⟩, hl, hm⟩
    · rw [flatten_length _ (fun q hq => (hall q hq).2)]; simp
    · intro j u hu
      obtain ⟨hk0, q, h1, h2⟩ := flatten_get (k := k) _ (fun q hq => (hall q hq).2) j u hu
      have hjn : j / k < n := by
        have := (List.getElem?_eq_some_iff.1 h1).1
        simpa using this
      rw [List.getElem?_map, List.getElem?_range hjn] at h1
      simp at h1
      subst h1
      obtain ⟨g1, _⟩ := hQ (j / k) (by omega)
      obtain ⟨_, hlen, hcell⟩ := World.cells?_some g1
      refine ⟨a, rfl, ?_⟩
      have := hcell (j % k) (Nat.mod_lt _ hk0)
      rw [h2, add_add, show j / k * k + j % k = j by rw [Nat.mul_comm]; exact Nat.div_add_mod j k] at this
      exact this

theorem flat1 {α β : Type} (f : α → β) (l : List α) : (l.map fun q => [f q]).flatten = l.map f := by
  induction l with
  | nil => rfl
  | cons a l ih => simp [ih]
end Go.Sx

namespace Go.Sx
open Go Go.ChangeShapes Go.WideShapes Go.Deep
set_option linter.unusedVariables false
variable {H : Type} {enc : TypeId × Value → H} {P : Program} {w : World} {base : Nat} {spare : Nat → Bool} {held : Bool}
theorem read_u64 {e : TypeId} (he : P.underlying e = some (.int .u64)) : ∀ fuel cs x, DataW.trod enc P w base spare held fuel e cs = some x → ∃ q : Nat, cs = [.int .u64 ((q : Nat) : Int)] ∧ q < 18446744073709551616 := by
  intro fuel cs x h
  obtain ⟨n, rfl, _, hw⟩ := DataW.trod_int he h
  have := bounds_u64 hw
  exact ⟨n.toNat, by rw [show ((n.toNat : Nat) : Int) = n by omega], by omega⟩
theorem open_us {t e : TypeId} {r : Reach} {b0 : Nat} {v : Value} {d : DataW H} {ps : List MemPlace} (ht : P.underlying t = some (.slice e)) (he : P.underlying e = some (.int .u64)) (hc : P.cellsOf e = 1)
    (hval : Value.okWide P w r b0 t v) (hd : DataW.Trod enc P w base spare held t v d ps) : ∃ A n c, ∃ xs : List Nat, v = .slice A n c ∧ (Sl w 1 A n (xs.map fun q => .int .u64 ((q : Nat) : Int)) ∧ ∀ q ∈ xs, q < 18446744073709551616) ∧ n ≤ c ∧ c ≤ 9223372036854775807 := by
  obtain ⟨A, n, c, qs, rfl, h1, h2, h3, h4, h5⟩ := open_rows (α := Nat) (f := fun q => [.int .u64 ((q : Nat) : Int)]) ht hc (read_u64 he) hval hd
  rw [flat1] at h3
  exact ⟨A, n, c, qs, rfl, ⟨h3, fun q hq => (h2 q hq).1⟩, h4, by unfold maxLen at h5; omega⟩
theorem open_u64 {t : TypeId} {r : Reach} {b0 : Nat} {v : Value} {d : DataW H} {ps : List MemPlace} (ht : P.underlying t = some (.int .u64)) (hval : Value.okWide P w r b0 t v) (hd : DataW.Trod enc P w base spare held t v d ps) : ∃ q : Nat, v = .int .u64 ((q : Nat) : Int) ∧ q < 18446744073709551616 := by
  obtain ⟨a, rfl, rfl, rfl, s⟩ := open_int ht hval hd
  have := bounds_u64 s
  exact ⟨a.toNat, by rw [show ((a.toNat : Nat) : Int) = a by omega], by omega⟩
end Go.Sx

namespace Go.Sx
open Go Go.ChangeShapes Go.WideShapes Go.Deep
set_option linter.unusedVariables false
set_option linter.unusedSimpArgs false
variable {H : Type} {enc : TypeId × Value → H} {P : Program} {w : World} {base : Nat} {spare : Nat → Bool} {held : Bool}
def I64b (n : Int) : Prop := -9223372036854775808 ≤ n ∧ n ≤ 9223372036854775807
theorem cut1 {α : Type} (cs : List α) (o s : Nat) : cs.drop o = (cs.drop o).take s ++ cs.drop (o + s) := by
  rw [← List.drop_drop]
  exact (List.take_append_drop s (cs.drop o)).symm
theorem cut0 {α : Type} (cs : List α) : cs = cs.drop 0 := rfl
theorem cutN {α : Type} {cs : List α} {n : Nat} (h : cs.length = n) : cs.drop n = [] := List.drop_eq_nil_of_le (by omega)
theorem trod_fields {t : TypeId} {fs : Array Field} {fuel : Nat} {cs : List Value} {x : DataW H × List MemPlace} (ht : P.underlying t = some (.struct fs)) (h : DataW.trod enc P w base spare held fuel t cs = some x) :
    cs.length = P.cellsOf t ∧ ∃ m, ∀ (i : Nat) (f : Field), fs[i]? = some f → ∃ y, DataW.trod enc P w base spare held m f.type ((cs.drop f.offset).take (P.cellsOf f.type)) = some y := by
  obtain ⟨xs, m, _, _, hl, hxl, hi⟩ := DataW.trod_struct ht h
  refine ⟨hl, m, fun i f hf => ?_⟩
  have hlt : i < xs.length := by rw [hxl]; exact (Array.getElem?_eq_some_iff.1 hf).1
  exact ⟨_, (hi i f hf).trans (List.getElem?_eq_getElem hlt)⟩
theorem read_i64 {e : TypeId} (he : P.underlying e = some (.int .i64)) : ∀ fuel cs x, DataW.trod enc P w base spare held fuel e cs = some x → ∃ q : Int, cs = [.int .i64 q] ∧ I64b q := by
  intro fuel cs x h
  obtain ⟨n, rfl, _, hw⟩ := DataW.trod_int he h
  exact ⟨n, rfl, bounds_i64 hw⟩
theorem read_bool {e : TypeId} (he : P.underlying e = some .bool) : ∀ fuel cs x, DataW.trod enc P w base spare held fuel e cs = some x → ∃ q : Bool, cs = [.bool q] ∧ True := by
  intro fuel cs x h
  obtain ⟨b, rfl, _⟩ := DataW.trod_bool he h
  exact ⟨b, rfl, trivial⟩
/-- A slice of any rows, as a vector. -/
theorem open_vec {α : Type} [Inhabited α] {f : α → List Value} {good : α → Prop} {t e : TypeId} {k : Nat} {r : Reach} {b0 : Nat} {v : Value} {d : DataW H} {ps : List MemPlace} (ht : P.underlying t = some (.slice e)) (hc : P.cellsOf e = k) (hp : ∀ fuel cs x, DataW.trod enc P w base spare held fuel e cs = some x → ∃ q, cs = f q ∧ good q)
    (hval : Value.okWide P w r b0 t v) (hd : DataW.Trod enc P w base spare held t v d ps) : ∃ A n c, ∃ xs : List α, v = .slice A n c ∧ (Vec w f k A n xs ∧ ∀ h ∈ xs, good h) ∧ n ≤ c ∧ c ≤ 9223372036854775807 := by
  obtain ⟨A, n, c, qs, rfl, h1, h2, h3, h4, h5⟩ := open_rows (α := α) (f := f) (good := good) ht hc hp hval hd
  exact ⟨A, n, c, qs, rfl, ⟨⟨h1, h3⟩, fun q hq => (h2 q hq).1⟩, h4, by unfold maxLen at h5; omega⟩
theorem okWide_structG {t : TypeId} {fs : Array Field} {r : Reach} {b0 : Nat} {v : Value} (ht : P.underlying t = some (.struct fs)) (h : Value.okWide P w r b0 t v) : ∃ cs : Array Value, v = .agg cs := by
  simp only [Value.okWide, ht] at h
  obtain ⟨cs, h1, _⟩ := h
  exact ⟨cs, h1⟩
/-- A struct that is an argument itself. -/
theorem open_struct {α : Type} {f : α → List Value} {good : α → Prop} {t : TypeId} {fs : Array Field} {r : Reach} {b0 : Nat} {v : Value} {d : DataW H} {ps : List MemPlace} (ht : P.underlying t = some (.struct fs)) (hp : ∀ fuel cs x, DataW.trod enc P w base spare held fuel t cs = some x → ∃ q, cs = f q ∧ good q)
    (hval : Value.okWide P w r b0 t v) (hd : DataW.Trod enc P w base spare held t v d ps) : ∃ q : α, v = .agg (f q).toArray ∧ good q := by
  obtain ⟨cs, rfl⟩ := okWide_structG ht hval
  obtain ⟨fuel, h⟩ := hd
  obtain ⟨q, e, hg⟩ := hp _ _ _ h
  refine ⟨q, ?_, hg⟩
  congr 1
  apply Array.ext'
  exact e
end Go.Sx

namespace Go.Proofs.YtbpfhenbcgjpcaaGreat
open Go Go.Sx Go.Osp Go.Gsp Go.Asp Go.ChangeShapes Go.WideShapes Go.Deep
set_option linter.unusedVariables false
set_option linter.unusedSimpArgs false
set_option maxRecDepth 20000
variable {H : Type} {enc : TypeId × Value → H} {w : World} {base : Nat} {spare : Nat → Bool} {held : Bool}
abbrev GPol := Pol
abbrev GEdge := Gsp.Edge
abbrev GSig := Asp.Sig
abbrev GAd := Asp.Ad
abbrev GTold := Bsp.Told
def toldV (t : Bsp.Told) : List Value := [.int .i64 t.a.e.f, .int .i64 t.a.e.t, .int .i64 t.a.e.c, .int .i64 t.a.e.r, .int .i64 t.a.e.pol.b, .int .i64 t.a.e.pol.p, .int .i64 t.a.e.pol.d, .int .i64 t.a.e.pol.l, .int .i64 t.a.e.pol.m, .int .i64 t.a.no, .bool t.a.gone, .int .u64 (t.a.sg.r : Nat), .int .u64 (t.a.sg.s : Nat), .int .i64 t.h]
theorem toldV_row : RowF toldV 14 := ⟨fun _ => rfl, fun x v hv => by simp [toldV] at hv; rcases hv with rfl | rfl | rfl | rfl | rfl | rfl | rfl | rfl | rfl | rfl | rfl | rfl | rfl | rfl <;> rfl, by decide⟩
theorem pv1_vec' {A : Option Addr} {n : Nat} {xs : List Nat} (h : Sl w 1 A n (xs.map fun q => .int .u64 ((q : Nat) : Int))) : Vec w pv1 1 A n xs := by
  refine Sl.vec (g1 := fun q : Nat => Value.int .u64 ((q : Nat) : Int)) h
def goodGPol (q : GPol) : Prop := I64b q.b ∧ I64b q.p ∧ I64b q.d ∧ I64b q.l ∧ I64b q.m
instance : Inhabited GPol := ⟨noPol⟩
theorem read_GPol : ∀ fuel cs x, DataW.trod enc Tryz.prog w base spare held fuel 25 cs = some x → ∃ q : GPol, cs = polV q ∧ goodGPol q := by
  intro fuel cs x h
  obtain ⟨hl, m, hi⟩ := trod_fields Tryz.underlying25 h
  rw [show Tryz.prog.cellsOf 25 = 5 by kernel_rfl] at hl
  obtain ⟨y0, k0⟩ := hi 0 _ rfl
  have k0 : DataW.trod enc Tryz.prog w base spare held m 3 ((cs.drop 0).take (Tryz.prog.cellsOf 3)) = some y0 := k0
  rw [show Tryz.prog.cellsOf 3 = 1 by kernel_rfl] at k0
  obtain ⟨q0, e0, g0⟩ := read_i64 Tryz.underlying3 _ _ _ k0
  obtain ⟨y1, k1⟩ := hi 1 _ rfl
  have k1 : DataW.trod enc Tryz.prog w base spare held m 3 ((cs.drop 1).take (Tryz.prog.cellsOf 3)) = some y1 := k1
  rw [show Tryz.prog.cellsOf 3 = 1 by kernel_rfl] at k1
  obtain ⟨q1, e1, g1⟩ := read_i64 Tryz.underlying3 _ _ _ k1
  obtain ⟨y2, k2⟩ := hi 2 _ rfl
  have k2 : DataW.trod enc Tryz.prog w base spare held m 3 ((cs.drop 2).take (Tryz.prog.cellsOf 3)) = some y2 := k2
  rw [show Tryz.prog.cellsOf 3 = 1 by kernel_rfl] at k2
  obtain ⟨q2, e2, g2⟩ := read_i64 Tryz.underlying3 _ _ _ k2
  obtain ⟨y3, k3⟩ := hi 3 _ rfl
  have k3 : DataW.trod enc Tryz.prog w base spare held m 3 ((cs.drop 3).take (Tryz.prog.cellsOf 3)) = some y3 := k3
  rw [show Tryz.prog.cellsOf 3 = 1 by kernel_rfl] at k3
  obtain ⟨q3, e3, g3⟩ := read_i64 Tryz.underlying3 _ _ _ k3
  obtain ⟨y4, k4⟩ := hi 4 _ rfl
  have k4 : DataW.trod enc Tryz.prog w base spare held m 3 ((cs.drop 4).take (Tryz.prog.cellsOf 3)) = some y4 := k4
  rw [show Tryz.prog.cellsOf 3 = 1 by kernel_rfl] at k4
  obtain ⟨q4, e4, g4⟩ := read_i64 Tryz.underlying3 _ _ _ k4
  have e := (cut0 cs).trans ((cut1 cs 0 1).trans (congrArg (List.take 1 (cs.drop 0) ++ ·) ((cut1 cs 1 1).trans (congrArg (List.take 1 (cs.drop 1) ++ ·) ((cut1 cs 2 1).trans (congrArg (List.take 1 (cs.drop 2) ++ ·) ((cut1 cs 3 1).trans (congrArg (List.take 1 (cs.drop 3) ++ ·) ((cut1 cs 4 1).trans (congrArg (List.take 1 (cs.drop 4) ++ ·) (cutN hl)))))))))))
  simp only [e0, e1, e2, e3, e4] at e
  exact ⟨⟨q0, q1, q2, q3, q4⟩, e, g0, g1, g2, g3, g4⟩
def goodGEdge (q : GEdge) : Prop := I64b q.f ∧ I64b q.t ∧ I64b q.c ∧ I64b q.r ∧ goodGPol q.pol
instance : Inhabited GEdge := ⟨noEdge⟩
theorem read_GEdge : ∀ fuel cs x, DataW.trod enc Tryz.prog w base spare held fuel 27 cs = some x → ∃ q : GEdge, cs = edgeV q ∧ goodGEdge q := by
  intro fuel cs x h
  obtain ⟨hl, m, hi⟩ := trod_fields Tryz.underlying27 h
  rw [show Tryz.prog.cellsOf 27 = 9 by kernel_rfl] at hl
  obtain ⟨y0, k0⟩ := hi 0 _ rfl
  have k0 : DataW.trod enc Tryz.prog w base spare held m 3 ((cs.drop 0).take (Tryz.prog.cellsOf 3)) = some y0 := k0
  rw [show Tryz.prog.cellsOf 3 = 1 by kernel_rfl] at k0
  obtain ⟨q0, e0, g0⟩ := read_i64 Tryz.underlying3 _ _ _ k0
  obtain ⟨y1, k1⟩ := hi 1 _ rfl
  have k1 : DataW.trod enc Tryz.prog w base spare held m 3 ((cs.drop 1).take (Tryz.prog.cellsOf 3)) = some y1 := k1
  rw [show Tryz.prog.cellsOf 3 = 1 by kernel_rfl] at k1
  obtain ⟨q1, e1, g1⟩ := read_i64 Tryz.underlying3 _ _ _ k1
  obtain ⟨y2, k2⟩ := hi 2 _ rfl
  have k2 : DataW.trod enc Tryz.prog w base spare held m 3 ((cs.drop 2).take (Tryz.prog.cellsOf 3)) = some y2 := k2
  rw [show Tryz.prog.cellsOf 3 = 1 by kernel_rfl] at k2
  obtain ⟨q2, e2, g2⟩ := read_i64 Tryz.underlying3 _ _ _ k2
  obtain ⟨y3, k3⟩ := hi 3 _ rfl
  have k3 : DataW.trod enc Tryz.prog w base spare held m 3 ((cs.drop 3).take (Tryz.prog.cellsOf 3)) = some y3 := k3
  rw [show Tryz.prog.cellsOf 3 = 1 by kernel_rfl] at k3
  obtain ⟨q3, e3, g3⟩ := read_i64 Tryz.underlying3 _ _ _ k3
  obtain ⟨y4, k4⟩ := hi 4 _ rfl
  have k4 : DataW.trod enc Tryz.prog w base spare held m 25 ((cs.drop 4).take (Tryz.prog.cellsOf 25)) = some y4 := k4
  rw [show Tryz.prog.cellsOf 25 = 5 by kernel_rfl] at k4
  obtain ⟨q4, e4, g4⟩ := read_GPol _ _ _ k4
  have e := (cut0 cs).trans ((cut1 cs 0 1).trans (congrArg (List.take 1 (cs.drop 0) ++ ·) ((cut1 cs 1 1).trans (congrArg (List.take 1 (cs.drop 1) ++ ·) ((cut1 cs 2 1).trans (congrArg (List.take 1 (cs.drop 2) ++ ·) ((cut1 cs 3 1).trans (congrArg (List.take 1 (cs.drop 3) ++ ·) ((cut1 cs 4 5).trans (congrArg (List.take 5 (cs.drop 4) ++ ·) (cutN hl)))))))))))
  simp only [e0, e1, e2, e3, e4] at e
  exact ⟨⟨q0, q1, q2, q3, q4⟩, e, g0, g1, g2, g3, g4⟩
def goodGSig (q : GSig) : Prop := q.r < 18446744073709551616 ∧ q.s < 18446744073709551616
instance : Inhabited GSig := ⟨noSig⟩
theorem read_GSig : ∀ fuel cs x, DataW.trod enc Tryz.prog w base spare held fuel 37 cs = some x → ∃ q : GSig, cs = sigV q ∧ goodGSig q := by
  intro fuel cs x h
  obtain ⟨hl, m, hi⟩ := trod_fields Tryz.underlying37 h
  rw [show Tryz.prog.cellsOf 37 = 2 by kernel_rfl] at hl
  obtain ⟨y0, k0⟩ := hi 0 _ rfl
  have k0 : DataW.trod enc Tryz.prog w base spare held m 35 ((cs.drop 0).take (Tryz.prog.cellsOf 35)) = some y0 := k0
  rw [show Tryz.prog.cellsOf 35 = 1 by kernel_rfl] at k0
  obtain ⟨q0, e0, g0⟩ := read_u64 Tryz.underlying35 _ _ _ k0
  obtain ⟨y1, k1⟩ := hi 1 _ rfl
  have k1 : DataW.trod enc Tryz.prog w base spare held m 29 ((cs.drop 1).take (Tryz.prog.cellsOf 29)) = some y1 := k1
  rw [show Tryz.prog.cellsOf 29 = 1 by kernel_rfl] at k1
  obtain ⟨q1, e1, g1⟩ := read_u64 Tryz.underlying29 _ _ _ k1
  have e := (cut0 cs).trans ((cut1 cs 0 1).trans (congrArg (List.take 1 (cs.drop 0) ++ ·) ((cut1 cs 1 1).trans (congrArg (List.take 1 (cs.drop 1) ++ ·) (cutN hl)))))
  simp only [e0, e1] at e
  exact ⟨⟨q0, q1⟩, e, g0, g1⟩
def goodGAd (q : GAd) : Prop := goodGEdge q.e ∧ I64b q.no ∧ True ∧ goodGSig q.sg
instance : Inhabited GAd := ⟨noAd⟩
theorem read_GAd : ∀ fuel cs x, DataW.trod enc Tryz.prog w base spare held fuel 39 cs = some x → ∃ q : GAd, cs = adV q ∧ goodGAd q := by
  intro fuel cs x h
  obtain ⟨hl, m, hi⟩ := trod_fields Tryz.underlying39 h
  rw [show Tryz.prog.cellsOf 39 = 13 by kernel_rfl] at hl
  obtain ⟨y0, k0⟩ := hi 0 _ rfl
  have k0 : DataW.trod enc Tryz.prog w base spare held m 27 ((cs.drop 0).take (Tryz.prog.cellsOf 27)) = some y0 := k0
  rw [show Tryz.prog.cellsOf 27 = 9 by kernel_rfl] at k0
  obtain ⟨q0, e0, g0⟩ := read_GEdge _ _ _ k0
  obtain ⟨y1, k1⟩ := hi 1 _ rfl
  have k1 : DataW.trod enc Tryz.prog w base spare held m 3 ((cs.drop 9).take (Tryz.prog.cellsOf 3)) = some y1 := k1
  rw [show Tryz.prog.cellsOf 3 = 1 by kernel_rfl] at k1
  obtain ⟨q1, e1, g1⟩ := read_i64 Tryz.underlying3 _ _ _ k1
  obtain ⟨y2, k2⟩ := hi 2 _ rfl
  have k2 : DataW.trod enc Tryz.prog w base spare held m 4 ((cs.drop 10).take (Tryz.prog.cellsOf 4)) = some y2 := k2
  rw [show Tryz.prog.cellsOf 4 = 1 by kernel_rfl] at k2
  obtain ⟨q2, e2, g2⟩ := read_bool Tryz.underlying4 _ _ _ k2
  obtain ⟨y3, k3⟩ := hi 3 _ rfl
  have k3 : DataW.trod enc Tryz.prog w base spare held m 37 ((cs.drop 11).take (Tryz.prog.cellsOf 37)) = some y3 := k3
  rw [show Tryz.prog.cellsOf 37 = 2 by kernel_rfl] at k3
  obtain ⟨q3, e3, g3⟩ := read_GSig _ _ _ k3
  have e := (cut0 cs).trans ((cut1 cs 0 9).trans (congrArg (List.take 9 (cs.drop 0) ++ ·) ((cut1 cs 9 1).trans (congrArg (List.take 1 (cs.drop 9) ++ ·) ((cut1 cs 10 1).trans (congrArg (List.take 1 (cs.drop 10) ++ ·) ((cut1 cs 11 2).trans (congrArg (List.take 2 (cs.drop 11) ++ ·) (cutN hl)))))))))
  simp only [e0, e1, e2, e3] at e
  exact ⟨⟨q0, q1, q2, q3⟩, e, g0, g1, g2, g3⟩
theorem open_gedge {r : Reach} {b0 : Nat} {v : Value} {d : DataW H} {ps : List MemPlace} (hval : Value.okWide Tryz.prog w r b0 27 v) (hd : DataW.Trod enc Tryz.prog w base spare held 27 v d ps) : ∃ q : GEdge, v = .agg (edgeV q).toArray ∧ goodGEdge q := open_struct Tryz.underlying27 read_GEdge hval hd
def goodGTold (q : GTold) : Prop := goodGAd q.a ∧ I64b q.h
instance : Inhabited GTold := ⟨Bsp.noTold⟩
theorem read_GTold : ∀ fuel cs x, DataW.trod enc Tryz.prog w base spare held fuel 48 cs = some x → ∃ q : GTold, cs = toldV q ∧ goodGTold q := by
  intro fuel cs x h
  obtain ⟨hl, m, hi⟩ := trod_fields Tryz.underlying48 h
  rw [show Tryz.prog.cellsOf 48 = 14 by kernel_rfl] at hl
  obtain ⟨y0, k0⟩ := hi 0 _ rfl
  have k0 : DataW.trod enc Tryz.prog w base spare held m 39 ((cs.drop 0).take (Tryz.prog.cellsOf 39)) = some y0 := k0
  rw [show Tryz.prog.cellsOf 39 = 13 by kernel_rfl] at k0
  obtain ⟨q0, e0, g0⟩ := read_GAd _ _ _ k0
  obtain ⟨y1, k1⟩ := hi 1 _ rfl
  have k1 : DataW.trod enc Tryz.prog w base spare held m 3 ((cs.drop 13).take (Tryz.prog.cellsOf 3)) = some y1 := k1
  rw [show Tryz.prog.cellsOf 3 = 1 by kernel_rfl] at k1
  obtain ⟨q1, e1, g1⟩ := read_i64 Tryz.underlying3 _ _ _ k1
  have e := (cut0 cs).trans ((cut1 cs 0 13).trans (congrArg (List.take 13 (cs.drop 0) ++ ·) ((cut1 cs 13 1).trans (congrArg (List.take 1 (cs.drop 13) ++ ·) (cutN hl)))))
  simp only [e0, e1] at e
  exact ⟨⟨q0, q1⟩, e, g0, g1⟩
theorem open_tolds {r : Reach} {b0 : Nat} {v : Value} {d : DataW H} {ps : List MemPlace} (hval : Value.okWide Tryz.prog w r b0 23 v) (hd : DataW.Trod enc Tryz.prog w base spare held 23 v d ps) : ∃ A n c, ∃ xs : List GTold, v = .slice A n c ∧ (Vec w toldV 14 A n xs ∧ ∀ h ∈ xs, goodGTold h) ∧ n ≤ c ∧ c ≤ 9223372036854775807 := open_vec Tryz.underlying23 (show Tryz.prog.cellsOf 48 = 14 by kernel_rfl) read_GTold hval hd
end Go.Proofs.YtbpfhenbcgjpcaaGreat

namespace Go.Proofs.YtbpfhenbcgjpcaaGreat
open Go Go.Sx Go.Hsp Go.Num Go.Osp Go.Gsp Go.Asp Go.Bsp
set_option maxRecDepth 20000
set_option linter.unusedSimpArgs false
set_option linter.unusedVariables false

theorem same_no {xs ys : List Asp.Ad} {k : Nat} (hl : xs.length = ys.length) (hk : k < xs.length) (h : ¬ xs.getD k noAd = ys.getD k noAd) : ¬ xs = ys := fun e => h (by rw [e])
theorem sameads_ok {A B : Option Addr} {n m c d : Nat} {xs ys : List Asp.Ad} (w : World) (hX : Vec w adV 13 A n xs) (hY : Vec w adV 13 B m ys) (hn : n ≤ 1000000) : Calls Tryz.prog 15 #[.slice A n c, .slice B m d] w fun r w' => r = .returned (.bool (decide (xs = ys))) ∧ Le w w' := by
  have hxl := hX.1
  have hyl := hY.1
  refine enter Tryz.func15 rfl rfl ?_
  have L0 := Le.refl w
  refine WC.seq ?_
  refine WC.region ?_
  refine W.any (.assign rfl) rfl rfl rfl ?_
  refine W.nil ?_
  refine E.thenN ?_
  refine WC.seq ?_
  refine WC.seq ?_
  refine WC.region ?_
  refine W.any (.move rfl) rfl rfl rfl ?_
  refine W.rd (.len Tryz.underlying50 rfl) rfl rfl rfl ?_
  refine W.any (.move rfl) rfl rfl rfl ?_
  refine W.rd (.len Tryz.underlying50 rfl) rfl rfl rfl ?_
  refine W.any (.neq rfl rfl) rfl rfl rfl ?_
  refine W.nil ?_
  refine E.thenN ?_
  by_cases c0 : ((n : Nat) : Int) ≠ ((m : Nat) : Int)
  · refine WC.condY rfl (decide_eq_true c0) ?_
    refine WC.seq ?_
    refine WC.region ?_
    refine W.any (.assign rfl) rfl rfl rfl ?_
    refine W.nil ?_
    refine E.thenN ?_
    refine WC.ret ?_
    refine E.thenR ?_
    refine E.retG1 rfl rfl ?_
    exact ⟨congrArg (fun b => Ending.returned (Value.bool b)) (eq_comm.1 (decide_eq_false (fun e => absurd (by rw [← hxl, ← hyl, e]) c0))), L0⟩
  · refine WC.condN rfl (decide_eq_false c0) ?_
    refine WC.skip ?_
    refine E.thenN ?_
    refine WC.seq ?_
    refine WC.seq ?_
    refine WC.region ?_
    refine W.any (.assign rfl) rfl rfl rfl ?_
    refine W.nil ?_
    refine E.thenN ?_
    refine WC.block ?_
    refine WC.loop (ι := Nat) (fun k => [(0, .slice A n c), (1, .slice B m d), (5, .int .i64 (((k : Nat) : Int)))]) (fun k wl0 => (k ≤ n) ∧ (∀ j, j < k → xs.getD j noAd = ys.getD j noAd) ∧ Le w wl0 ∧ w.heap.size ≤ wl0.heap.size) (fun k => n - k) 0 ?_ ?_ ?_
    · exact .cons rfl (.cons rfl (.cons rfl (.nil _)))
    · exact ⟨Nat.zero_le _, fun j hj => absurd hj (Nat.not_lt_zero _), L0, Nat.le_refl _⟩
    · rintro k wl0 ⟨hk, hz, Ll0, zl0⟩
      refine WC.seq ?_
      refine WC.seq ?_
      refine WC.region ?_
      refine W.any (.move rfl) rfl rfl rfl ?_
      refine W.any (.move rfl) rfl rfl rfl ?_
      refine W.rd (.len Tryz.underlying50 rfl) rfl rfl rfl ?_
      refine W.any (.lss rfl rfl) rfl rfl rfl ?_
      refine W.nil ?_
      refine E.thenN ?_
      by_cases c1 : ((k : Nat) : Int) < ((n : Nat) : Int)
      · refine WC.condY rfl (decide_eq_true c1) ?_
        refine WC.skip ?_
        refine E.thenN ?_
        refine WC.seq ?_
        refine WC.block ?_
        refine WC.seq ?_
        refine WC.draw [0, 1, 2, 3, 4, 5, 6, 7, 8] mixed (by kernel_rfl) ?_
        intro w6 d6
        have L1 := Ll0.trans d6
        refine G.any rfl rfl (.move rfl) rfl rfl rfl ?_
        refine G.any rfl rfl (.move rfl) rfl rfl rfl ?_
        refine G.any rfl rfl (.idxS (k) Tryz.underlying50 sz39 rfl rfl (hX.isSome adV_row (by omega)) (rfl) (by omega)) rfl rfl rfl ?_
        refine G.rd rfl rfl (.vload ag39 rfl (hX.le L1) adV_row (getS xs noAd (by first | omega | (simp only [List.length_cons, List.length_nil]; omega)))) rfl rfl rfl ?_
        refine G.any rfl rfl (.move rfl) rfl rfl rfl ?_
        refine G.any rfl rfl (.move rfl) rfl rfl rfl ?_
        refine G.any rfl rfl (.idxS (k) Tryz.underlying50 sz39 rfl rfl (hY.isSome adV_row (by omega)) (rfl) (by omega)) rfl rfl rfl ?_
        refine G.rd rfl rfl (.vload ag39 rfl (hY.le L1) adV_row (getS ys noAd (by first | omega | (simp only [List.length_cons, List.length_nil]; omega)))) rfl rfl rfl ?_
        refine G.any rfl rfl (.neA eg39 rfl rfl (eqv_ad (d := 9996) _ _)) rfl rfl rfl ?_
        refine G.nil ?_
        refine E.thenN ?_
        by_cases c2 : (xs.getD k noAd) = (ys.getD k noAd)
        · refine WC.condN rfl (congrArg not (decide_eq_true c2)) ?_
          refine WC.skip ?_
          refine E.blkN ?_
          refine E.thenN ?_
          refine WC.region ?_
          refine W.any (.move rfl) rfl rfl rfl ?_
          refine W.any (.add rfl rfl (by omega)) rfl rfl rfl ?_
          refine W.any (.assign rfl) rfl rfl rfl ?_
          refine W.nil ?_
          refine E.again (k + 1) (.cons rfl (.cons rfl (.cons rfl (.nil _)))) ?_ ?_
          · exact ⟨by omega, fun j hj => by rcases Nat.lt_or_ge j k with h | h; exact hz j h; rw [show j = k by omega]; first | exact Classical.not_not.1 c2 | (exact (by assumption)), L1, by have := zl0; have := d6.size; omega⟩
          · first | omega | (simp only []; omega)
        · refine WC.condY rfl (congrArg not (decide_eq_false c2)) ?_
          refine WC.seq ?_
          refine WC.region ?_
          refine W.any (.assign rfl) rfl rfl rfl ?_
          refine W.nil ?_
          refine E.thenN ?_
          refine WC.ret ?_
          refine E.blkR ?_
          refine E.thenR ?_
          refine E.thenR ?_
          refine E.blkR ?_
          refine E.thenR ?_
          refine E.retG1 rfl rfl ?_
          exact ⟨congrArg (fun b => Ending.returned (Value.bool b)) (eq_comm.1 (decide_eq_false (same_no (k := k) (by omega) (by omega) (by assumption)))), L1⟩
      · refine WC.condN rfl (decide_eq_false c1) ?_
        refine WC.exit ?_
        refine E.thenX ?_
        refine E.thenX ?_
        refine E.blkH ?_
        refine E.thenN ?_
        refine WC.seq ?_
        refine WC.region ?_
        refine W.any (.assign rfl) rfl rfl rfl ?_
        refine W.nil ?_
        refine E.thenN ?_
        refine WC.ret ?_
        refine E.retG1 rfl rfl ?_
        exact ⟨congrArg (fun b => Ending.returned (Value.bool b)) (eq_comm.1 (decide_eq_true (ext_getD (z := noAd) (by omega) (fun j hj => hz j (by omega))))), Ll0⟩


end Go.Proofs.YtbpfhenbcgjpcaaGreat

namespace Go.Proofs.YtbpfhenbcgjpcaaGreat
open Go Go.Sx Go.Hsp Go.Num Go.Osp Go.Gsp Go.Asp Go.Bsp
set_option maxRecDepth 20000
set_option linter.unusedSimpArgs false
set_option linter.unusedVariables false

theorem rtakeS_len (r : RBk) (a : Asp.Ad) (h : Int) : (rtakeS r a h).all.length ≤ r.all.length + 1 := by
  unfold rtakeS
  split
  · simp
  · omega
theorem redges_same {s : BookS} {r : RBk} (h : RelB s r) : edgesB s = redgesB r := by unfold edgesB redgesB; rw [rads_same h]
theorem edges_le (s : BookS) : (edgesB s).length ≤ 480 := by
  unfold edgesB
  rw [List.length_map]
  exact Nat.le_trans (List.length_filter_le _ _) (adsB_len s)
set_option maxHeartbeats 2000000 in
theorem GossipTells_ok {Ak Al : Option Addr} {nk nl ck cl : Nat} {keys : List Nat} {l : List Bsp.Told} (x : Gsp.Edge) (k : Nat) (no : Int) (gone : Bool) (w : World) (hK : Vec w pv1 1 Ak nk keys) (hkb : ∀ k ∈ keys, k < 18446744073709551616) (hl : Vec w toldV 14 Al nl l) (hlg : ∀ t ∈ l, goodGTold t) (hk : k < 18446744073709551616) : Calls Tryz.prog 3 #[.slice Ak nk ck, .slice Al nl cl, .agg (edgeV x).toArray, .int .u64 (((k : Nat) : Int)), .int .i64 (no), .bool (gone)] w fun r w' => r = .returned (.bool true) ∧ Le w w' := by
  have hkl := hK.1
  have hll := hl.1
  refine enter Tryz.func3 rfl rfl ?_
  have L0 := Le.refl w
  refine WC.seq ?_
  refine WC.region ?_
  refine W.ef rfl rfl rfl ?_
  refine Ef.boxA rfl ?_
  intro g0_0 w0_0 hg0_0 b0_0 h0_0
  have L1 := L0.trans h0_0
  have b0_0 : Blk w0_0 g0_0 27 (edgeV x).toArray := b0_0
  refine W.any (.assign rfl) rfl rfl rfl ?_
  refine W.nil ?_
  refine E.thenN ?_
  refine WC.seq ?_
  refine WC.region ?_
  refine W.ef rfl rfl rfl ?_
  refine Ef.call go4 rfl rfl (small35_ok w0_0) ?_
  rintro _ w1_0 ⟨rfl, h1_0⟩
  refine ⟨_, rfl, ?_⟩
  have L2 := L1.trans h1_0
  refine W.any (.assign rfl) rfl rfl rfl ?_
  refine W.nil ?_
  refine E.thenN ?_
  refine WC.seq ?_
  refine WC.seq ?_
  refine WC.region ?_
  refine W.any (.move rfl) rfl rfl rfl ?_
  refine W.rd (.len Tryz.underlying23 rfl) rfl rfl rfl ?_
  refine W.any (.gtr rfl rfl) rfl rfl rfl ?_
  by_cases q2_3 : 20 < ((nl : Nat) : Int)
  · refine W.any (.dec (.move rfl) (decide_eq_true q2_3)) rfl rfl rfl ?_
    refine W.skip rfl rfl rfl (rfl) rfl rfl ?_
    refine W.skip rfl rfl rfl (rfl) rfl rfl ?_
    refine W.skip rfl rfl rfl (rfl) rfl rfl ?_
    refine W.any (.pickT rfl rfl rfl) rfl rfl rfl ?_
    refine W.nil ?_
    refine E.thenN ?_
    refine WC.condT rfl ?_
    refine WC.seq ?_
    refine WC.region ?_
    refine W.any (.move rfl) rfl rfl rfl ?_
    refine W.any (.assign rfl) rfl rfl rfl ?_
    refine W.nil ?_
    refine E.thenN ?_
    refine WC.ret ?_
    refine E.thenR ?_
    refine E.retG1 rfl rfl ?_
    exact ⟨rfl, L2⟩
  · refine W.any (.dec (.move rfl) (decide_eq_false q2_3)) rfl rfl rfl ?_
    refine W.rdg (Any.rd (.move rfl) _) rfl rfl rfl (rfl) rfl rfl ?_
    refine W.rdg (.len Tryz.underlying22 rfl) rfl rfl rfl (rfl) rfl rfl ?_
    refine W.rdg (Any.rd (.gtr rfl rfl) _) rfl rfl rfl (rfl) rfl rfl ?_
    refine W.any (.pickF rfl rfl rfl) rfl rfl rfl ?_
    refine W.nil ?_
    refine E.thenN ?_
    by_cases c0 : 14 < ((nk : Nat) : Int)
    · refine WC.condY rfl (decide_eq_true c0) ?_
      refine WC.seq ?_
      refine WC.region ?_
      refine W.any (.move rfl) rfl rfl rfl ?_
      refine W.any (.assign rfl) rfl rfl rfl ?_
      refine W.nil ?_
      refine E.thenN ?_
      refine WC.ret ?_
      refine E.thenR ?_
      refine E.retG1 rfl rfl ?_
      exact ⟨rfl, L2⟩
    · refine WC.condN rfl (decide_eq_false c0) ?_
      refine WC.skip ?_
      refine E.thenN ?_
      refine WC.seq ?_
      refine WC.seq ?_
      refine WC.draw [0, 2, 1, 3, 4, 5, 6, 7, 8, 10, 11, 12, 9, 13, 14, 15, 16, 17, 18, 19, 20, 22, 23, 24, 25, 21, 26, 27, 28] mixed (by kernel_rfl) ?_
      intro w4 d4
      have L3 := L2.trans d4
      have f4 := (b0_0.le (h1_0.trans d4))
      refine G.rd rfl rfl (.loadAll ag27 (by rfl) rfl f4) rfl rfl rfl ?_
      refine G.rd rfl rfl (.loadAll ag27 (by rfl) rfl f4) rfl rfl rfl ?_
      refine G.ef rfl rfl rfl rfl rfl ?_
      refine Ef.call go5 rfl rfl (aright_ok x w4) ?_
      rintro _ w4_1 ⟨rfl, h4_1⟩
      refine ⟨_, rfl, ?_⟩
      refine ⟨fun _ => h4_1, ?_⟩
      have L5 := L3.trans h4_1
      refine G.ef rfl rfl rfl rfl rfl ?_
      refine Ef.call go6 rfl rfl (raright_ok x w4_1) ?_
      rintro _ w4_3 ⟨rfl, h4_3⟩
      refine ⟨_, rfl, ?_⟩
      refine ⟨fun _ => h4_3, ?_⟩
      have L6 := L5.trans h4_3
      refine G.any rfl rfl (.bneq Tryz.underlying4 rfl rfl) rfl rfl rfl ?_
      refine G.any rfl rfl (.dec (.move rfl) (show (!(edgeA x == edgeA x)) = false from by simp)) rfl rfl rfl ?_
      have f7 := (f4.le (h4_1.trans h4_3))
      refine G.rdg rfl rfl (.loadAll ag27 (by rfl) rfl f7) rfl rfl rfl (rfl) rfl rfl ?_
      refine G.anyg rfl rfl (.move rfl) rfl rfl rfl (rfl) rfl rfl ?_
      refine G.anyg rfl rfl (.move rfl) rfl rfl rfl (rfl) rfl rfl ?_
      refine G.rdg rfl rfl (.loadAll ag27 (by rfl) rfl f7) rfl rfl rfl (rfl) rfl rfl ?_
      refine G.anyg rfl rfl (.move rfl) rfl rfl rfl (rfl) rfl rfl ?_
      refine G.anyg rfl rfl (.move rfl) rfl rfl rfl (rfl) rfl rfl ?_
      refine G.efg rfl rfl rfl rfl rfl (rfl) rfl rfl ?_
      refine Ef.call go7 rfl rfl (asum_ok x no gone w4_3) ?_
      rintro _ w4_9 ⟨rfl, h4_9⟩
      refine ⟨_, rfl, ?_⟩
      refine ⟨fun _ => h4_9, ?_⟩
      have L8 := L6.trans h4_9
      refine G.efg rfl rfl rfl rfl rfl (rfl) rfl rfl ?_
      refine Ef.call go8 rfl rfl (rasum_ok x no gone w4_9) ?_
      rintro _ w4_13 ⟨rfl, h4_13⟩
      refine ⟨_, rfl, ?_⟩
      refine ⟨fun _ => h4_13, ?_⟩
      have L9 := L8.trans h4_13
      refine G.anyg rfl rfl (.neA eg33 rfl rfl (Eqv.bytes (d := 9998) (sumA x no gone) (sumA x no gone) Tryz.underlying33 sz5 Tryz.underlying5 (sumA_length _ _ _) (sumA_length _ _ _))) rfl rfl rfl (rfl) rfl rfl ?_
      refine G.any rfl rfl (.pickF rfl rfl rfl) rfl rfl rfl ?_
      refine G.any rfl rfl (.dec (.move rfl) (congrArg not (decide_eq_true rfl))) rfl rfl rfl ?_
      refine G.anyg rfl rfl (.move rfl) rfl rfl rfl (rfl) rfl rfl ?_
      have f10 := (f7.le (h4_9.trans h4_13))
      refine G.rdg rfl rfl (.loadAll ag27 (by rfl) rfl f10) rfl rfl rfl (rfl) rfl rfl ?_
      refine G.anyg rfl rfl (.move rfl) rfl rfl rfl (rfl) rfl rfl ?_
      refine G.anyg rfl rfl (.move rfl) rfl rfl rfl (rfl) rfl rfl ?_
      refine G.anyg rfl rfl (.move rfl) rfl rfl rfl (rfl) rfl rfl ?_
      refine G.rdg rfl rfl (.loadAll ag27 (by rfl) rfl f10) rfl rfl rfl (rfl) rfl rfl ?_
      refine G.anyg rfl rfl (.move rfl) rfl rfl rfl (rfl) rfl rfl ?_
      refine G.anyg rfl rfl (.move rfl) rfl rfl rfl (rfl) rfl rfl ?_
      refine G.efg rfl rfl rfl rfl rfl (rfl) rfl rfl ?_
      refine Ef.call go9 rfl rfl (asign_ok k x no gone w4_13) ?_
      rintro _ w4_21 ⟨rfl, h4_21⟩
      refine ⟨_, rfl, ?_⟩
      refine ⟨fun _ => h4_21, ?_⟩
      have L11 := L9.trans h4_21
      refine G.efg rfl rfl rfl rfl rfl (rfl) rfl rfl ?_
      refine Ef.call go10 rfl rfl (rasign_ok k x no gone hk w4_21) ?_
      rintro _ w4_26 ⟨rfl, h4_26⟩
      refine ⟨_, rfl, ?_⟩
      refine ⟨fun _ => h4_26, ?_⟩
      have L12 := L11.trans h4_26
      refine G.anyg rfl rfl (.dec (.neA eg39 rfl rfl (eqv_ad (d := 9996) _ _)) (congrArg not (decide_eq_true rfl))) rfl rfl rfl (rfl) rfl rfl ?_
      refine G.any rfl rfl (.pickF rfl rfl rfl) rfl rfl rfl ?_
      refine G.nil ?_
      refine E.thenN ?_
      refine WC.condF rfl ?_
      refine WC.skip ?_
      refine E.thenN ?_
      refine WC.seq ?_
      refine WC.region ?_
      refine W.any (.move rfl) rfl rfl rfl ?_
      by_cases qc6_1 : nk ≤ 12
      · refine W.ef rfl rfl rfl ?_
        refine Ef.call go11 rfl rfl (new_book w4_26 (hK.le L12) (by omega) (hkb)) ?_
        rintro _ w6_1 ⟨gp6_1, F6_1, rfl, p6_1, h6_1⟩
        refine ⟨_, rfl, ?_⟩
        have L13 := L12.trans h6_1
        refine W.any (.assign rfl) rfl rfl rfl ?_
        refine W.nil ?_
        refine E.thenN ?_
        refine WC.seq ?_
        refine WC.region ?_
        refine W.any (.move rfl) rfl rfl rfl ?_
        refine W.ef rfl rfl rfl ?_
        refine Ef.call go12 rfl rfl (new_rbook w6_1 (hK.le L13) (by omega)) ?_
        rintro _ w7_1 ⟨gp7_1, F7_1, rfl, p7_1, h7_1⟩
        refine ⟨_, rfl, ?_⟩
        have L14 := L13.trans h7_1
        refine W.any (.assign rfl) rfl rfl rfl ?_
        refine W.nil ?_
        refine E.thenN ?_
        refine WC.seq ?_
        refine WC.seq ?_
        refine WC.region ?_
        refine W.any (.move rfl) rfl rfl rfl ?_
        refine W.any (.dec (.isNilP (by kernel_rfl) rfl) rfl) rfl rfl rfl ?_
        refine W.any (.move rfl) rfl rfl rfl ?_
        refine W.rdg (Any.rd (.move rfl) _) rfl rfl rfl (rfl) rfl rfl ?_
        refine W.rdg (Any.rd (.dec (.isNilP (by kernel_rfl) rfl) rfl) _) rfl rfl rfl (rfl) rfl rfl ?_
        refine W.any (.pickF rfl rfl rfl) rfl rfl rfl ?_
        refine W.nil ?_
        refine E.thenN ?_
        refine WC.condF rfl ?_
        refine WC.skip ?_
        refine E.thenN ?_
        refine WC.seq ?_
        refine WC.seq ?_
        refine WC.region ?_
        refine W.any (.assign rfl) rfl rfl rfl ?_
        refine W.nil ?_
        refine E.thenN ?_
        refine WC.block ?_
        have f15 := (p6_1.le h7_1)
        refine WC.loop (ι := Nat × (Nat → Prop) × (Nat → Prop) × BookS × RBk) (fun ⟨i, F, Fq, s, r⟩ => [(1, .slice Al nl cl), (13, .bool true), (14, .pointer (some ⟨gp6_1, 0, none⟩)), (15, .pointer (some ⟨gp7_1, 0, none⟩)), (16, .int .i64 (((i : Nat) : Int)))]) (fun ⟨i, F, Fq, s, r⟩ wl0 => (i ≤ nl) ∧ (RelB s r) ∧ (s.keys = keys) ∧ (r.all.length ≤ i) ∧ Le w wl0 ∧ w7_1.heap.size ≤ wl0.heap.size ∧ BPool wl0 w4_26.heap.size gp6_1 F s ∧ RBPool wl0 w6_1.heap.size gp7_1 Fq r ∧ (∀ k, F k → ¬ Fq k)) (fun ⟨i, F, Fq, s, r⟩ => nl - i) (0, F6_1, F7_1, (bookN keys), (⟨keys, [], []⟩ : RBk)) ?_ ?_ ?_
        · exact .cons rfl (.cons rfl (.cons rfl (.cons rfl (.cons rfl (.nil _)))))
        · exact ⟨Nat.zero_le _, RelB.nil keys, rfl, Nat.le_refl _, L14, Nat.le_refl _, f15, p7_1, (fun k h1 h2 => by have := p7_1.old h2;  have := p6_1.lt h1; omega)⟩
        · rintro ⟨i, F, Fq, s, r⟩ wl0 ⟨hi, hR, hsk, hra, Ll0, zl0, f0_0, f0_1, pn0_0⟩
          refine WC.seq ?_
          refine WC.seq ?_
          refine WC.region ?_
          refine W.any (.move rfl) rfl rfl rfl ?_
          refine W.any (.move rfl) rfl rfl rfl ?_
          refine W.rd (.len Tryz.underlying23 rfl) rfl rfl rfl ?_
          refine W.any (.lss rfl rfl) rfl rfl rfl ?_
          refine W.nil ?_
          refine E.thenN ?_
          by_cases c3 : ((i : Nat) : Int) < ((nl : Nat) : Int)
          · refine WC.condY rfl (decide_eq_true c3) ?_
            have hgood := f0_0.good
            have hal := adsB_len (takeS s (l.getD i Bsp.noTold).a (l.getD i Bsp.noTold).h)
            have hR2 := hR.step (l.getD i Bsp.noTold).a (l.getD i Bsp.noTold).h
            have h17 : (!(((takeS s (l.getD i Bsp.noTold).a (l.getD i Bsp.noTold).h).nw (Bsp.Sd.mk ((l.getD i Bsp.noTold).a.e.c) ((l.getD i Bsp.noTold).a.e.f))).isSome == (rget (rtakeS r (l.getD i Bsp.noTold).a (l.getD i Bsp.noTold).h).all (Bsp.Sd.mk ((l.getD i Bsp.noTold).a.e.c) ((l.getD i Bsp.noTold).a.e.f))).isSome)) = false := by rw [hR2.nw]; simp
            refine WC.skip ?_
            refine E.thenN ?_
            refine WC.seq ?_
            refine WC.block ?_
            refine WC.seq ?_
            refine WC.seq ?_
            refine WC.drawR (fun w13 w' => Le w w') [0, 1, 2, 3, 4, 5, 6, 7, 8, 9, 10, 12, 13, 14, 15, 16, 17, 18, 19, 20, 21, 22, 11, 23, 24, 25, 26, 28, 27, 29, 30, 31, 32] mixed (by kernel_rfl) ?_
            intro w13 d13
            have L16 := Ll0.trans d13
            refine ⟨L16, ?_⟩
            refine GR.any rfl rfl (.move rfl) rfl rfl rfl ?_
            refine GR.any rfl rfl (.move rfl) rfl rfl rfl ?_
            refine GR.any rfl rfl (.move rfl) rfl rfl rfl ?_
            refine GR.any rfl rfl (.idxS (i) Tryz.underlying23 sz48 rfl rfl (hl.isSome toldV_row (by omega)) (rfl) (by omega)) rfl rfl rfl ?_
            refine GR.any rfl rfl (.vfield fa48_0 (hl.isSome toldV_row (by omega)) rfl) rfl rfl rfl ?_
            refine GR.rd rfl rfl (fun w' hs => .vpart (j := i) (o := 0) (adV ((l.getD i Bsp.noTold).a)) ag39 rfl (by decide) rfl (hl.le hs) toldV_row (getS l Bsp.noTold (by first | omega | (simp only [List.length_cons, List.length_nil]; omega))) rfl) rfl rfl rfl ?_
            refine GR.any rfl rfl (.move rfl) rfl rfl rfl ?_
            refine GR.any rfl rfl (.move rfl) rfl rfl rfl ?_
            refine GR.any rfl rfl (.idxS (i) Tryz.underlying23 sz48 rfl rfl (hl.isSome toldV_row (by omega)) (rfl) (by omega)) rfl rfl rfl ?_
            refine GR.any rfl rfl (.vfield fa48_1 (hl.isSome toldV_row (by omega)) rfl) rfl rfl rfl ?_
            refine GR.rd rfl rfl (fun w' hs => .vcell (j := i) (o := 13) (v := .int .i64 ((l.getD i Bsp.noTold).h)) na3 rfl (hl.le hs) toldV_row (getS l Bsp.noTold (by first | omega | (simp only [List.length_cons, List.length_nil]; omega))) rfl) rfl rfl rfl ?_
            refine GR.any rfl rfl (.move rfl) rfl rfl rfl ?_
            refine GR.any rfl rfl (.move rfl) rfl rfl rfl ?_
            refine GR.any rfl rfl (.move rfl) rfl rfl rfl ?_
            refine GR.any rfl rfl (.idxS (i) Tryz.underlying23 sz48 rfl rfl (hl.isSome toldV_row (by omega)) (rfl) (by omega)) rfl rfl rfl ?_
            refine GR.any rfl rfl (.vfield fa48_0 (hl.isSome toldV_row (by omega)) rfl) rfl rfl rfl ?_
            refine GR.rd rfl rfl (fun w' hs => .vpart (j := i) (o := 0) (adV ((l.getD i Bsp.noTold).a)) ag39 rfl (by decide) rfl (hl.le hs) toldV_row (getS l Bsp.noTold (by first | omega | (simp only [List.length_cons, List.length_nil]; omega))) rfl) rfl rfl rfl ?_
            refine GR.any rfl rfl (.move rfl) rfl rfl rfl ?_
            refine GR.any rfl rfl (.move rfl) rfl rfl rfl ?_
            refine GR.any rfl rfl (.idxS (i) Tryz.underlying23 sz48 rfl rfl (hl.isSome toldV_row (by omega)) (rfl) (by omega)) rfl rfl rfl ?_
            refine GR.any rfl rfl (.vfield fa48_1 (hl.isSome toldV_row (by omega)) rfl) rfl rfl rfl ?_
            refine GR.rd rfl rfl (fun w' hs => .vcell (j := i) (o := 13) (v := .int .i64 ((l.getD i Bsp.noTold).h)) na3 rfl (hl.le hs) toldV_row (getS l Bsp.noTold (by first | omega | (simp only [List.length_cons, List.length_nil]; omega))) rfl) rfl rfl rfl ?_
            have f17 := (f0_0.le d13)
            refine GR.ef rfl rfl rfl rfl rfl ?_
            refine Ef.call go13 rfl rfl (take_book ((l.getD i Bsp.noTold).a) ((l.getD i Bsp.noTold).h) ((hlg _ (getD_mem' (by omega))).1.2.2.2.1) f17) ?_
            rintro _ w13_11 ⟨F13_11, rfl, p13_11, g13_11, h13_11⟩
            refine ⟨_, rfl, ?_⟩
            have L18 := L16.chP_then h13_11 (fun i hi => Nat.le_trans L12.size (f17.old hi))
            have f19 := (f0_1.le d13)
            have zq20n := (show ∀ k, Fq k → ¬ F k from (fun k h1 h2 => pn0_0 k h2 h1))
            have zq20 := f19.chP h13_11 zq20n
            have zq20g : ∀ k, Fq k → ¬ F13_11 k := fun k hk hF => (g13_11 _ hF).elim (zq20n k hk) (fun hz => by have := f19.lt hk; omega)
            refine ⟨fun _ => L18, ?_⟩
            refine GR.ef rfl rfl rfl rfl rfl ?_
            refine Ef.call go14 rfl rfl (take_rbook ((l.getD i Bsp.noTold).a) ((l.getD i Bsp.noTold).h) ((hlg _ (getD_mem' (by omega))).1.2.2.2.1) (⟨by rw [hR.keys, hsk]; exact hkb, by rw [hR.keys, hsk]; omega, by rw [hR.ht]; exact hgood.htB.1⟩) (by omega) zq20) ?_
            rintro _ w13_23 ⟨F13_23, rfl, p13_23, g13_23, h13_23⟩
            refine ⟨_, rfl, ?_⟩
            have L21 := L18.chP_then h13_23 (fun i hi => Nat.le_trans L13.size (zq20.old hi))
            have zq22n := (show ∀ k, F13_11 k → ¬ Fq k from (fun k h1 h2 => zq20g k h2 h1))
            have zq22 := p13_11.chP h13_23 zq22n
            have zq22g : ∀ k, F13_11 k → ¬ F13_23 k := fun k hk hF => (g13_23 _ hF).elim (zq22n k hk) (fun hz => by have := p13_11.lt hk; omega)
            refine ⟨fun h => absurd h (ne_true_of_eq_false (by kernel_rfl)), ?_⟩
            refine GR.any rfl rfl (.neq rfl rfl) rfl rfl rfl ?_
            refine GR.any rfl rfl (.dec (.move rfl) (decide_eq_false (fun hh => hh (hR.code _ _).symm))) rfl rfl rfl ?_
            refine GR.anyg rfl rfl (.move rfl) rfl rfl rfl (rfl) rfl rfl ?_
            refine GR.anyg rfl rfl (.move rfl) rfl rfl rfl (rfl) rfl rfl ?_
            refine GR.efg rfl rfl rfl rfl rfl (rfl) rfl rfl ?_
            refine Ef.call go16 rfl rfl (ads_book (s := (takeS s ((l.getD i Bsp.noTold).a) ((l.getD i Bsp.noTold).h))) zq22) ?_
            rintro _ w13_27 ⟨A13_27, c13_27, rfl, o13_27, h13_27⟩
            refine ⟨_, rfl, ?_⟩
            have L23 := L21.trans h13_27
            refine ⟨fun h => absurd h (ne_true_of_eq_false (by kernel_rfl)), ?_⟩
            have f24 := (p13_23.le h13_27)
            refine GR.efg rfl rfl rfl rfl rfl (rfl) rfl rfl ?_
            refine Ef.call go17 rfl rfl (ads_rbook (w := w13_27) (s := (rtakeS r ((l.getD i Bsp.noTold).a) ((l.getD i Bsp.noTold).h))) (by have := rtakeS_len r (l.getD i Bsp.noTold).a (l.getD i Bsp.noTold).h; omega) f24) ?_
            rintro _ w13_29 ⟨A13_29, c13_29, rfl, o13_29, h13_29⟩
            refine ⟨_, rfl, ?_⟩
            have L25 := L23.trans h13_29
            refine ⟨fun h => absurd h (ne_true_of_eq_false (by kernel_rfl)), ?_⟩
            have f26 := (o13_27.le h13_29)
            refine GR.efg rfl rfl rfl rfl rfl (rfl) rfl rfl ?_
            refine Ef.call go15 rfl rfl (sameads_ok w13_29 f26.vec o13_29.vec (by omega)) ?_
            rintro _ w13_30 ⟨rfl, h13_30⟩
            refine ⟨_, rfl, ?_⟩
            have L27 := L25.trans h13_30
            refine ⟨fun h => absurd h (ne_true_of_eq_false (by kernel_rfl)), ?_⟩
            refine GR.anyg rfl rfl (.dec (.not rfl) (congrArg not (decide_eq_true (rads_same hR2).symm))) rfl rfl rfl (rfl) rfl rfl ?_
            refine GR.any rfl rfl (.pickF rfl rfl rfl) rfl rfl rfl ?_
            refine GR.nil ?_
            refine E.thenN ?_
            refine WC.condF rfl ?_
            refine WC.skip ?_
            refine E.thenN ?_
            refine WC.seq ?_
            refine WC.drawT (fun o => (app o [0, 1, 2, 3, 4, 5, 6, 7, 8, 9, 10, 11, 12, 13, 14] (.br (app o [15, 16, 17, 18, 19, 20, 21] .nil) (app o [19, 15, 16, 17, 18, 20, 21] .nil)))) mixed (by kernel_rfl) ?_
            intro w15 d15
            have L28 := L27.trans d15
            refine GT.app ?_
            refine G.any rfl rfl (.move rfl) rfl rfl rfl ?_
            refine G.any rfl rfl (.move rfl) rfl rfl rfl ?_
            refine G.any rfl rfl (.move rfl) rfl rfl rfl ?_
            refine G.any rfl rfl (.idxS (i) Tryz.underlying23 sz48 rfl rfl (hl.isSome toldV_row (by omega)) (rfl) (by omega)) rfl rfl rfl ?_
            refine G.any rfl rfl (.vfield fa48_0 (hl.isSome toldV_row (by omega)) rfl) rfl rfl rfl ?_
            refine G.any rfl rfl (.vfield fa39_0 (hl.isSome toldV_row (by omega)) rfl) rfl rfl rfl ?_
            refine G.any rfl rfl (.vfield fa27_2 (hl.isSome toldV_row (by omega)) rfl) rfl rfl rfl ?_
            refine G.rd rfl rfl (.vcell (j := i) (o := 2) (v := .int .i64 ((l.getD i Bsp.noTold).a.e.c)) na3 rfl (hl.le L28) toldV_row (getS l Bsp.noTold (by first | omega | (simp only [List.length_cons, List.length_nil]; omega))) rfl) rfl rfl rfl ?_
            refine G.any rfl rfl (.move rfl) rfl rfl rfl ?_
            refine G.any rfl rfl (.move rfl) rfl rfl rfl ?_
            refine G.any rfl rfl (.idxS (i) Tryz.underlying23 sz48 rfl rfl (hl.isSome toldV_row (by omega)) (rfl) (by omega)) rfl rfl rfl ?_
            refine G.any rfl rfl (.vfield fa48_0 (hl.isSome toldV_row (by omega)) rfl) rfl rfl rfl ?_
            refine G.any rfl rfl (.vfield fa39_0 (hl.isSome toldV_row (by omega)) rfl) rfl rfl rfl ?_
            refine G.any rfl rfl (.vfield fa27_0 (hl.isSome toldV_row (by omega)) rfl) rfl rfl rfl ?_
            refine G.rd rfl rfl (.vcell (j := i) (o := 0) (v := .int .i64 ((l.getD i Bsp.noTold).a.e.f)) na3 rfl (hl.le L28) toldV_row (getS l Bsp.noTold (by first | omega | (simp only [List.length_cons, List.length_nil]; omega))) rfl) rfl rfl rfl ?_
            refine G.nil ?_
            refine GT.br ?_ ?_
            · refine GT.last ?_
              have f29 := (zq22.le (h13_27.trans (h13_29.trans (h13_30.trans d15))))
              refine G.ef rfl rfl rfl rfl rfl ?_
              refine Ef.call go18 rfl rfl (get_book ((l.getD i Bsp.noTold).a.e.c) ((l.getD i Bsp.noTold).a.e.f) f29) ?_
              rintro _ w15_15 ⟨rfl, h15_15⟩
              refine ⟨_, rfl, ?_⟩
              refine ⟨fun _ => h15_15, ?_⟩
              have L30 := L28.trans h15_15
              refine G.any rfl rfl (.move rfl) rfl rfl rfl ?_
              refine G.any rfl rfl (.extract (v := .agg (adV (((takeS s ((l.getD i Bsp.noTold).a) ((l.getD i Bsp.noTold).h)).nw (Bsp.Sd.mk ((l.getD i Bsp.noTold).a.e.c) ((l.getD i Bsp.noTold).a.e.f))).getD noAd)).toArray) rfl rfl) rfl rfl rfl ?_
              refine G.any rfl rfl (.extract (v := .bool (((takeS s ((l.getD i Bsp.noTold).a) ((l.getD i Bsp.noTold).h)).nw (Bsp.Sd.mk ((l.getD i Bsp.noTold).a.e.c) ((l.getD i Bsp.noTold).a.e.f))).isSome)) rfl rfl) rfl rfl rfl ?_
              refine G.ef rfl rfl rfl rfl rfl ?_
              refine Ef.allocA z39 ?_
              intro g15_19 w15_19 hg15_19 b15_19 h15_19
              refine ⟨fun _ => h15_19, ?_⟩
              have L31 := L30.trans h15_19
              have b15_19 : Blk w15_19 g15_19 39 (adV noAd).toArray := b15_19
              refine G.ef0 rfl rfl rfl rfl ?_
              refine Ef.storeAll sz39 (by rfl) rfl rfl b15_19 (by simp only [List.size_toArray, adV_row.len]) (adV_row.one (((takeS s ((l.getD i Bsp.noTold).a) ((l.getD i Bsp.noTold).h)).nw (Bsp.Sd.mk ((l.getD i Bsp.noTold).a.e.c) ((l.getD i Bsp.noTold).a.e.f))).getD noAd)) ?_
              intro w15_20 b15_20 h15_20
              refine ⟨fun h => absurd h (ne_true_of_eq_false (by kernel_rfl)), ?_⟩
              have b15_20 : Blk w15_20 g15_19 39 (adV (((takeS s ((l.getD i Bsp.noTold).a) ((l.getD i Bsp.noTold).h)).nw (Bsp.Sd.mk ((l.getD i Bsp.noTold).a.e.c) ((l.getD i Bsp.noTold).a.e.f))).getD noAd)).toArray := b15_20
              have L32 : Le w w15_20 := L31.then_ h15_20 (fun q hq => by cases hq; exact Nat.le_trans L30.size hg15_19)
              refine G.any rfl rfl (.assign rfl) rfl rfl rfl ?_
              refine G.nil ?_
              refine E.thenN ?_
              refine WC.seq ?_
              refine WC.drawT (fun o => (app o [0, 1, 2, 3, 4, 5, 6, 7, 8, 9, 10, 11, 12, 13, 14] (.br (app o [15, 16, 17, 18, 19, 20, 21] .nil) (app o [19, 15, 16, 17, 18, 20, 21] .nil)))) mixed (by kernel_rfl) ?_
              intro w16 d16
              have L33 := L32.trans d16
              refine GT.app ?_
              refine G.any rfl rfl (.move rfl) rfl rfl rfl ?_
              refine G.any rfl rfl (.move rfl) rfl rfl rfl ?_
              refine G.any rfl rfl (.move rfl) rfl rfl rfl ?_
              refine G.any rfl rfl (.idxS (i) Tryz.underlying23 sz48 rfl rfl (hl.isSome toldV_row (by omega)) (rfl) (by omega)) rfl rfl rfl ?_
              refine G.any rfl rfl (.vfield fa48_0 (hl.isSome toldV_row (by omega)) rfl) rfl rfl rfl ?_
              refine G.any rfl rfl (.vfield fa39_0 (hl.isSome toldV_row (by omega)) rfl) rfl rfl rfl ?_
              refine G.any rfl rfl (.vfield fa27_2 (hl.isSome toldV_row (by omega)) rfl) rfl rfl rfl ?_
              refine G.rd rfl rfl (.vcell (j := i) (o := 2) (v := .int .i64 ((l.getD i Bsp.noTold).a.e.c)) na3 rfl (hl.le L33) toldV_row (getS l Bsp.noTold (by first | omega | (simp only [List.length_cons, List.length_nil]; omega))) rfl) rfl rfl rfl ?_
              refine G.any rfl rfl (.move rfl) rfl rfl rfl ?_
              refine G.any rfl rfl (.move rfl) rfl rfl rfl ?_
              refine G.any rfl rfl (.idxS (i) Tryz.underlying23 sz48 rfl rfl (hl.isSome toldV_row (by omega)) (rfl) (by omega)) rfl rfl rfl ?_
              refine G.any rfl rfl (.vfield fa48_0 (hl.isSome toldV_row (by omega)) rfl) rfl rfl rfl ?_
              refine G.any rfl rfl (.vfield fa39_0 (hl.isSome toldV_row (by omega)) rfl) rfl rfl rfl ?_
              refine G.any rfl rfl (.vfield fa27_0 (hl.isSome toldV_row (by omega)) rfl) rfl rfl rfl ?_
              refine G.rd rfl rfl (.vcell (j := i) (o := 0) (v := .int .i64 ((l.getD i Bsp.noTold).a.e.f)) na3 rfl (hl.le L33) toldV_row (getS l Bsp.noTold (by first | omega | (simp only [List.length_cons, List.length_nil]; omega))) rfl) rfl rfl rfl ?_
              refine G.nil ?_
              refine GT.br ?_ ?_
              · refine GT.last ?_
                have f34 := (((f24.le (h13_29.trans (h13_30.trans (d15.trans (h15_15.trans h15_19))))).ch h15_20 (fun q hqq hF => by cases hqq; have := f24.lt hF; have := h13_29.size; have := h13_30.size; have := d15.size; have := h15_15.size; have := hg15_19; omega)).le d16)
                refine G.ef rfl rfl rfl rfl rfl ?_
                refine Ef.call go19 rfl rfl (get_rbook ((l.getD i Bsp.noTold).a.e.c) ((l.getD i Bsp.noTold).a.e.f) (by have := rtakeS_len r (l.getD i Bsp.noTold).a (l.getD i Bsp.noTold).h; omega) f34) ?_
                rintro _ w16_15 ⟨rfl, h16_15⟩
                refine ⟨_, rfl, ?_⟩
                refine ⟨fun _ => h16_15, ?_⟩
                have L35 := L33.trans h16_15
                refine G.any rfl rfl (.move rfl) rfl rfl rfl ?_
                refine G.any rfl rfl (.extract (v := .agg (adV ((rget (rtakeS r ((l.getD i Bsp.noTold).a) ((l.getD i Bsp.noTold).h)).all (Bsp.Sd.mk ((l.getD i Bsp.noTold).a.e.c) ((l.getD i Bsp.noTold).a.e.f))).getD noAd)).toArray) rfl rfl) rfl rfl rfl ?_
                refine G.any rfl rfl (.extract (v := .bool ((rget (rtakeS r ((l.getD i Bsp.noTold).a) ((l.getD i Bsp.noTold).h)).all (Bsp.Sd.mk ((l.getD i Bsp.noTold).a.e.c) ((l.getD i Bsp.noTold).a.e.f))).isSome)) rfl rfl) rfl rfl rfl ?_
                refine G.ef rfl rfl rfl rfl rfl ?_
                refine Ef.allocA z39 ?_
                intro g16_19 w16_19 hg16_19 b16_19 h16_19
                refine ⟨fun _ => h16_19, ?_⟩
                have L36 := L35.trans h16_19
                have b16_19 : Blk w16_19 g16_19 39 (adV noAd).toArray := b16_19
                refine G.ef0 rfl rfl rfl rfl ?_
                refine Ef.storeAll sz39 (by rfl) rfl rfl b16_19 (by simp only [List.size_toArray, adV_row.len]) (adV_row.one ((rget (rtakeS r ((l.getD i Bsp.noTold).a) ((l.getD i Bsp.noTold).h)).all (Bsp.Sd.mk ((l.getD i Bsp.noTold).a.e.c) ((l.getD i Bsp.noTold).a.e.f))).getD noAd)) ?_
                intro w16_20 b16_20 h16_20
                refine ⟨fun h => absurd h (ne_true_of_eq_false (by kernel_rfl)), ?_⟩
                have b16_20 : Blk w16_20 g16_19 39 (adV ((rget (rtakeS r ((l.getD i Bsp.noTold).a) ((l.getD i Bsp.noTold).h)).all (Bsp.Sd.mk ((l.getD i Bsp.noTold).a.e.c) ((l.getD i Bsp.noTold).a.e.f))).getD noAd)).toArray := b16_20
                have L37 : Le w w16_20 := L36.then_ h16_20 (fun q hq => by cases hq; exact Nat.le_trans L35.size hg16_19)
                refine G.any rfl rfl (.assign rfl) rfl rfl rfl ?_
                refine G.nil ?_
                refine E.thenN ?_
                refine WC.seq ?_
                refine WC.region ?_
                have f38 := ((b15_20.le (d16.trans (h16_15.trans h16_19))).ch h16_20 (fun h => (show g16_19 ≠ g15_19 from by have := b15_20.lt; have := d16.size; have := h16_15.size; omega) (Option.some.inj h)))
                refine W.rd (.loadAll ag39 (by rfl) rfl f38) rfl rfl rfl ?_
                refine W.rd (.loadAll ag39 (by rfl) rfl b16_20) rfl rfl rfl ?_
                refine W.any (.neA eg39 rfl rfl (eqv_ad (d := 9996) _ _)) rfl rfl rfl ?_
                refine W.any (.dec (.move rfl) (congrArg not (decide_eq_true (by rw [hR2.nw])))) rfl rfl rfl ?_
                refine W.rdg (Any.rd (.move rfl) _) rfl rfl rfl (rfl) rfl rfl ?_
                refine W.rdg (Any.rd (.move rfl) _) rfl rfl rfl (rfl) rfl rfl ?_
                refine W.rdg (Any.rd (.dec (.bneq Tryz.underlying4 rfl rfl) (h17)) _) rfl rfl rfl (rfl) rfl rfl ?_
                refine W.any (.pickF rfl rfl rfl) rfl rfl rfl ?_
                refine W.nil ?_
                refine E.thenN ?_
                refine WC.condF rfl ?_
                refine WC.skip ?_
                refine E.blkN ?_
                refine E.thenN ?_
                refine WC.region ?_
                refine W.any (.move rfl) rfl rfl rfl ?_
                refine W.any (.add rfl rfl (by omega)) rfl rfl rfl ?_
                refine W.any (.assign rfl) rfl rfl rfl ?_
                refine W.nil ?_
                have f39 := ((((f29.le (h15_15.trans h15_19)).ch h15_20 (fun q hqq hF => by cases hqq; have := f29.lt hF; have := h15_15.size; have := hg15_19; omega)).le (d16.trans (h16_15.trans h16_19))).ch h16_20 (fun q hqq hF => by cases hqq; have := f29.lt hF; have := h15_15.size; have := h15_19.size; have := h15_20.size; have := d16.size; have := h16_15.size; have := hg16_19; omega))
                have f40 := ((f34.le (h16_15.trans h16_19)).ch h16_20 (fun q hqq hF => by cases hqq; have := f34.lt hF; have := h16_15.size; have := hg16_19; omega))
                refine E.again (i + 1, F13_11, F13_23, (takeS s (l.getD i Bsp.noTold).a (l.getD i Bsp.noTold).h), (rtakeS r (l.getD i Bsp.noTold).a (l.getD i Bsp.noTold).h)) (.cons rfl (.cons rfl (.cons rfl (.cons rfl (.cons rfl (.nil _)))))) ?_ ?_
                · exact ⟨by omega, hR2, by rw [takeS_keys]; exact hsk, by have := rtakeS_len r (l.getD i Bsp.noTold).a (l.getD i Bsp.noTold).h; omega, L37, by have := zl0; have := d13.size; have := h13_11.size; have := h13_23.size; have := h13_27.size; have := h13_29.size; have := h13_30.size; have := d15.size; have := h15_15.size; have := h15_19.size; have := h15_20.size; have := d16.size; have := h16_15.size; have := h16_19.size; have := h16_20.size; omega, f39, f40, zq22g⟩
                · first | omega | (simp only []; omega)
              · refine GT.last ?_
                refine G.ef rfl rfl rfl rfl rfl ?_
                refine Ef.allocA z39 ?_
                intro g16_19_1 w16_19_1 hg16_19_1 b16_19_1 h16_19_1
                refine ⟨fun _ => h16_19_1, ?_⟩
                have L41 := L33.trans h16_19_1
                have b16_19_1 : Blk w16_19_1 g16_19_1 39 (adV noAd).toArray := b16_19_1
                have f42 := (((f24.le (h13_29.trans (h13_30.trans (d15.trans (h15_15.trans h15_19))))).ch h15_20 (fun q hqq hF => by cases hqq; have := f24.lt hF; have := h13_29.size; have := h13_30.size; have := d15.size; have := h15_15.size; have := hg15_19; omega)).le (d16.trans h16_19_1))
                refine G.ef rfl rfl rfl rfl rfl ?_
                refine Ef.call go19 rfl rfl (get_rbook ((l.getD i Bsp.noTold).a.e.c) ((l.getD i Bsp.noTold).a.e.f) (by have := rtakeS_len r (l.getD i Bsp.noTold).a (l.getD i Bsp.noTold).h; omega) f42) ?_
                rintro _ w16_15_1 ⟨rfl, h16_15_1⟩
                refine ⟨_, rfl, ?_⟩
                refine ⟨fun _ => h16_15_1, ?_⟩
                have L43 := L41.trans h16_15_1
                refine G.any rfl rfl (.move rfl) rfl rfl rfl ?_
                refine G.any rfl rfl (.extract (v := .agg (adV ((rget (rtakeS r ((l.getD i Bsp.noTold).a) ((l.getD i Bsp.noTold).h)).all (Bsp.Sd.mk ((l.getD i Bsp.noTold).a.e.c) ((l.getD i Bsp.noTold).a.e.f))).getD noAd)).toArray) rfl rfl) rfl rfl rfl ?_
                refine G.any rfl rfl (.extract (v := .bool ((rget (rtakeS r ((l.getD i Bsp.noTold).a) ((l.getD i Bsp.noTold).h)).all (Bsp.Sd.mk ((l.getD i Bsp.noTold).a.e.c) ((l.getD i Bsp.noTold).a.e.f))).isSome)) rfl rfl) rfl rfl rfl ?_
                have f44 := (b16_19_1.le h16_15_1)
                refine G.ef0 rfl rfl rfl rfl ?_
                refine Ef.storeAll sz39 (by rfl) rfl rfl f44 (by simp only [List.size_toArray, adV_row.len]) (adV_row.one ((rget (rtakeS r ((l.getD i Bsp.noTold).a) ((l.getD i Bsp.noTold).h)).all (Bsp.Sd.mk ((l.getD i Bsp.noTold).a.e.c) ((l.getD i Bsp.noTold).a.e.f))).getD noAd)) ?_
                intro w16_20_1 b16_20_1 h16_20_1
                refine ⟨fun h => absurd h (ne_true_of_eq_false (by kernel_rfl)), ?_⟩
                have b16_20_1 : Blk w16_20_1 g16_19_1 39 (adV ((rget (rtakeS r ((l.getD i Bsp.noTold).a) ((l.getD i Bsp.noTold).h)).all (Bsp.Sd.mk ((l.getD i Bsp.noTold).a.e.c) ((l.getD i Bsp.noTold).a.e.f))).getD noAd)).toArray := b16_20_1
                have L45 : Le w w16_20_1 := L43.then_ h16_20_1 (fun q hq => by cases hq; exact Nat.le_trans L33.size hg16_19_1)
                refine G.any rfl rfl (.assign rfl) rfl rfl rfl ?_
                refine G.nil ?_
                refine E.thenN ?_
                refine WC.seq ?_
                refine WC.region ?_
                have f46 := ((b15_20.le (d16.trans (h16_19_1.trans h16_15_1))).ch h16_20_1 (fun h => (show g16_19_1 ≠ g15_19 from by have := b15_20.lt; have := d16.size; omega) (Option.some.inj h)))
                refine W.rd (.loadAll ag39 (by rfl) rfl f46) rfl rfl rfl ?_
                refine W.rd (.loadAll ag39 (by rfl) rfl b16_20_1) rfl rfl rfl ?_
                refine W.any (.neA eg39 rfl rfl (eqv_ad (d := 9996) _ _)) rfl rfl rfl ?_
                refine W.any (.dec (.move rfl) (congrArg not (decide_eq_true (by rw [hR2.nw])))) rfl rfl rfl ?_
                refine W.rdg (Any.rd (.move rfl) _) rfl rfl rfl (rfl) rfl rfl ?_
                refine W.rdg (Any.rd (.move rfl) _) rfl rfl rfl (rfl) rfl rfl ?_
                refine W.rdg (Any.rd (.dec (.bneq Tryz.underlying4 rfl rfl) (h17)) _) rfl rfl rfl (rfl) rfl rfl ?_
                refine W.any (.pickF rfl rfl rfl) rfl rfl rfl ?_
                refine W.nil ?_
                refine E.thenN ?_
                refine WC.condF rfl ?_
                refine WC.skip ?_
                refine E.blkN ?_
                refine E.thenN ?_
                refine WC.region ?_
                refine W.any (.move rfl) rfl rfl rfl ?_
                refine W.any (.add rfl rfl (by omega)) rfl rfl rfl ?_
                refine W.any (.assign rfl) rfl rfl rfl ?_
                refine W.nil ?_
                have f47 := ((((f29.le (h15_15.trans h15_19)).ch h15_20 (fun q hqq hF => by cases hqq; have := f29.lt hF; have := h15_15.size; have := hg15_19; omega)).le (d16.trans (h16_19_1.trans h16_15_1))).ch h16_20_1 (fun q hqq hF => by cases hqq; have := f29.lt hF; have := h15_15.size; have := h15_19.size; have := h15_20.size; have := d16.size; have := hg16_19_1; omega))
                have f48 := ((f42.le h16_15_1).ch h16_20_1 (fun q hqq hF => by cases hqq; have := f24.lt hF; have := h13_29.size; have := h13_30.size; have := d15.size; have := h15_15.size; have := h15_19.size; have := h15_20.size; have := d16.size; have := hg16_19_1; omega))
                refine E.again (i + 1, F13_11, F13_23, (takeS s (l.getD i Bsp.noTold).a (l.getD i Bsp.noTold).h), (rtakeS r (l.getD i Bsp.noTold).a (l.getD i Bsp.noTold).h)) (.cons rfl (.cons rfl (.cons rfl (.cons rfl (.cons rfl (.nil _)))))) ?_ ?_
                · exact ⟨by omega, hR2, by rw [takeS_keys]; exact hsk, by have := rtakeS_len r (l.getD i Bsp.noTold).a (l.getD i Bsp.noTold).h; omega, L45, by have := zl0; have := d13.size; have := h13_11.size; have := h13_23.size; have := h13_27.size; have := h13_29.size; have := h13_30.size; have := d15.size; have := h15_15.size; have := h15_19.size; have := h15_20.size; have := d16.size; have := h16_19_1.size; have := h16_15_1.size; have := h16_20_1.size; omega, f47, f48, zq22g⟩
                · first | omega | (simp only []; omega)
            · refine GT.last ?_
              refine G.ef rfl rfl rfl rfl rfl ?_
              refine Ef.allocA z39 ?_
              intro g15_19_1 w15_19_1 hg15_19_1 b15_19_1 h15_19_1
              refine ⟨fun _ => h15_19_1, ?_⟩
              have L49 := L28.trans h15_19_1
              have b15_19_1 : Blk w15_19_1 g15_19_1 39 (adV noAd).toArray := b15_19_1
              have f50 := (zq22.le (h13_27.trans (h13_29.trans (h13_30.trans (d15.trans h15_19_1)))))
              refine G.ef rfl rfl rfl rfl rfl ?_
              refine Ef.call go18 rfl rfl (get_book ((l.getD i Bsp.noTold).a.e.c) ((l.getD i Bsp.noTold).a.e.f) f50) ?_
              rintro _ w15_15_1 ⟨rfl, h15_15_1⟩
              refine ⟨_, rfl, ?_⟩
              refine ⟨fun _ => h15_15_1, ?_⟩
              have L51 := L49.trans h15_15_1
              refine G.any rfl rfl (.move rfl) rfl rfl rfl ?_
              refine G.any rfl rfl (.extract (v := .agg (adV (((takeS s ((l.getD i Bsp.noTold).a) ((l.getD i Bsp.noTold).h)).nw (Bsp.Sd.mk ((l.getD i Bsp.noTold).a.e.c) ((l.getD i Bsp.noTold).a.e.f))).getD noAd)).toArray) rfl rfl) rfl rfl rfl ?_
              refine G.any rfl rfl (.extract (v := .bool (((takeS s ((l.getD i Bsp.noTold).a) ((l.getD i Bsp.noTold).h)).nw (Bsp.Sd.mk ((l.getD i Bsp.noTold).a.e.c) ((l.getD i Bsp.noTold).a.e.f))).isSome)) rfl rfl) rfl rfl rfl ?_
              have f52 := (b15_19_1.le h15_15_1)
              refine G.ef0 rfl rfl rfl rfl ?_
              refine Ef.storeAll sz39 (by rfl) rfl rfl f52 (by simp only [List.size_toArray, adV_row.len]) (adV_row.one (((takeS s ((l.getD i Bsp.noTold).a) ((l.getD i Bsp.noTold).h)).nw (Bsp.Sd.mk ((l.getD i Bsp.noTold).a.e.c) ((l.getD i Bsp.noTold).a.e.f))).getD noAd)) ?_
              intro w15_20_1 b15_20_1 h15_20_1
              refine ⟨fun h => absurd h (ne_true_of_eq_false (by kernel_rfl)), ?_⟩
              have b15_20_1 : Blk w15_20_1 g15_19_1 39 (adV (((takeS s ((l.getD i Bsp.noTold).a) ((l.getD i Bsp.noTold).h)).nw (Bsp.Sd.mk ((l.getD i Bsp.noTold).a.e.c) ((l.getD i Bsp.noTold).a.e.f))).getD noAd)).toArray := b15_20_1
              have L53 : Le w w15_20_1 := L51.then_ h15_20_1 (fun q hq => by cases hq; exact Nat.le_trans L28.size hg15_19_1)
              refine G.any rfl rfl (.assign rfl) rfl rfl rfl ?_
              refine G.nil ?_
              refine E.thenN ?_
              refine WC.seq ?_
              refine WC.drawT (fun o => (app o [0, 1, 2, 3, 4, 5, 6, 7, 8, 9, 10, 11, 12, 13, 14] (.br (app o [15, 16, 17, 18, 19, 20, 21] .nil) (app o [19, 15, 16, 17, 18, 20, 21] .nil)))) mixed (by kernel_rfl) ?_
              intro w16 d16
              have L54 := L53.trans d16
              refine GT.app ?_
              refine G.any rfl rfl (.move rfl) rfl rfl rfl ?_
              refine G.any rfl rfl (.move rfl) rfl rfl rfl ?_
              refine G.any rfl rfl (.move rfl) rfl rfl rfl ?_
              refine G.any rfl rfl (.idxS (i) Tryz.underlying23 sz48 rfl rfl (hl.isSome toldV_row (by omega)) (rfl) (by omega)) rfl rfl rfl ?_
              refine G.any rfl rfl (.vfield fa48_0 (hl.isSome toldV_row (by omega)) rfl) rfl rfl rfl ?_
              refine G.any rfl rfl (.vfield fa39_0 (hl.isSome toldV_row (by omega)) rfl) rfl rfl rfl ?_
              refine G.any rfl rfl (.vfield fa27_2 (hl.isSome toldV_row (by omega)) rfl) rfl rfl rfl ?_
              refine G.rd rfl rfl (.vcell (j := i) (o := 2) (v := .int .i64 ((l.getD i Bsp.noTold).a.e.c)) na3 rfl (hl.le L54) toldV_row (getS l Bsp.noTold (by first | omega | (simp only [List.length_cons, List.length_nil]; omega))) rfl) rfl rfl rfl ?_
              refine G.any rfl rfl (.move rfl) rfl rfl rfl ?_
              refine G.any rfl rfl (.move rfl) rfl rfl rfl ?_
              refine G.any rfl rfl (.idxS (i) Tryz.underlying23 sz48 rfl rfl (hl.isSome toldV_row (by omega)) (rfl) (by omega)) rfl rfl rfl ?_
              refine G.any rfl rfl (.vfield fa48_0 (hl.isSome toldV_row (by omega)) rfl) rfl rfl rfl ?_
              refine G.any rfl rfl (.vfield fa39_0 (hl.isSome toldV_row (by omega)) rfl) rfl rfl rfl ?_
              refine G.any rfl rfl (.vfield fa27_0 (hl.isSome toldV_row (by omega)) rfl) rfl rfl rfl ?_
              refine G.rd rfl rfl (.vcell (j := i) (o := 0) (v := .int .i64 ((l.getD i Bsp.noTold).a.e.f)) na3 rfl (hl.le L54) toldV_row (getS l Bsp.noTold (by first | omega | (simp only [List.length_cons, List.length_nil]; omega))) rfl) rfl rfl rfl ?_
              refine G.nil ?_
              refine GT.br ?_ ?_
              · refine GT.last ?_
                have f55 := (((f24.le (h13_29.trans (h13_30.trans (d15.trans (h15_19_1.trans h15_15_1))))).ch h15_20_1 (fun q hqq hF => by cases hqq; have := f24.lt hF; have := h13_29.size; have := h13_30.size; have := d15.size; have := hg15_19_1; omega)).le d16)
                refine G.ef rfl rfl rfl rfl rfl ?_
                refine Ef.call go19 rfl rfl (get_rbook ((l.getD i Bsp.noTold).a.e.c) ((l.getD i Bsp.noTold).a.e.f) (by have := rtakeS_len r (l.getD i Bsp.noTold).a (l.getD i Bsp.noTold).h; omega) f55) ?_
                rintro _ w16_15_2 ⟨rfl, h16_15_2⟩
                refine ⟨_, rfl, ?_⟩
                refine ⟨fun _ => h16_15_2, ?_⟩
                have L56 := L54.trans h16_15_2
                refine G.any rfl rfl (.move rfl) rfl rfl rfl ?_
                refine G.any rfl rfl (.extract (v := .agg (adV ((rget (rtakeS r ((l.getD i Bsp.noTold).a) ((l.getD i Bsp.noTold).h)).all (Bsp.Sd.mk ((l.getD i Bsp.noTold).a.e.c) ((l.getD i Bsp.noTold).a.e.f))).getD noAd)).toArray) rfl rfl) rfl rfl rfl ?_
                refine G.any rfl rfl (.extract (v := .bool ((rget (rtakeS r ((l.getD i Bsp.noTold).a) ((l.getD i Bsp.noTold).h)).all (Bsp.Sd.mk ((l.getD i Bsp.noTold).a.e.c) ((l.getD i Bsp.noTold).a.e.f))).isSome)) rfl rfl) rfl rfl rfl ?_
                refine G.ef rfl rfl rfl rfl rfl ?_
                refine Ef.allocA z39 ?_
                intro g16_19_2 w16_19_2 hg16_19_2 b16_19_2 h16_19_2
                refine ⟨fun _ => h16_19_2, ?_⟩
                have L57 := L56.trans h16_19_2
                have b16_19_2 : Blk w16_19_2 g16_19_2 39 (adV noAd).toArray := b16_19_2
                refine G.ef0 rfl rfl rfl rfl ?_
                refine Ef.storeAll sz39 (by rfl) rfl rfl b16_19_2 (by simp only [List.size_toArray, adV_row.len]) (adV_row.one ((rget (rtakeS r ((l.getD i Bsp.noTold).a) ((l.getD i Bsp.noTold).h)).all (Bsp.Sd.mk ((l.getD i Bsp.noTold).a.e.c) ((l.getD i Bsp.noTold).a.e.f))).getD noAd)) ?_
                intro w16_20_2 b16_20_2 h16_20_2
                refine ⟨fun h => absurd h (ne_true_of_eq_false (by kernel_rfl)), ?_⟩
                have b16_20_2 : Blk w16_20_2 g16_19_2 39 (adV ((rget (rtakeS r ((l.getD i Bsp.noTold).a) ((l.getD i Bsp.noTold).h)).all (Bsp.Sd.mk ((l.getD i Bsp.noTold).a.e.c) ((l.getD i Bsp.noTold).a.e.f))).getD noAd)).toArray := b16_20_2
                have L58 : Le w w16_20_2 := L57.then_ h16_20_2 (fun q hq => by cases hq; exact Nat.le_trans L56.size hg16_19_2)
                refine G.any rfl rfl (.assign rfl) rfl rfl rfl ?_
                refine G.nil ?_
                refine E.thenN ?_
                refine WC.seq ?_
                refine WC.region ?_
                have f59 := ((b15_20_1.le (d16.trans (h16_15_2.trans h16_19_2))).ch h16_20_2 (fun h => (show g16_19_2 ≠ g15_19_1 from by have := b15_20_1.lt; have := d16.size; have := h16_15_2.size; omega) (Option.some.inj h)))
                refine W.rd (.loadAll ag39 (by rfl) rfl f59) rfl rfl rfl ?_
                refine W.rd (.loadAll ag39 (by rfl) rfl b16_20_2) rfl rfl rfl ?_
                refine W.any (.neA eg39 rfl rfl (eqv_ad (d := 9996) _ _)) rfl rfl rfl ?_
                refine W.any (.dec (.move rfl) (congrArg not (decide_eq_true (by rw [hR2.nw])))) rfl rfl rfl ?_
                refine W.rdg (Any.rd (.move rfl) _) rfl rfl rfl (rfl) rfl rfl ?_
                refine W.rdg (Any.rd (.move rfl) _) rfl rfl rfl (rfl) rfl rfl ?_
                refine W.rdg (Any.rd (.dec (.bneq Tryz.underlying4 rfl rfl) (h17)) _) rfl rfl rfl (rfl) rfl rfl ?_
                refine W.any (.pickF rfl rfl rfl) rfl rfl rfl ?_
                refine W.nil ?_
                refine E.thenN ?_
                refine WC.condF rfl ?_
                refine WC.skip ?_
                refine E.blkN ?_
                refine E.thenN ?_
                refine WC.region ?_
                refine W.any (.move rfl) rfl rfl rfl ?_
                refine W.any (.add rfl rfl (by omega)) rfl rfl rfl ?_
                refine W.any (.assign rfl) rfl rfl rfl ?_
                refine W.nil ?_
                have f60 := ((((f50.le h15_15_1).ch h15_20_1 (fun q hqq hF => by cases hqq; have := zq22.lt hF; have := h13_27.size; have := h13_29.size; have := h13_30.size; have := d15.size; have := hg15_19_1; omega)).le (d16.trans (h16_15_2.trans h16_19_2))).ch h16_20_2 (fun q hqq hF => by cases hqq; have := f50.lt hF; have := h15_15_1.size; have := h15_20_1.size; have := d16.size; have := h16_15_2.size; have := hg16_19_2; omega))
                have f61 := ((f55.le (h16_15_2.trans h16_19_2)).ch h16_20_2 (fun q hqq hF => by cases hqq; have := f55.lt hF; have := h16_15_2.size; have := hg16_19_2; omega))
                refine E.again (i + 1, F13_11, F13_23, (takeS s (l.getD i Bsp.noTold).a (l.getD i Bsp.noTold).h), (rtakeS r (l.getD i Bsp.noTold).a (l.getD i Bsp.noTold).h)) (.cons rfl (.cons rfl (.cons rfl (.cons rfl (.cons rfl (.nil _)))))) ?_ ?_
                · exact ⟨by omega, hR2, by rw [takeS_keys]; exact hsk, by have := rtakeS_len r (l.getD i Bsp.noTold).a (l.getD i Bsp.noTold).h; omega, L58, by have := zl0; have := d13.size; have := h13_11.size; have := h13_23.size; have := h13_27.size; have := h13_29.size; have := h13_30.size; have := d15.size; have := h15_19_1.size; have := h15_15_1.size; have := h15_20_1.size; have := d16.size; have := h16_15_2.size; have := h16_19_2.size; have := h16_20_2.size; omega, f60, f61, zq22g⟩
                · first | omega | (simp only []; omega)
              · refine GT.last ?_
                refine G.ef rfl rfl rfl rfl rfl ?_
                refine Ef.allocA z39 ?_
                intro g16_19_3 w16_19_3 hg16_19_3 b16_19_3 h16_19_3
                refine ⟨fun _ => h16_19_3, ?_⟩
                have L62 := L54.trans h16_19_3
                have b16_19_3 : Blk w16_19_3 g16_19_3 39 (adV noAd).toArray := b16_19_3
                have f63 := (((f24.le (h13_29.trans (h13_30.trans (d15.trans (h15_19_1.trans h15_15_1))))).ch h15_20_1 (fun q hqq hF => by cases hqq; have := f24.lt hF; have := h13_29.size; have := h13_30.size; have := d15.size; have := hg15_19_1; omega)).le (d16.trans h16_19_3))
                refine G.ef rfl rfl rfl rfl rfl ?_
                refine Ef.call go19 rfl rfl (get_rbook ((l.getD i Bsp.noTold).a.e.c) ((l.getD i Bsp.noTold).a.e.f) (by have := rtakeS_len r (l.getD i Bsp.noTold).a (l.getD i Bsp.noTold).h; omega) f63) ?_
                rintro _ w16_15_3 ⟨rfl, h16_15_3⟩
                refine ⟨_, rfl, ?_⟩
                refine ⟨fun _ => h16_15_3, ?_⟩
                have L64 := L62.trans h16_15_3
                refine G.any rfl rfl (.move rfl) rfl rfl rfl ?_
                refine G.any rfl rfl (.extract (v := .agg (adV ((rget (rtakeS r ((l.getD i Bsp.noTold).a) ((l.getD i Bsp.noTold).h)).all (Bsp.Sd.mk ((l.getD i Bsp.noTold).a.e.c) ((l.getD i Bsp.noTold).a.e.f))).getD noAd)).toArray) rfl rfl) rfl rfl rfl ?_
                refine G.any rfl rfl (.extract (v := .bool ((rget (rtakeS r ((l.getD i Bsp.noTold).a) ((l.getD i Bsp.noTold).h)).all (Bsp.Sd.mk ((l.getD i Bsp.noTold).a.e.c) ((l.getD i Bsp.noTold).a.e.f))).isSome)) rfl rfl) rfl rfl rfl ?_
                have f65 := (b16_19_3.le h16_15_3)
                refine G.ef0 rfl rfl rfl rfl ?_
                refine Ef.storeAll sz39 (by rfl) rfl rfl f65 (by simp only [List.size_toArray, adV_row.len]) (adV_row.one ((rget (rtakeS r ((l.getD i Bsp.noTold).a) ((l.getD i Bsp.noTold).h)).all (Bsp.Sd.mk ((l.getD i Bsp.noTold).a.e.c) ((l.getD i Bsp.noTold).a.e.f))).getD noAd)) ?_
                intro w16_20_3 b16_20_3 h16_20_3
                refine ⟨fun h => absurd h (ne_true_of_eq_false (by kernel_rfl)), ?_⟩
                have b16_20_3 : Blk w16_20_3 g16_19_3 39 (adV ((rget (rtakeS r ((l.getD i Bsp.noTold).a) ((l.getD i Bsp.noTold).h)).all (Bsp.Sd.mk ((l.getD i Bsp.noTold).a.e.c) ((l.getD i Bsp.noTold).a.e.f))).getD noAd)).toArray := b16_20_3
                have L66 : Le w w16_20_3 := L64.then_ h16_20_3 (fun q hq => by cases hq; exact Nat.le_trans L54.size hg16_19_3)
                refine G.any rfl rfl (.assign rfl) rfl rfl rfl ?_
                refine G.nil ?_
                refine E.thenN ?_
                refine WC.seq ?_
                refine WC.region ?_
                have f67 := ((b15_20_1.le (d16.trans (h16_19_3.trans h16_15_3))).ch h16_20_3 (fun h => (show g16_19_3 ≠ g15_19_1 from by have := b15_20_1.lt; have := d16.size; omega) (Option.some.inj h)))
                refine W.rd (.loadAll ag39 (by rfl) rfl f67) rfl rfl rfl ?_
                refine W.rd (.loadAll ag39 (by rfl) rfl b16_20_3) rfl rfl rfl ?_
                refine W.any (.neA eg39 rfl rfl (eqv_ad (d := 9996) _ _)) rfl rfl rfl ?_
                refine W.any (.dec (.move rfl) (congrArg not (decide_eq_true (by rw [hR2.nw])))) rfl rfl rfl ?_
                refine W.rdg (Any.rd (.move rfl) _) rfl rfl rfl (rfl) rfl rfl ?_
                refine W.rdg (Any.rd (.move rfl) _) rfl rfl rfl (rfl) rfl rfl ?_
                refine W.rdg (Any.rd (.dec (.bneq Tryz.underlying4 rfl rfl) (h17)) _) rfl rfl rfl (rfl) rfl rfl ?_
                refine W.any (.pickF rfl rfl rfl) rfl rfl rfl ?_
                refine W.nil ?_
                refine E.thenN ?_
                refine WC.condF rfl ?_
                refine WC.skip ?_
                refine E.blkN ?_
                refine E.thenN ?_
                refine WC.region ?_
                refine W.any (.move rfl) rfl rfl rfl ?_
                refine W.any (.add rfl rfl (by omega)) rfl rfl rfl ?_
                refine W.any (.assign rfl) rfl rfl rfl ?_
                refine W.nil ?_
                have f68 := ((((f50.le h15_15_1).ch h15_20_1 (fun q hqq hF => by cases hqq; have := zq22.lt hF; have := h13_27.size; have := h13_29.size; have := h13_30.size; have := d15.size; have := hg15_19_1; omega)).le (d16.trans (h16_19_3.trans h16_15_3))).ch h16_20_3 (fun q hqq hF => by cases hqq; have := f50.lt hF; have := h15_15_1.size; have := h15_20_1.size; have := d16.size; have := hg16_19_3; omega))
                have f69 := ((f63.le h16_15_3).ch h16_20_3 (fun q hqq hF => by cases hqq; have := f24.lt hF; have := h13_29.size; have := h13_30.size; have := d15.size; have := h15_19_1.size; have := h15_15_1.size; have := h15_20_1.size; have := d16.size; have := hg16_19_3; omega))
                refine E.again (i + 1, F13_11, F13_23, (takeS s (l.getD i Bsp.noTold).a (l.getD i Bsp.noTold).h), (rtakeS r (l.getD i Bsp.noTold).a (l.getD i Bsp.noTold).h)) (.cons rfl (.cons rfl (.cons rfl (.cons rfl (.cons rfl (.nil _)))))) ?_ ?_
                · exact ⟨by omega, hR2, by rw [takeS_keys]; exact hsk, by have := rtakeS_len r (l.getD i Bsp.noTold).a (l.getD i Bsp.noTold).h; omega, L66, by have := zl0; have := d13.size; have := h13_11.size; have := h13_23.size; have := h13_27.size; have := h13_29.size; have := h13_30.size; have := d15.size; have := h15_19_1.size; have := h15_15_1.size; have := h15_20_1.size; have := d16.size; have := h16_19_3.size; have := h16_15_3.size; have := h16_20_3.size; omega, f68, f69, zq22g⟩
                · first | omega | (simp only []; omega)
          · refine WC.condN rfl (decide_eq_false c3) ?_
            have hel := edges_le s
            refine WC.exit ?_
            refine E.thenX ?_
            refine E.thenX ?_
            refine E.blkH ?_
            refine E.thenN ?_
            refine WC.seq ?_
            refine WC.region ?_
            refine W.any (.move rfl) rfl rfl rfl ?_
            refine W.any (.move rfl) rfl rfl rfl ?_
            refine W.rdg (Any.rd (.move rfl) _) rfl rfl rfl (rfl) rfl rfl ?_
            refine W.efg rfl rfl rfl (rfl) rfl rfl ?_
            refine Ef.call go21 rfl rfl (edges_book (w := wl0) (s := s) f0_0) ?_
            rintro _ w19_3 ⟨A19_3, c19_3, rfl, o19_3, h19_3⟩
            refine ⟨_, rfl, ?_⟩
            have L70 := Ll0.trans h19_3
            refine W.rdg (Any.rd (.move rfl) _) rfl rfl rfl (rfl) rfl rfl ?_
            have f71 := (f0_1.le h19_3)
            refine W.efg rfl rfl rfl (rfl) rfl rfl ?_
            refine Ef.call go22 rfl rfl (edges_rbook (w := w19_3) (s := r) (by omega) f71) ?_
            rintro _ w19_5 ⟨A19_5, c19_5, rfl, o19_5, h19_5⟩
            refine ⟨_, rfl, ?_⟩
            have L72 := L70.trans h19_5
            have f73 := (o19_3.le h19_5)
            refine W.efg rfl rfl rfl (rfl) rfl rfl ?_
            refine Ef.call go20 rfl rfl (sameedges_ok w19_5 f73.vec o19_5.vec (by omega)) ?_
            rintro _ w19_6 ⟨rfl, h19_6⟩
            refine ⟨_, rfl, ?_⟩
            have L74 := L72.trans h19_6
            refine W.any (.pickT rfl rfl rfl) rfl rfl rfl ?_
            refine W.any (.assign rfl) rfl rfl rfl ?_
            refine W.nil ?_
            refine E.thenN ?_
            refine WC.ret ?_
            refine E.retG1 rfl rfl ?_
            exact ⟨congrArg (fun b => Ending.returned (Value.bool b)) (decide_eq_true (redges_same hR)), L74⟩
      · refine W.ef rfl rfl rfl ?_
        refine Ef.call go11 rfl rfl (bnew_none w4_26 (hK.le L12) (by omega)) ?_
        rintro _ w6_1_1 ⟨rfl, h6_1_1⟩
        refine ⟨_, rfl, ?_⟩
        have L75 := L12.trans h6_1_1
        refine W.any (.assign rfl) rfl rfl rfl ?_
        refine W.nil ?_
        refine E.thenN ?_
        refine WC.seq ?_
        refine WC.region ?_
        refine W.any (.move rfl) rfl rfl rfl ?_
        refine W.ef rfl rfl rfl ?_
        refine Ef.call go12 rfl rfl (rnew_none w6_1_1 (hK.le L75) (by omega)) ?_
        rintro _ w7_1_1 ⟨rfl, h7_1_1⟩
        refine ⟨_, rfl, ?_⟩
        have L76 := L75.trans h7_1_1
        refine W.any (.assign rfl) rfl rfl rfl ?_
        refine W.nil ?_
        refine E.thenN ?_
        refine WC.seq ?_
        refine WC.seq ?_
        refine WC.region ?_
        refine W.any (.move rfl) rfl rfl rfl ?_
        refine W.any (.dec (.isNilP (by kernel_rfl) rfl) rfl) rfl rfl rfl ?_
        refine W.any (.move rfl) rfl rfl rfl ?_
        refine W.skip rfl rfl rfl (rfl) rfl rfl ?_
        refine W.skip rfl rfl rfl (rfl) rfl rfl ?_
        refine W.any (.pickT rfl rfl rfl) rfl rfl rfl ?_
        refine W.nil ?_
        refine E.thenN ?_
        refine WC.condT rfl ?_
        refine WC.seq ?_
        refine WC.region ?_
        refine W.any (.move rfl) rfl rfl rfl ?_
        refine W.any (.move rfl) rfl rfl rfl ?_
        refine W.rdg (Any.rd (.move rfl) _) rfl rfl rfl (rfl) rfl rfl ?_
        refine W.rdg (Any.rd (.dec (.isNilP (by kernel_rfl) rfl) rfl) _) rfl rfl rfl (rfl) rfl rfl ?_
        refine W.any (.pickT rfl rfl rfl) rfl rfl rfl ?_
        refine W.any (.move rfl) rfl rfl rfl ?_
        refine W.rdg (Any.rd (.move rfl) _) rfl rfl rfl (rfl) rfl rfl ?_
        refine W.rdg (Any.rd (.dec (.isNilP (by kernel_rfl) rfl) rfl) _) rfl rfl rfl (rfl) rfl rfl ?_
        refine W.any (.pickT rfl rfl rfl) rfl rfl rfl ?_
        refine W.any (.assign rfl) rfl rfl rfl ?_
        refine W.nil ?_
        refine E.thenN ?_
        refine WC.ret ?_
        refine E.thenR ?_
        refine E.retG1 rfl rfl ?_
        exact ⟨rfl, L76⟩
end Go.Proofs.YtbpfhenbcgjpcaaGreat

