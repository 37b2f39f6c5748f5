/- GossipTrue: for every input the law answers true and leaves its arguments as they were. -/
import Derived.Test.YtbpfhenbcgjpcaaGossipTrueL
import Derived.OrdersHeld
import Derived.WalkKit
import Derived.Deep.AppendSrc
import Derived.Deep.MidRow
import Derived.Laws.OwnMore
import Derived.WalkSpells
import Derived.Lib.ConvBytes
import Derived.Lib.AppendZerosOnto
import Derived.Laws.StructEq
import Derived.Maps.RangeRun
import Derived.Laws.Pointers
import Derived.Test.YtbpfhenbcgjpcaaProg
import Derived.KernelRfl
import Derived.Lib.Mul64
import Derived.Shelf.SlSortCmp.NoneTotal
import Derived.Lib.QuietBelow
import Derived.Ground.SlsfProg
import Derived.ProofKit
import Derived.OpenShut
import Derived.ShutString
import Derived.ChangeOld
import Derived.Below
import Derived.Deep.Slices
namespace Go.Sx
open Go Go.ChangeShapes Go.WideShapes Go.Deep
set_option linter.unusedVariables false
variable {H : Type} {enc : TypeId × Value → H} {P : Program} {w : World} {base : Nat} {spare : Nat → Bool} {held : Bool}

theorem flatten_get {α : Type} {k : Nat} {f : α → List Value} : ∀ (qs : List α), (∀ q ∈ qs, (f q).length = k) → ∀ (j : Nat) (u : Value), ((qs.map f).flatten)[j]? = some u → 0 < k ∧ ∃ q, qs[j / k]? = some q ∧ (f q)[j % k]? = some u
  | [], _, j, u, h => by simp at h
  | q :: qs, hk, j, u, h => by
    have hq := hk q (by simp)
    simp only [List.map_cons, List.flatten_cons] at h
    by_cases hj : j < k
    · rw [List.getElem?_append_left (by omega)] at h
      exact ⟨by omega, q, by simp [Nat.div_eq_of_lt hj], by rw [Nat.mod_eq_of_lt hj]; exact h⟩
    · rw [List.getElem?_append_right (by omega), hq] at h
      obtain ⟨hp, r, h1, h2⟩ := flatten_get qs (fun q hq => hk q (by simp [hq])) (j - k) u h
      have hd : j / k = (j - k) / k + 1 := by rw [Nat.div_eq_sub_div hp (by omega)]
      have hm : j % k = (j - k) % k := Nat.mod_eq_sub_mod (by omega)
      exact ⟨hp, r, by rw [hd]; simpa using h1, by rw [hm]; exact h2⟩
theorem flatten_length {α : Type} {k : Nat} {f : α → List Value} : ∀ (qs : List α), (∀ q ∈ qs, (f q).length = k) → ((qs.map f).flatten).length = qs.length * k
  | [], _ => by simp
  | q :: qs, hk => by
    have := flatten_length qs (fun q hq => hk q (by simp [hq]))
    simp only [List.map_cons, List.flatten_cons, List.length_append, List.length_cons, this, hk q (by simp)]
    rw [Nat.add_mul, Nat.one_mul, Nat.add_comm]

/-- A slice of rows opened: what is known of one row is known of all. -/
theorem open_rows {α : Type} [Inhabited α] {f : α → List Value} {good : α → Prop} {t e : TypeId} {k : Nat} {r : Reach} {b0 : Nat} {v : Value} {d : DataW H} {ps : List MemPlace}
    (ht : P.underlying t = some (.slice e)) (hc : P.cellsOf e = k) (hp : ∀ fuel cs x, DataW.trod enc P w base spare held fuel e cs = some x → ∃ q, cs = f q ∧ good q)
    (hval : Value.okWide P w r b0 t v) (hd : DataW.Trod enc P w base spare held t v d ps) :
    ∃ (A : Option Addr) (n c : Nat) (qs : List α), v = .slice A n c ∧ qs.length = n ∧ (∀ q ∈ qs, good q ∧ (f q).length = k) ∧ Sl w k A n (qs.map f).flatten ∧ n ≤ c ∧ c ≤ maxLen := by
  obtain ⟨A, n, c, rfl⟩ := okWide_slice ht hval
  obtain ⟨fuel, hf⟩ := hd
  rcases open_slice ht hf with ⟨hcs, _⟩ | ⟨a, len, cap, m, n', D, Pl, hcs, hb, hl, hm, hmm, hx, hi⟩
  · simp [Value.cells] at hcs
    obtain ⟨rfl, rfl, rfl⟩ := hcs
    exact ⟨none, 0, 0, [], rfl, rfl, fun q hq => by simp at hq, ⟨by simp, fun j u h => by simp at h⟩, Nat.le_refl _, Nat.zero_le _⟩
  · simp [Value.cells] at hcs
    obtain ⟨rfl, rfl, rfl⟩ := hcs
    have hlm : n ≤ m := by rw [hmm]; split <;> omega
    obtain ⟨Q, hQ⟩ := choose_lt (α := α) (p := fun i q => w.cells? base (a.add (i * k)) k = some (f q) ∧ good q) (n := m) (fun i hi' => by
      obtain ⟨cs', h1, h2⟩ := hi i hi'
      obtain ⟨q, rfl, hg⟩ := hp _ _ _ h2
      rw [hc] at h1
      exact ⟨q, h1, hg⟩)
    have hall : ∀ q ∈ (List.range n).map Q, good q ∧ (f q).length = k := by
      intro q hq
      obtain ⟨i, hi', rfl⟩ := List.mem_map.1 hq
      have hin : i < n := List.mem_range.1 hi'
      obtain ⟨h1, h2⟩ := hQ i (by omega)
      exact ⟨h2, (World.cells?_some h1).2.1⟩
    refine ⟨some a, n, c, (List.range n).map Q, rfl, by simp, hall, ⟨?_, ?_⟩, hl, hm⟩
    · rw [flatten_length _ (fun q hq => (hall q hq).2)]; simp
    · intro j u hu
      obtain ⟨hk0, q, h1, h2⟩ := flatten_get (k := k) _ (fun q hq => (hall q hq).2) j u hu
      have hjn : j / k < n := by
        have := (List.getElem?_eq_some_iff.1 h1).1
        simpa using this
      rw [List.getElem?_map, List.getElem?_range hjn] at h1
      simp at h1
      subst h1
      obtain ⟨g1, _⟩ := hQ (j / k) (by omega)
      obtain ⟨_, hlen, hcell⟩ := World.cells?_some g1
      refine ⟨a, rfl, ?_⟩
      have := hcell (j % k) (Nat.mod_lt _ hk0)
      rw [h2, add_add, show j / k * k + j % k = j by rw [Nat.mul_comm]; exact Nat.div_add_mod j k] at this
      exact this

theorem flat1 {α β : Type} (f : α → β) (l : List α) : (l.map fun q => [f q]).flatten = l.map f := by
  induction l with
  | nil => rfl
  | cons a l ih => simp [ih]
end Go.Sx

namespace Go.Sx
open Go Go.ChangeShapes Go.WideShapes Go.Deep
set_option linter.unusedVariables false
variable {H : Type} {enc : TypeId × Value → H} {P : Program} {w : World} {base : Nat} {spare : Nat → Bool} {held : Bool}
theorem read_u64 {e : TypeId} (he : P.underlying e = some (.int .u64)) : ∀ fuel cs x, DataW.trod enc P w base spare held fuel e cs = some x → ∃ q : Nat, cs = [.int .u64 ((q : Nat) : Int)] ∧ q < 18446744073709551616 := by
  intro fuel cs x h
  obtain ⟨n, rfl, _, hw⟩ := DataW.trod_int he h
  have := bounds_u64 hw
  exact ⟨n.toNat, by rw [show ((n.toNat : Nat) : Int) = n by omega], by omega⟩
theorem open_us {t e : TypeId} {r : Reach} {b0 : Nat} {v : Value} {d : DataW H} {ps : List MemPlace} (ht : P.underlying t = some (.slice e)) (he : P.underlying e = some (.int .u64)) (hc : P.cellsOf e = 1)
    (hval : Value.okWide P w r b0 t v) (hd : DataW.Trod enc P w base spare held t v d ps) : ∃ A n c, ∃ xs : List Nat, v = .slice A n c ∧ (Sl w 1 A n (xs.map fun q => .int .u64 ((q : Nat) : Int)) ∧ ∀ q ∈ xs, q < 18446744073709551616) ∧ n ≤ c ∧ c ≤ 9223372036854775807 := by
  obtain ⟨A, n, c, qs, rfl, h1, h2, h3, h4, h5⟩ := open_rows (α := Nat) (f := fun q => [.int .u64 ((q : Nat) : Int)]) ht hc (read_u64 he) hval hd
  rw [flat1] at h3
  exact ⟨A, n, c, qs, rfl, ⟨h3, fun q hq => (h2 q hq).1⟩, h4, by unfold maxLen at h5; omega⟩
end Go.Sx

namespace Go.Sx
open Go Go.ChangeShapes Go.WideShapes Go.Deep
set_option linter.unusedVariables false
set_option linter.unusedSimpArgs false
variable {H : Type} {enc : TypeId × Value → H} {P : Program} {w : World} {base : Nat} {spare : Nat → Bool} {held : Bool}
def I64b (n : Int) : Prop := -9223372036854775808 ≤ n ∧ n ≤ 9223372036854775807
theorem cut1 {α : Type} (cs : List α) (o s : Nat) : cs.drop o = (cs.drop o).take s ++ cs.drop (o + s) := by
  rw [← List.drop_drop]
  exact (List.take_append_drop s (cs.drop o)).symm
theorem cut0 {α : Type} (cs : List α) : cs = cs.drop 0 := rfl
theorem cutN {α : Type} {cs : List α} {n : Nat} (h : cs.length = n) : cs.drop n = [] := List.drop_eq_nil_of_le (by omega)
theorem trod_fields {t : TypeId} {fs : Array Field} {fuel : Nat} {cs : List Value} {x : DataW H × List MemPlace} (ht : P.underlying t = some (.struct fs)) (h : DataW.trod enc P w base spare held fuel t cs = some x) :
    cs.length = P.cellsOf t ∧ ∃ m, ∀ (i : Nat) (f : Field), fs[i]? = some f → ∃ y, DataW.trod enc P w base spare held m f.type ((cs.drop f.offset).take (P.cellsOf f.type)) = some y := by
  obtain ⟨xs, m, _, _, hl, hxl, hi⟩ := DataW.trod_struct ht h
  refine ⟨hl, m, fun i f hf => ?_⟩
  have hlt : i < xs.length := by rw [hxl]; exact (Array.getElem?_eq_some_iff.1 hf).1
  exact ⟨_, (hi i f hf).trans (List.getElem?_eq_getElem hlt)⟩
theorem read_i64 {e : TypeId} (he : P.underlying e = some (.int .i64)) : ∀ fuel cs x, DataW.trod enc P w base spare held fuel e cs = some x → ∃ q : Int, cs = [.int .i64 q] ∧ I64b q := by
  intro fuel cs x h
  obtain ⟨n, rfl, _, hw⟩ := DataW.trod_int he h
  exact ⟨n, rfl, bounds_i64 hw⟩
theorem read_bool {e : TypeId} (he : P.underlying e = some .bool) : ∀ fuel cs x, DataW.trod enc P w base spare held fuel e cs = some x → ∃ q : Bool, cs = [.bool q] ∧ True := by
  intro fuel cs x h
  obtain ⟨b, rfl, _⟩ := DataW.trod_bool he h
  exact ⟨b, rfl, trivial⟩
/-- A slice of any rows, as a vector. -/
theorem open_vec {α : Type} [Inhabited α] {f : α → List Value} {good : α → Prop} {t e : TypeId} {k : Nat} {r : Reach} {b0 : Nat} {v : Value} {d : DataW H} {ps : List MemPlace} (ht : P.underlying t = some (.slice e)) (hc : P.cellsOf e = k) (hp : ∀ fuel cs x, DataW.trod enc P w base spare held fuel e cs = some x → ∃ q, cs = f q ∧ good q)
    (hval : Value.okWide P w r b0 t v) (hd : DataW.Trod enc P w base spare held t v d ps) : ∃ A n c, ∃ xs : List α, v = .slice A n c ∧ (Vec w f k A n xs ∧ ∀ h ∈ xs, good h) ∧ n ≤ c ∧ c ≤ 9223372036854775807 := by
  obtain ⟨A, n, c, qs, rfl, h1, h2, h3, h4, h5⟩ := open_rows (α := α) (f := f) (good := good) ht hc hp hval hd
  exact ⟨A, n, c, qs, rfl, ⟨⟨h1, h3⟩, fun q hq => (h2 q hq).1⟩, h4, by unfold maxLen at h5; omega⟩
end Go.Sx

namespace Go.Proofs.Ytbpfhenbcgjpcaa
open Go Go.Sx Go.Osp Go.Gsp Go.Asp Go.ChangeShapes Go.WideShapes Go.Deep
set_option linter.unusedVariables false
set_option linter.unusedSimpArgs false
set_option maxRecDepth 20000
variable {H : Type} {enc : TypeId × Value → H} {w : World} {base : Nat} {spare : Nat → Bool} {held : Bool}
abbrev GPol := Pol
abbrev GEdge := Gsp.Edge
abbrev GSig := Asp.Sig
abbrev GAd := Asp.Ad
abbrev GTold := Bsp.Told
def toldV (t : Bsp.Told) : List Value := [.int .i64 t.a.e.f, .int .i64 t.a.e.t, .int .i64 t.a.e.c, .int .i64 t.a.e.r, .int .i64 t.a.e.pol.b, .int .i64 t.a.e.pol.p, .int .i64 t.a.e.pol.d, .int .i64 t.a.e.pol.l, .int .i64 t.a.e.pol.m, .int .i64 t.a.no, .bool t.a.gone, .int .u64 (t.a.sg.r : Nat), .int .u64 (t.a.sg.s : Nat), .int .i64 t.h]
theorem toldV_row : RowF toldV 14 := ⟨fun _ => rfl, fun x v hv => by simp [toldV] at hv; rcases hv with rfl | rfl | rfl | rfl | rfl | rfl | rfl | rfl | rfl | rfl | rfl | rfl | rfl | rfl <;> rfl, by decide⟩
theorem pv1_vec' {A : Option Addr} {n : Nat} {xs : List Nat} (h : Sl w 1 A n (xs.map fun q => .int .u64 ((q : Nat) : Int))) : Vec w pv1 1 A n xs := by
  refine Sl.vec (g1 := fun q : Nat => Value.int .u64 ((q : Nat) : Int)) h
def goodGPol (q : GPol) : Prop := I64b q.b ∧ I64b q.p ∧ I64b q.d ∧ I64b q.l ∧ I64b q.m
instance : Inhabited GPol := ⟨noPol⟩
theorem read_GPol : ∀ fuel cs x, DataW.trod enc Try.prog w base spare held fuel 32 cs = some x → ∃ q : GPol, cs = polV q ∧ goodGPol q := by
  intro fuel cs x h
  obtain ⟨hl, m, hi⟩ := trod_fields Try.underlying32 h
  rw [show Try.prog.cellsOf 32 = 5 by kernel_rfl] at hl
  obtain ⟨y0, k0⟩ := hi 0 _ rfl
  have k0 : DataW.trod enc Try.prog w base spare held m 3 ((cs.drop 0).take (Try.prog.cellsOf 3)) = some y0 := k0
  rw [show Try.prog.cellsOf 3 = 1 by kernel_rfl] at k0
  obtain ⟨q0, e0, g0⟩ := read_i64 Try.underlying3 _ _ _ k0
  obtain ⟨y1, k1⟩ := hi 1 _ rfl
  have k1 : DataW.trod enc Try.prog w base spare held m 3 ((cs.drop 1).take (Try.prog.cellsOf 3)) = some y1 := k1
  rw [show Try.prog.cellsOf 3 = 1 by kernel_rfl] at k1
  obtain ⟨q1, e1, g1⟩ := read_i64 Try.underlying3 _ _ _ k1
  obtain ⟨y2, k2⟩ := hi 2 _ rfl
  have k2 : DataW.trod enc Try.prog w base spare held m 3 ((cs.drop 2).take (Try.prog.cellsOf 3)) = some y2 := k2
  rw [show Try.prog.cellsOf 3 = 1 by kernel_rfl] at k2
  obtain ⟨q2, e2, g2⟩ := read_i64 Try.underlying3 _ _ _ k2
  obtain ⟨y3, k3⟩ := hi 3 _ rfl
  have k3 : DataW.trod enc Try.prog w base spare held m 3 ((cs.drop 3).take (Try.prog.cellsOf 3)) = some y3 := k3
  rw [show Try.prog.cellsOf 3 = 1 by kernel_rfl] at k3
  obtain ⟨q3, e3, g3⟩ := read_i64 Try.underlying3 _ _ _ k3
  obtain ⟨y4, k4⟩ := hi 4 _ rfl
  have k4 : DataW.trod enc Try.prog w base spare held m 3 ((cs.drop 4).take (Try.prog.cellsOf 3)) = some y4 := k4
  rw [show Try.prog.cellsOf 3 = 1 by kernel_rfl] at k4
  obtain ⟨q4, e4, g4⟩ := read_i64 Try.underlying3 _ _ _ k4
  have e := (cut0 cs).trans ((cut1 cs 0 1).trans (congrArg (List.take 1 (cs.drop 0) ++ ·) ((cut1 cs 1 1).trans (congrArg (List.take 1 (cs.drop 1) ++ ·) ((cut1 cs 2 1).trans (congrArg (List.take 1 (cs.drop 2) ++ ·) ((cut1 cs 3 1).trans (congrArg (List.take 1 (cs.drop 3) ++ ·) ((cut1 cs 4 1).trans (congrArg (List.take 1 (cs.drop 4) ++ ·) (cutN hl)))))))))))
  simp only [e0, e1, e2, e3, e4] at e
  exact ⟨⟨q0, q1, q2, q3, q4⟩, e, g0, g1, g2, g3, g4⟩
def goodGEdge (q : GEdge) : Prop := I64b q.f ∧ I64b q.t ∧ I64b q.c ∧ I64b q.r ∧ goodGPol q.pol
instance : Inhabited GEdge := ⟨noEdge⟩
theorem read_GEdge : ∀ fuel cs x, DataW.trod enc Try.prog w base spare held fuel 34 cs = some x → ∃ q : GEdge, cs = edgeV q ∧ goodGEdge q := by
  intro fuel cs x h
  obtain ⟨hl, m, hi⟩ := trod_fields Try.underlying34 h
  rw [show Try.prog.cellsOf 34 = 9 by kernel_rfl] at hl
  obtain ⟨y0, k0⟩ := hi 0 _ rfl
  have k0 : DataW.trod enc Try.prog w base spare held m 3 ((cs.drop 0).take (Try.prog.cellsOf 3)) = some y0 := k0
  rw [show Try.prog.cellsOf 3 = 1 by kernel_rfl] at k0
  obtain ⟨q0, e0, g0⟩ := read_i64 Try.underlying3 _ _ _ k0
  obtain ⟨y1, k1⟩ := hi 1 _ rfl
  have k1 : DataW.trod enc Try.prog w base spare held m 3 ((cs.drop 1).take (Try.prog.cellsOf 3)) = some y1 := k1
  rw [show Try.prog.cellsOf 3 = 1 by kernel_rfl] at k1
  obtain ⟨q1, e1, g1⟩ := read_i64 Try.underlying3 _ _ _ k1
  obtain ⟨y2, k2⟩ := hi 2 _ rfl
  have k2 : DataW.trod enc Try.prog w base spare held m 3 ((cs.drop 2).take (Try.prog.cellsOf 3)) = some y2 := k2
  rw [show Try.prog.cellsOf 3 = 1 by kernel_rfl] at k2
  obtain ⟨q2, e2, g2⟩ := read_i64 Try.underlying3 _ _ _ k2
  obtain ⟨y3, k3⟩ := hi 3 _ rfl
  have k3 : DataW.trod enc Try.prog w base spare held m 3 ((cs.drop 3).take (Try.prog.cellsOf 3)) = some y3 := k3
  rw [show Try.prog.cellsOf 3 = 1 by kernel_rfl] at k3
  obtain ⟨q3, e3, g3⟩ := read_i64 Try.underlying3 _ _ _ k3
  obtain ⟨y4, k4⟩ := hi 4 _ rfl
  have k4 : DataW.trod enc Try.prog w base spare held m 32 ((cs.drop 4).take (Try.prog.cellsOf 32)) = some y4 := k4
  rw [show Try.prog.cellsOf 32 = 5 by kernel_rfl] at k4
  obtain ⟨q4, e4, g4⟩ := read_GPol _ _ _ k4
  have e := (cut0 cs).trans ((cut1 cs 0 1).trans (congrArg (List.take 1 (cs.drop 0) ++ ·) ((cut1 cs 1 1).trans (congrArg (List.take 1 (cs.drop 1) ++ ·) ((cut1 cs 2 1).trans (congrArg (List.take 1 (cs.drop 2) ++ ·) ((cut1 cs 3 1).trans (congrArg (List.take 1 (cs.drop 3) ++ ·) ((cut1 cs 4 5).trans (congrArg (List.take 5 (cs.drop 4) ++ ·) (cutN hl)))))))))))
  simp only [e0, e1, e2, e3, e4] at e
  exact ⟨⟨q0, q1, q2, q3, q4⟩, e, g0, g1, g2, g3, g4⟩
def goodGSig (q : GSig) : Prop := q.r < 18446744073709551616 ∧ q.s < 18446744073709551616
instance : Inhabited GSig := ⟨noSig⟩
theorem read_GSig : ∀ fuel cs x, DataW.trod enc Try.prog w base spare held fuel 39 cs = some x → ∃ q : GSig, cs = sigV q ∧ goodGSig q := by
  intro fuel cs x h
  obtain ⟨hl, m, hi⟩ := trod_fields Try.underlying39 h
  rw [show Try.prog.cellsOf 39 = 2 by kernel_rfl] at hl
  obtain ⟨y0, k0⟩ := hi 0 _ rfl
  have k0 : DataW.trod enc Try.prog w base spare held m 36 ((cs.drop 0).take (Try.prog.cellsOf 36)) = some y0 := k0
  rw [show Try.prog.cellsOf 36 = 1 by kernel_rfl] at k0
  obtain ⟨q0, e0, g0⟩ := read_u64 Try.underlying36 _ _ _ k0
  obtain ⟨y1, k1⟩ := hi 1 _ rfl
  have k1 : DataW.trod enc Try.prog w base spare held m 37 ((cs.drop 1).take (Try.prog.cellsOf 37)) = some y1 := k1
  rw [show Try.prog.cellsOf 37 = 1 by kernel_rfl] at k1
  obtain ⟨q1, e1, g1⟩ := read_u64 Try.underlying37 _ _ _ k1
  have e := (cut0 cs).trans ((cut1 cs 0 1).trans (congrArg (List.take 1 (cs.drop 0) ++ ·) ((cut1 cs 1 1).trans (congrArg (List.take 1 (cs.drop 1) ++ ·) (cutN hl)))))
  simp only [e0, e1] at e
  exact ⟨⟨q0, q1⟩, e, g0, g1⟩
def goodGAd (q : GAd) : Prop := goodGEdge q.e ∧ I64b q.no ∧ True ∧ goodGSig q.sg
instance : Inhabited GAd := ⟨noAd⟩
theorem read_GAd : ∀ fuel cs x, DataW.trod enc Try.prog w base spare held fuel 41 cs = some x → ∃ q : GAd, cs = adV q ∧ goodGAd q := by
  intro fuel cs x h
  obtain ⟨hl, m, hi⟩ := trod_fields Try.underlying41 h
  rw [show Try.prog.cellsOf 41 = 13 by kernel_rfl] at hl
  obtain ⟨y0, k0⟩ := hi 0 _ rfl
  have k0 : DataW.trod enc Try.prog w base spare held m 34 ((cs.drop 0).take (Try.prog.cellsOf 34)) = some y0 := k0
  rw [show Try.prog.cellsOf 34 = 9 by kernel_rfl] at k0
  obtain ⟨q0, e0, g0⟩ := read_GEdge _ _ _ k0
  obtain ⟨y1, k1⟩ := hi 1 _ rfl
  have k1 : DataW.trod enc Try.prog w base spare held m 3 ((cs.drop 9).take (Try.prog.cellsOf 3)) = some y1 := k1
  rw [show Try.prog.cellsOf 3 = 1 by kernel_rfl] at k1
  obtain ⟨q1, e1, g1⟩ := read_i64 Try.underlying3 _ _ _ k1
  obtain ⟨y2, k2⟩ := hi 2 _ rfl
  have k2 : DataW.trod enc Try.prog w base spare held m 4 ((cs.drop 10).take (Try.prog.cellsOf 4)) = some y2 := k2
  rw [show Try.prog.cellsOf 4 = 1 by kernel_rfl] at k2
  obtain ⟨q2, e2, g2⟩ := read_bool Try.underlying4 _ _ _ k2
  obtain ⟨y3, k3⟩ := hi 3 _ rfl
  have k3 : DataW.trod enc Try.prog w base spare held m 39 ((cs.drop 11).take (Try.prog.cellsOf 39)) = some y3 := k3
  rw [show Try.prog.cellsOf 39 = 2 by kernel_rfl] at k3
  obtain ⟨q3, e3, g3⟩ := read_GSig _ _ _ k3
  have e := (cut0 cs).trans ((cut1 cs 0 9).trans (congrArg (List.take 9 (cs.drop 0) ++ ·) ((cut1 cs 9 1).trans (congrArg (List.take 1 (cs.drop 9) ++ ·) ((cut1 cs 10 1).trans (congrArg (List.take 1 (cs.drop 10) ++ ·) ((cut1 cs 11 2).trans (congrArg (List.take 2 (cs.drop 11) ++ ·) (cutN hl)))))))))
  simp only [e0, e1, e2, e3] at e
  exact ⟨⟨q0, q1, q2, q3⟩, e, g0, g1, g2, g3⟩
def goodGTold (q : GTold) : Prop := goodGAd q.a ∧ I64b q.h
instance : Inhabited GTold := ⟨Bsp.noTold⟩
theorem read_GTold : ∀ fuel cs x, DataW.trod enc Try.prog w base spare held fuel 43 cs = some x → ∃ q : GTold, cs = toldV q ∧ goodGTold q := by
  intro fuel cs x h
  obtain ⟨hl, m, hi⟩ := trod_fields Try.underlying43 h
  rw [show Try.prog.cellsOf 43 = 14 by kernel_rfl] at hl
  obtain ⟨y0, k0⟩ := hi 0 _ rfl
  have k0 : DataW.trod enc Try.prog w base spare held m 41 ((cs.drop 0).take (Try.prog.cellsOf 41)) = some y0 := k0
  rw [show Try.prog.cellsOf 41 = 13 by kernel_rfl] at k0
  obtain ⟨q0, e0, g0⟩ := read_GAd _ _ _ k0
  obtain ⟨y1, k1⟩ := hi 1 _ rfl
  have k1 : DataW.trod enc Try.prog w base spare held m 3 ((cs.drop 13).take (Try.prog.cellsOf 3)) = some y1 := k1
  rw [show Try.prog.cellsOf 3 = 1 by kernel_rfl] at k1
  obtain ⟨q1, e1, g1⟩ := read_i64 Try.underlying3 _ _ _ k1
  have e := (cut0 cs).trans ((cut1 cs 0 13).trans (congrArg (List.take 13 (cs.drop 0) ++ ·) ((cut1 cs 13 1).trans (congrArg (List.take 1 (cs.drop 13) ++ ·) (cutN hl)))))
  simp only [e0, e1] at e
  exact ⟨⟨q0, q1⟩, e, g0, g1⟩
theorem open_tolds {r : Reach} {b0 : Nat} {v : Value} {d : DataW H} {ps : List MemPlace} (hval : Value.okWide Try.prog w r b0 23 v) (hd : DataW.Trod enc Try.prog w base spare held 23 v d ps) : ∃ A n c, ∃ xs : List GTold, v = .slice A n c ∧ (Vec w toldV 14 A n xs ∧ ∀ h ∈ xs, goodGTold h) ∧ n ≤ c ∧ c ≤ 9223372036854775807 := open_vec Try.underlying23 (show Try.prog.cellsOf 43 = 14 by kernel_rfl) read_GTold hval hd
end Go.Proofs.Ytbpfhenbcgjpcaa

namespace Go.Proofs.Ytbpfhenbcgjpcaa
open Go Go.Sx Go.Hsp Go.Num Go.Osp Go.Gsp Go.Asp Go.Bsp
set_option maxRecDepth 20000
set_option linter.unusedSimpArgs false
set_option linter.unusedVariables false

theorem same_no {xs ys : List Asp.Ad} {k : Nat} (hl : xs.length = ys.length) (hk : k < xs.length) (h : ¬ xs.getD k noAd = ys.getD k noAd) : ¬ xs = ys := fun e => h (by rw [e])
theorem any_next {l : List Asp.Ad} {f : Asp.Ad → Bool} {k : Nat} (h : k < l.length) : (l.take (k + 1)).any f = ((l.take k).any f || f (l.getD k noAd)) := by
  rw [List.take_add_one, getS l noAd h, List.any_append]
  simp
theorem ver_r {p : Nat} {a : Asp.Ad} (h : verifyA p a = true) : a.sg.r < 18446744073709551616 := by
  unfold verifyA verifyB checksB at h
  simp only [Bool.and_eq_true] at h
  have h2 := ((right_iff _).1 h.2.1.1.2).2.1
  have h3 : M < 18446744073709551616 := by decide
  omega
theorem sameads_ok {A B : Option Addr} {n m c d : Nat} {xs ys : List Asp.Ad} (w : World) (hX : Vec w adV 13 A n xs) (hY : Vec w adV 13 B m ys) (hn : n ≤ 1000000) : Calls Try.prog 11 #[.slice A n c, .slice B m d] w fun r w' => r = .returned (.bool (decide (xs = ys))) ∧ Le w w' := by
  have hxl := hX.1
  have hyl := hY.1
  refine enter Try.func11 rfl rfl ?_
  have L0 := Le.refl w
  refine WC.seq ?_
  refine WC.region ?_
  refine W.any (.assign rfl) rfl rfl rfl ?_
  refine W.nil ?_
  refine E.thenN ?_
  refine WC.seq ?_
  refine WC.seq ?_
  refine WC.region ?_
  refine W.any (.move rfl) rfl rfl rfl ?_
  refine W.rd (.len Try.underlying27 rfl) rfl rfl rfl ?_
  refine W.any (.move rfl) rfl rfl rfl ?_
  refine W.rd (.len Try.underlying27 rfl) rfl rfl rfl ?_
  refine W.any (.neq rfl rfl) rfl rfl rfl ?_
  refine W.nil ?_
  refine E.thenN ?_
  by_cases c0 : ((n : Nat) : Int) ≠ ((m : Nat) : Int)
  · refine WC.condY rfl (decide_eq_true c0) ?_
    refine WC.seq ?_
    refine WC.region ?_
    refine W.any (.assign rfl) rfl rfl rfl ?_
    refine W.nil ?_
    refine E.thenN ?_
    refine WC.ret ?_
    refine E.thenR ?_
    refine E.retG1 rfl rfl ?_
    exact ⟨congrArg (fun b => Ending.returned (Value.bool b)) (eq_comm.1 (decide_eq_false (fun e => absurd (by rw [← hxl, ← hyl, e]) c0))), L0⟩
  · refine WC.condN rfl (decide_eq_false c0) ?_
    refine WC.skip ?_
    refine E.thenN ?_
    refine WC.seq ?_
    refine WC.seq ?_
    refine WC.region ?_
    refine W.any (.assign rfl) rfl rfl rfl ?_
    refine W.nil ?_
    refine E.thenN ?_
    refine WC.block ?_
    refine WC.loop (ι := Nat) (fun k => [(0, .slice A n c), (1, .slice B m d), (5, .int .i64 (((k : Nat) : Int)))]) (fun k wl0 => (k ≤ n) ∧ (∀ j, j < k → xs.getD j noAd = ys.getD j noAd) ∧ Le w wl0 ∧ w.heap.size ≤ wl0.heap.size) (fun k => n - k) 0 ?_ ?_ ?_
    · exact .cons rfl (.cons rfl (.cons rfl (.nil _)))
    · exact ⟨Nat.zero_le _, fun j hj => absurd hj (Nat.not_lt_zero _), L0, Nat.le_refl _⟩
    · rintro k wl0 ⟨hk, hz, Ll0, zl0⟩
      refine WC.seq ?_
      refine WC.seq ?_
      refine WC.region ?_
      refine W.any (.move rfl) rfl rfl rfl ?_
      refine W.any (.move rfl) rfl rfl rfl ?_
      refine W.rd (.len Try.underlying27 rfl) rfl rfl rfl ?_
      refine W.any (.lss rfl rfl) rfl rfl rfl ?_
      refine W.nil ?_
      refine E.thenN ?_
      by_cases c1 : ((k : Nat) : Int) < ((n : Nat) : Int)
      · refine WC.condY rfl (decide_eq_true c1) ?_
        refine WC.skip ?_
        refine E.thenN ?_
        refine WC.seq ?_
        refine WC.block ?_
        refine WC.seq ?_
        refine WC.draw [0, 1, 2, 3, 4, 5, 6, 7, 8] mixed (by kernel_rfl) ?_
        intro w6 d6
        have L1 := Ll0.trans d6
        refine G.any rfl rfl (.move rfl) rfl rfl rfl ?_
        refine G.any rfl rfl (.move rfl) rfl rfl rfl ?_
        refine G.any rfl rfl (.idxS (k) Try.underlying27 sz41 rfl rfl (hX.isSome adV_row (by omega)) (rfl) (by omega)) rfl rfl rfl ?_
        refine G.rd rfl rfl (.vload ag41 rfl (hX.le L1) adV_row (getS xs noAd (by first | omega | (simp only [List.length_cons, List.length_nil]; omega)))) rfl rfl rfl ?_
        refine G.any rfl rfl (.move rfl) rfl rfl rfl ?_
        refine G.any rfl rfl (.move rfl) rfl rfl rfl ?_
        refine G.any rfl rfl (.idxS (k) Try.underlying27 sz41 rfl rfl (hY.isSome adV_row (by omega)) (rfl) (by omega)) rfl rfl rfl ?_
        refine G.rd rfl rfl (.vload ag41 rfl (hY.le L1) adV_row (getS ys noAd (by first | omega | (simp only [List.length_cons, List.length_nil]; omega)))) rfl rfl rfl ?_
        refine G.any rfl rfl (.neA eg41 rfl rfl (eqv_ad (d := 9996) _ _)) rfl rfl rfl ?_
        refine G.nil ?_
        refine E.thenN ?_
        by_cases c2 : (xs.getD k noAd) = (ys.getD k noAd)
        · refine WC.condN rfl (congrArg not (decide_eq_true c2)) ?_
          refine WC.skip ?_
          refine E.blkN ?_
          refine E.thenN ?_
          refine WC.region ?_
          refine W.any (.move rfl) rfl rfl rfl ?_
          refine W.any (.add rfl rfl (by omega)) rfl rfl rfl ?_
          refine W.any (.assign rfl) rfl rfl rfl ?_
          refine W.nil ?_
          refine E.again (k + 1) (.cons rfl (.cons rfl (.cons rfl (.nil _)))) ?_ ?_
          · exact ⟨by omega, fun j hj => by rcases Nat.lt_or_ge j k with h | h; exact hz j h; rw [show j = k by omega]; first | exact Classical.not_not.1 c2 | (exact (by assumption)), L1, by have := zl0; have := d6.size; omega⟩
          · first | omega | (simp only []; omega)
        · refine WC.condY rfl (congrArg not (decide_eq_false c2)) ?_
          refine WC.seq ?_
          refine WC.region ?_
          refine W.any (.assign rfl) rfl rfl rfl ?_
          refine W.nil ?_
          refine E.thenN ?_
          refine WC.ret ?_
          refine E.blkR ?_
          refine E.thenR ?_
          refine E.thenR ?_
          refine E.blkR ?_
          refine E.thenR ?_
          refine E.retG1 rfl rfl ?_
          exact ⟨congrArg (fun b => Ending.returned (Value.bool b)) (eq_comm.1 (decide_eq_false (same_no (k := k) (by omega) (by omega) (by assumption)))), L1⟩
      · refine WC.condN rfl (decide_eq_false c1) ?_
        refine WC.exit ?_
        refine E.thenX ?_
        refine E.thenX ?_
        refine E.blkH ?_
        refine E.thenN ?_
        refine WC.seq ?_
        refine WC.region ?_
        refine W.any (.assign rfl) rfl rfl rfl ?_
        refine W.nil ?_
        refine E.thenN ?_
        refine WC.ret ?_
        refine E.retG1 rfl rfl ?_
        exact ⟨congrArg (fun b => Ending.returned (Value.bool b)) (eq_comm.1 (decide_eq_true (ext_getD (z := noAd) (by omega) (fun j hj => hz j (by omega))))), Ll0⟩

theorem GossipTrue_ok {Ak Al : Option Addr} {nk nl ck cl : Nat} {keys : List Nat} {l : List Bsp.Told} (w : World) (hK : Vec w pv1 1 Ak nk keys) (hkb : ∀ k ∈ keys, k < 18446744073709551616) (hl : Vec w toldV 14 Al nl l) (hlg : ∀ t ∈ l, goodGTold t) : Calls Try.prog 3 #[.slice Ak nk ck, .slice Al nl cl] w fun r w' => r = .returned (.bool true) ∧ Le w w' := by
  have hkl := hK.1
  have hll := hl.1
  refine enter Try.func3 rfl rfl ?_
  have L0 := Le.refl w
  refine WC.seq ?_
  refine WC.region ?_
  refine W.any (.assign rfl) rfl rfl rfl ?_
  refine W.nil ?_
  refine E.thenN ?_
  refine WC.seq ?_
  refine WC.region ?_
  refine W.ef rfl rfl rfl ?_
  refine Ef.call go7 rfl rfl (small35_ok w) ?_
  rintro _ w1_0 ⟨rfl, h1_0⟩
  refine ⟨_, rfl, ?_⟩
  have L1 := L0.trans h1_0
  refine W.any (.assign rfl) rfl rfl rfl ?_
  refine W.nil ?_
  refine E.thenN ?_
  refine WC.seq ?_
  refine WC.seq ?_
  refine WC.region ?_
  refine W.any (.move rfl) rfl rfl rfl ?_
  refine W.rd (.len Try.underlying23 rfl) rfl rfl rfl ?_
  refine W.any (.gtr rfl rfl) rfl rfl rfl ?_
  by_cases q2_3 : 20 < ((nl : Nat) : Int)
  · refine W.any (.dec (.move rfl) (decide_eq_true q2_3)) rfl rfl rfl ?_
    refine W.skip rfl rfl rfl (rfl) rfl rfl ?_
    refine W.skip rfl rfl rfl (rfl) rfl rfl ?_
    refine W.skip rfl rfl rfl (rfl) rfl rfl ?_
    refine W.any (.pickT rfl rfl rfl) rfl rfl rfl ?_
    refine W.nil ?_
    refine E.thenN ?_
    refine WC.condT rfl ?_
    refine WC.seq ?_
    refine WC.region ?_
    refine W.any (.move rfl) rfl rfl rfl ?_
    refine W.any (.assign rfl) rfl rfl rfl ?_
    refine W.nil ?_
    refine E.thenN ?_
    refine WC.ret ?_
    refine E.thenR ?_
    refine E.retG1 rfl rfl ?_
    exact ⟨rfl, L1⟩
  · refine W.any (.dec (.move rfl) (decide_eq_false q2_3)) rfl rfl rfl ?_
    refine W.rdg (Any.rd (.move rfl) _) rfl rfl rfl (rfl) rfl rfl ?_
    refine W.rdg (.len Try.underlying22 rfl) rfl rfl rfl (rfl) rfl rfl ?_
    refine W.rdg (Any.rd (.gtr rfl rfl) _) rfl rfl rfl (rfl) rfl rfl ?_
    refine W.any (.pickF rfl rfl rfl) rfl rfl rfl ?_
    refine W.nil ?_
    refine E.thenN ?_
    by_cases c0 : 14 < ((nk : Nat) : Int)
    · refine WC.condY rfl (decide_eq_true c0) ?_
      refine WC.seq ?_
      refine WC.region ?_
      refine W.any (.move rfl) rfl rfl rfl ?_
      refine W.any (.assign rfl) rfl rfl rfl ?_
      refine W.nil ?_
      refine E.thenN ?_
      refine WC.ret ?_
      refine E.thenR ?_
      refine E.retG1 rfl rfl ?_
      exact ⟨rfl, L1⟩
    · refine WC.condN rfl (decide_eq_false c0) ?_
      refine WC.skip ?_
      refine E.thenN ?_
      refine WC.seq ?_
      refine WC.region ?_
      refine W.any (.move rfl) rfl rfl rfl ?_
      by_cases qc4_1 : nk ≤ 12
      · refine W.ef rfl rfl rfl ?_
        refine Ef.call go8 rfl rfl (new_book w1_0 (hK.le L1) (by omega) (hkb)) ?_
        rintro _ w4_1 ⟨gp4_1, F4_1, rfl, p4_1, h4_1⟩
        refine ⟨_, rfl, ?_⟩
        have L2 := L1.trans h4_1
        refine W.any (.assign rfl) rfl rfl rfl ?_
        refine W.nil ?_
        refine E.thenN ?_
        refine WC.seq ?_
        refine WC.seq ?_
        refine WC.region ?_
        refine W.any (.move rfl) rfl rfl rfl ?_
        refine W.any (.dec (.isNilP (by kernel_rfl) rfl) rfl) rfl rfl rfl ?_
        refine W.nil ?_
        refine E.thenN ?_
        refine WC.condF rfl ?_
        refine WC.skip ?_
        refine E.thenN ?_
        refine WC.seq ?_
        refine WC.region ?_
        refine W.any (.assign rfl) rfl rfl rfl ?_
        refine W.nil ?_
        refine E.thenN ?_
        refine WC.seq ?_
        refine WC.seq ?_
        refine WC.region ?_
        refine W.any (.assign rfl) rfl rfl rfl ?_
        refine W.nil ?_
        refine E.thenN ?_
        refine WC.block ?_
        refine WC.loop (ι := Nat × (Nat → Prop) × BookS × (Option Addr) × Nat × (List Asp.Ad) × Nat) (fun ⟨i, F, s, Ao, co, tk, q⟩ => [(0, .slice Ak nk ck), (1, .slice Al nl cl), (5, .bool true), (6, .pointer (some ⟨gp4_1, 0, none⟩)), (7, .slice Ao q co), (8, .int .i64 (((i : Nat) : Int)))]) (fun ⟨i, F, s, Ao, co, tk, q⟩ wl0 => (i ≤ nl) ∧ (TI s tk) ∧ (s.keys = keys) ∧ (q ≤ i) ∧ Le w wl0 ∧ w4_1.heap.size ≤ wl0.heap.size ∧ BPool wl0 w1_0.heap.size gp4_1 F s ∧ OVec wl0 w4_1.heap.size 41 adV 13 Ao q co tk ∧ (∀ q, rowOf Ao co = some q → ¬ F q)) (fun ⟨i, F, s, Ao, co, tk, q⟩ => nl - i) (0, F4_1, (bookN keys), none, 0, [], 0) ?_ ?_ ?_
        · exact .cons rfl (.cons rfl (.cons rfl (.cons rfl (.cons rfl (.cons rfl (.nil _))))))
        · exact ⟨Nat.zero_le _, TI.nil keys, rfl, Nat.le_refl _, L2, Nat.le_refl _, p4_1, (OVec.nil w4_1 w4_1.heap.size 41 adV 13 none), (fun q hq => by simp [rowOf] at hq)⟩
        · rintro ⟨i, F, s, Ao, co, tk, q⟩ wl0 ⟨hi, hTI, hsk, htl, Ll0, zl0, f0_0, f0_1, po0_0⟩
          have lb0_4 : w4_1.heap.size ≤ wl0.heap.size := by omega
          refine WC.seq ?_
          refine WC.seq ?_
          refine WC.region ?_
          refine W.any (.move rfl) rfl rfl rfl ?_
          refine W.any (.move rfl) rfl rfl rfl ?_
          refine W.rd (.len Try.underlying23 rfl) rfl rfl rfl ?_
          refine W.any (.lss rfl rfl) rfl rfl rfl ?_
          refine W.nil ?_
          refine E.thenN ?_
          by_cases c2 : ((i : Nat) : Int) < ((nl : Nat) : Int)
          · refine WC.condY rfl (decide_eq_true c2) ?_
            refine WC.skip ?_
            refine E.thenN ?_
            refine WC.seq ?_
            refine WC.block ?_
            refine WC.seq ?_
            refine WC.region ?_
            refine W.any (.move rfl) rfl rfl rfl ?_
            refine W.ef rfl rfl rfl ?_
            refine Ef.call go9 rfl rfl (ads_book (s := s) f0_0) ?_
            rintro _ w11_1 ⟨A11_1, c11_1, rfl, o11_1, h11_1⟩
            refine ⟨_, rfl, ?_⟩
            have L3 := Ll0.trans h11_1
            refine W.any (.assign rfl) rfl rfl rfl ?_
            refine W.nil ?_
            refine E.thenN ?_
            refine WC.seq ?_
            refine WC.draw [0, 1, 2, 3, 4, 5, 6, 7, 8, 9, 10, 11, 12] mixed (by kernel_rfl) ?_
            intro w12 d12
            have L4 := L3.trans d12
            refine G.any rfl rfl (.move rfl) rfl rfl rfl ?_
            refine G.any rfl rfl (.move rfl) rfl rfl rfl ?_
            refine G.any rfl rfl (.move rfl) rfl rfl rfl ?_
            refine G.any rfl rfl (.idxS (i) Try.underlying23 sz43 rfl rfl (hl.isSome toldV_row (by omega)) (rfl) (by omega)) rfl rfl rfl ?_
            refine G.any rfl rfl (.vfield fa43_0 (hl.isSome toldV_row (by omega)) rfl) rfl rfl rfl ?_
            refine G.rd rfl rfl (.vpart (j := i) (o := 0) (adV ((l.getD i Bsp.noTold).a)) ag41 rfl (by decide) rfl (hl.le L4) toldV_row (getS l Bsp.noTold (by first | omega | (simp only [List.length_cons, List.length_nil]; omega))) rfl) rfl rfl rfl ?_
            refine G.any rfl rfl (.move rfl) rfl rfl rfl ?_
            refine G.any rfl rfl (.move rfl) rfl rfl rfl ?_
            refine G.any rfl rfl (.idxS (i) Try.underlying23 sz43 rfl rfl (hl.isSome toldV_row (by omega)) (rfl) (by omega)) rfl rfl rfl ?_
            refine G.any rfl rfl (.vfield fa43_1 (hl.isSome toldV_row (by omega)) rfl) rfl rfl rfl ?_
            refine G.rd rfl rfl (.vcell (j := i) (o := 13) (v := .int .i64 ((l.getD i Bsp.noTold).h)) na3 rfl (hl.le L4) toldV_row (getS l Bsp.noTold (by first | omega | (simp only [List.length_cons, List.length_nil]; omega))) rfl) rfl rfl rfl ?_
            by_cases hq0 : (takeC s (l.getD i Bsp.noTold).a (l.getD i Bsp.noTold).h) = 0
            · have f5 := (f0_0.le (h11_1.trans d12))
              refine G.ef rfl rfl rfl rfl rfl ?_
              refine Ef.call go10 rfl rfl (take_book ((l.getD i Bsp.noTold).a) ((l.getD i Bsp.noTold).h) ((hlg _ (getD_mem' (by omega))).1.2.2.2.1) f5) ?_
              rintro _ w12_11 ⟨F12_11, rfl, p12_11, g12_11, h12_11⟩
              refine ⟨_, rfl, ?_⟩
              refine ⟨fun h => absurd h (ne_true_of_eq_false (by kernel_rfl)), ?_⟩
              have L6 := L4.chP_then h12_11 (fun i hi => Nat.le_trans L1.size (f5.old hi))
              have f7 := (f0_1.le (h11_1.trans d12))
              have f8 := (o11_1.le d12)
              have zq9n := (show ∀ g, rowOf Ao co = some g → ¬ F g from po0_0)
              have zq9 := f7.chP h12_11 zq9n
              have zq9g : ∀ g, rowOf Ao co = some g → ¬ F12_11 g := fun g hg hF => (g12_11 _ hF).elim (zq9n g hg) (fun hz => by have := (f7.row hg).2; omega)
              have zq10n := (show ∀ g, rowOf A11_1 c11_1 = some g → ¬ F g from (fun g hg hF => by have := f0_0.lt hF;  have := (f8.row hg).1; omega))
              have zq10 := f8.chP h12_11 zq10n
              have zq10g : ∀ g, rowOf A11_1 c11_1 = some g → ¬ F12_11 g := fun g hg hF => (g12_11 _ hF).elim (zq10n g hg) (fun hz => by have := (f8.row hg).2; omega)
              refine G.any rfl rfl (.assign rfl) rfl rfl rfl ?_
              refine G.nil ?_
              refine E.thenN ?_
              refine WC.seq ?_
              refine WC.seq ?_
              refine WC.region ?_
              refine W.any (.move rfl) rfl rfl rfl ?_
              refine W.any (.dec (.neq rfl rfl) (decide_eq_false (not_not_intro hq0))) rfl rfl rfl ?_
              refine W.any (.move rfl) rfl rfl rfl ?_
              refine W.skip rfl rfl rfl (rfl) rfl rfl ?_
              refine W.skip rfl rfl rfl (rfl) rfl rfl ?_
              refine W.skip rfl rfl rfl (rfl) rfl rfl ?_
              refine W.skip rfl rfl rfl (rfl) rfl rfl ?_
              refine W.skip rfl rfl rfl (rfl) rfl rfl ?_
              refine W.any (.pickF rfl rfl rfl) rfl rfl rfl ?_
              refine W.nil ?_
              refine E.thenN ?_
              refine WC.condF rfl ?_
              refine WC.skip ?_
              refine E.thenN ?_
              refine WC.seq ?_
              refine WC.region ?_
              refine W.any (.move rfl) rfl rfl rfl ?_
              refine W.any (.dec (.eql rfl rfl) (decide_eq_true hq0)) rfl rfl rfl ?_
              refine W.nil ?_
              refine E.thenN ?_
              refine WC.condT rfl ?_
              refine WC.region ?_
              refine W.any (.move rfl) rfl rfl rfl ?_
              refine W.any (.move rfl) rfl rfl rfl ?_
              refine W.any (.move rfl) rfl rfl rfl ?_
              refine W.any (.idxS (i) Try.underlying23 sz43 rfl rfl (hl.isSome toldV_row (by omega)) (rfl) (by omega)) rfl rfl rfl ?_
              refine W.any (.vfield fa43_0 (hl.isSome toldV_row (by omega)) rfl) rfl rfl rfl ?_
              refine W.rd (.vpart (j := i) (o := 0) (adV ((l.getD i Bsp.noTold).a)) ag41 rfl (by decide) rfl (hl.le L6) toldV_row (getS l Bsp.noTold (by first | omega | (simp only [List.length_cons, List.length_nil]; omega))) rfl) rfl rfl rfl ?_
              refine W.ef rfl rfl rfl ?_
              refine Ef.buildSliceV (len := 1) [_] Try.underlying27 el41 rfl (by simp [Value.cells, adV_row.len]) rfl (by decide) (by decide) ?_
              intro g16_6 w16_6 hg16_6 b16_6 h16_6
              have L11 := L6.trans h16_6
              have b16_6 : Blk w16_6 g16_6 41 (([(l.getD i Bsp.noTold).a]).map adV).flatten.toArray := b16_6
              have o16_6 : OVec w16_6 w12_11.heap.size 41 adV 13 (some ⟨g16_6, 0, none⟩) 1 1 ([(l.getD i Bsp.noTold).a]) := b16_6.ovec hg16_6 adV_row rfl rfl (by decide)
              have f12 := (zq9.le h16_6)
              refine W.ef rfl rfl rfl ?_
              refine Ef.vpush (a := ((l.getD i Bsp.noTold).a)) Try.underlying27 el41 Try.underlying27 adV_row rfl f12 rfl b16_6 (by omega) (by unfold maxLen; omega) (by have := lb0_4; have := h11_1.size; have := d12.size; have := h12_11.size; have := h16_6.size; omega) ?_
              intro A16_7 c16_7 w16_7 o16_7 h16_7 at16_7
              have L13 : Le w w16_7 := L11.then_ h16_7 (fun q hq => Nat.le_trans L2.size (f12.row hq).1)
              refine W.any (.assign rfl) rfl rfl rfl ?_
              refine W.nil ?_
              refine E.blkN ?_
              refine E.thenN ?_
              refine WC.region ?_
              refine W.any (.move rfl) rfl rfl rfl ?_
              refine W.any (.add rfl rfl (by omega)) rfl rfl rfl ?_
              refine W.any (.assign rfl) rfl rfl rfl ?_
              refine W.nil ?_
              have f14 := ((p12_11.le h16_6).ch h16_7 (fun q hqq hF => zq9g q hqq hF))
              refine E.again (i + 1, F12_11, (takeS s (l.getD i Bsp.noTold).a (l.getD i Bsp.noTold).h), A16_7, c16_7, (tk ++ [(l.getD i Bsp.noTold).a]), (q + 1)) (.cons rfl (.cons rfl (.cons rfl (.cons rfl (.cons rfl (.cons rfl (.nil _))))))) ?_ ?_
              · exact ⟨by omega, by rw [takeS_0 hq0]; exact hTI.put hq0, by rw [takeS_keys]; exact hsk, by omega, L13, by have := zl0; have := h11_1.size; have := d12.size; have := h12_11.size; have := h16_6.size; have := h16_7.size; omega, f14, o16_7, (fun g hg hF => (at16_7 g hg).elim (fun hz => zq9g g hz hF) (fun hz => by have := p12_11.lt hF; have := h16_6.size; omega))⟩
              · first | omega | (simp only []; omega)
            · have f15 := (f0_0.le (h11_1.trans d12))
              refine G.ef rfl rfl rfl rfl rfl ?_
              refine Ef.call go10 rfl rfl (take_book ((l.getD i Bsp.noTold).a) ((l.getD i Bsp.noTold).h) ((hlg _ (getD_mem' (by omega))).1.2.2.2.1) f15) ?_
              rintro _ w12_11_1 ⟨F12_11_1, rfl, p12_11_1, g12_11_1, h12_11_1⟩
              refine ⟨_, rfl, ?_⟩
              refine ⟨fun h => absurd h (ne_true_of_eq_false (by kernel_rfl)), ?_⟩
              have L16 := L4.chP_then h12_11_1 (fun i hi => Nat.le_trans L1.size (f15.old hi))
              have f17 := (f0_1.le (h11_1.trans d12))
              have f18 := (o11_1.le d12)
              have zq19n := (show ∀ g, rowOf Ao co = some g → ¬ F g from po0_0)
              have zq19 := f17.chP h12_11_1 zq19n
              have zq19g : ∀ g, rowOf Ao co = some g → ¬ F12_11_1 g := fun g hg hF => (g12_11_1 _ hF).elim (zq19n g hg) (fun hz => by have := (f17.row hg).2; omega)
              have zq20n := (show ∀ g, rowOf A11_1 c11_1 = some g → ¬ F g from (fun g hg hF => by have := f0_0.lt hF;  have := (f18.row hg).1; omega))
              have zq20 := f18.chP h12_11_1 zq20n
              have zq20g : ∀ g, rowOf A11_1 c11_1 = some g → ¬ F12_11_1 g := fun g hg hF => (g12_11_1 _ hF).elim (zq20n g hg) (fun hz => by have := (f18.row hg).2; omega)
              refine G.any rfl rfl (.assign rfl) rfl rfl rfl ?_
              refine G.nil ?_
              refine E.thenN ?_
              refine WC.seq ?_
              refine WC.seq ?_
              refine WC.region ?_
              refine W.any (.move rfl) rfl rfl rfl ?_
              refine W.any (.dec (.neq rfl rfl) (decide_eq_true hq0)) rfl rfl rfl ?_
              refine W.any (.move rfl) rfl rfl rfl ?_
              refine W.rdg (Any.rd (.move rfl) _) rfl rfl rfl (rfl) rfl rfl ?_
              refine W.efg rfl rfl rfl (rfl) rfl rfl ?_
              refine Ef.call go9 rfl rfl (ads_book (s := (takeS s ((l.getD i Bsp.noTold).a) ((l.getD i Bsp.noTold).h))) p12_11_1) ?_
              rintro _ w13_4 ⟨A13_4, c13_4, rfl, o13_4, h13_4⟩
              refine ⟨_, rfl, ?_⟩
              have L21 := L16.trans h13_4
              refine W.rdg (Any.rd (.move rfl) _) rfl rfl rfl (rfl) rfl rfl ?_
              have hal := adsB_len (takeS s (l.getD i Bsp.noTold).a (l.getD i Bsp.noTold).h)
              have f22 := (zq20.le h13_4)
              refine W.efg rfl rfl rfl (rfl) rfl rfl ?_
              refine Ef.call go11 rfl rfl (sameads_ok w13_4 o13_4.vec f22.vec (by omega)) ?_
              rintro _ w13_6 ⟨rfl, h13_6⟩
              refine ⟨_, rfl, ?_⟩
              have L23 := L21.trans h13_6
              refine W.rdg (Any.rd (.dec (.not rfl) (congrArg not (decide_eq_true (by rw [takeS_no hq0])))) _) rfl rfl rfl (rfl) rfl rfl ?_
              refine W.any (.pickT rfl rfl rfl) rfl rfl rfl ?_
              refine W.nil ?_
              refine E.thenN ?_
              refine WC.condF rfl ?_
              refine WC.skip ?_
              refine E.thenN ?_
              refine WC.seq ?_
              refine WC.region ?_
              refine W.any (.move rfl) rfl rfl rfl ?_
              refine W.any (.dec (.eql rfl rfl) (decide_eq_false hq0)) rfl rfl rfl ?_
              refine W.nil ?_
              refine E.thenN ?_
              refine WC.condF rfl ?_
              refine WC.skip ?_
              refine E.blkN ?_
              refine E.thenN ?_
              refine WC.region ?_
              refine W.any (.move rfl) rfl rfl rfl ?_
              refine W.any (.add rfl rfl (by omega)) rfl rfl rfl ?_
              refine W.any (.assign rfl) rfl rfl rfl ?_
              refine W.nil ?_
              have f24 := (p12_11_1.le (h13_4.trans h13_6))
              have f25 := (zq19.le (h13_4.trans h13_6))
              refine E.again (i + 1, F12_11_1, (takeS s (l.getD i Bsp.noTold).a (l.getD i Bsp.noTold).h), Ao, co, tk, q) (.cons rfl (.cons rfl (.cons rfl (.cons rfl (.cons rfl (.cons rfl (.nil _))))))) ?_ ?_
              · exact ⟨by omega, by rw [takeS_no hq0]; exact hTI, by rw [takeS_keys]; exact hsk, by omega, L23, by have := zl0; have := h11_1.size; have := d12.size; have := h12_11_1.size; have := h13_4.size; have := h13_6.size; omega, f24, f25, zq19g⟩
              · first | omega | (simp only []; omega)
          · refine WC.condN rfl (decide_eq_false c2) ?_
            have hgood := f0_0.good
            have hqt := f0_1.1
            refine WC.exit ?_
            refine E.thenX ?_
            refine E.thenX ?_
            refine E.blkH ?_
            refine E.thenN ?_
            refine WC.seq ?_
            refine WC.region ?_
            refine W.any (.move rfl) rfl rfl rfl ?_
            refine W.ef rfl rfl rfl ?_
            refine Ef.call go9 rfl rfl (ads_book (s := s) f0_0) ?_
            rintro _ w17_1 ⟨A17_1, c17_1, rfl, o17_1, h17_1⟩
            refine ⟨_, rfl, ?_⟩
            have L26 := Ll0.trans h17_1
            refine W.any (.assign rfl) rfl rfl rfl ?_
            refine W.nil ?_
            refine E.thenN ?_
            refine WC.seq ?_
            refine WC.seq ?_
            refine WC.region ?_
            refine W.any (.assign rfl) rfl rfl rfl ?_
            refine W.nil ?_
            refine E.thenN ?_
            refine WC.block ?_
            have f27 := (f0_1.le h17_1)
            refine WC.loop (ι := Nat) (fun m => [(0, .slice Ak nk ck), (5, .bool true), (7, .slice Ao q co), (11, .slice A17_1 ((adsB s).length) c17_1), (12, .int .i64 (((m : Nat) : Int)))]) (fun m wl1 => (m ≤ (adsB s).length) ∧ Le w wl1 ∧ w17_1.heap.size ≤ wl1.heap.size ∧ OVec wl1 w4_1.heap.size 41 adV 13 Ao q co tk ∧ OVec wl1 wl0.heap.size 41 adV 13 A17_1 ((adsB s).length) c17_1 (adsB s)) (fun m => (adsB s).length - m) 0 ?_ ?_ ?_
            · exact .cons rfl (.cons rfl (.cons rfl (.cons rfl (.cons rfl (.nil _)))))
            · exact ⟨Nat.zero_le _, L26, Nat.le_refl _, f27, o17_1⟩
            · rintro m wl1 ⟨hm, Ll1, zl1, f1_0, f1_1⟩
              have lb1_4 : w4_1.heap.size ≤ wl1.heap.size := Nat.le_trans lb0_4 (by have := h17_1.size; omega)
              have lb1_9 : wl0.heap.size ≤ wl1.heap.size := by have := h17_1.size; omega
              have hal := adsB_len s
              refine WC.seq ?_
              refine WC.seq ?_
              refine WC.region ?_
              refine W.any (.move rfl) rfl rfl rfl ?_
              refine W.any (.move rfl) rfl rfl rfl ?_
              refine W.rd (.len Try.underlying27 rfl) rfl rfl rfl ?_
              refine W.any (.lss rfl rfl) rfl rfl rfl ?_
              refine W.nil ?_
              refine E.thenN ?_
              by_cases c5 : ((m : Nat) : Int) < (((adsB s).length : Nat) : Int)
              · refine WC.condY rfl (decide_eq_true c5) ?_
                obtain ⟨a1, a2, a3, a4⟩ := ads_at hgood (i := m) (by omega)
                rw [hsk] at a3 a4
                have hEA := edgeA_T (mayA_T a2).1
                refine WC.skip ?_
                refine E.thenN ?_
                refine WC.seq ?_
                refine WC.block ?_
                refine WC.seq ?_
                refine WC.region ?_
                refine W.any (.move rfl) rfl rfl rfl ?_
                refine W.any (.move rfl) rfl rfl rfl ?_
                refine W.any (.idxS (m) Try.underlying27 sz41 rfl rfl (o17_1.vec.isSome adV_row (by omega)) (rfl) (by omega)) rfl rfl rfl ?_
                refine W.rd (.vload ag41 rfl f1_1.vec adV_row (getS (adsB s) noAd (by first | omega | (simp only [List.length_cons, List.length_nil]; omega)))) rfl rfl rfl ?_
                refine W.ef rfl rfl rfl ?_
                refine Ef.allocA z41 ?_
                intro g21_4 w21_4 hg21_4 b21_4 h21_4
                have L28 := Ll1.trans h21_4
                have b21_4 : Blk w21_4 g21_4 41 (adV noAd).toArray := b21_4
                refine W.ef0 rfl rfl ?_
                refine Ef.storeAll sz41 (by rfl) rfl rfl b21_4 (by simp only [List.size_toArray, adV_row.len]) (adV_row.one ((adsB s).getD m noAd)) ?_
                intro w21_5 b21_5 h21_5
                have b21_5 : Blk w21_5 g21_4 41 (adV ((adsB s).getD m noAd)).toArray := b21_5
                have L29 : Le w w21_5 := L28.then_ h21_5 (fun q hq => by cases hq; exact Nat.le_trans Ll1.size hg21_4)
                refine W.nil ?_
                refine E.thenN ?_
                refine WC.seq ?_
                refine WC.seq ?_
                refine WC.draw [0, 1, 2, 3, 4, 5, 6, 7, 8, 9, 10, 11, 12, 13, 14, 15, 16, 17, 18, 19, 20, 21, 22, 23, 24, 25, 26, 27, 28, 29, 30, 31, 32, 33, 34, 35, 36, 37, 38, 39, 40, 41, 42, 43, 44, 45, 46, 47, 48, 49, 50, 51, 52, 53, 54, 55, 56, 57, 58, 59, 60, 61, 62, 63, 64, 65] mixed (by kernel_rfl) ?_
                intro w22 d22
                have L30 := L29.trans d22
                refine G.any rfl rfl (.field0 fa41_0 rfl) rfl rfl rfl ?_
                refine G.any rfl rfl (.field0 fa34_0 rfl) rfl rfl rfl ?_
                have f31 := (b21_5.le d22)
                refine G.rd rfl rfl (.loadB (v := .int .i64 (((adsB s).getD m noAd).e.f)) na3 rfl f31 rfl) rfl rfl rfl ?_
                refine G.any rfl rfl (.move rfl) rfl rfl rfl ?_
                refine G.rd rfl rfl (.len Try.underlying22 rfl) rfl rfl rfl ?_
                refine G.any rfl rfl (.geq rfl rfl) rfl rfl rfl ?_
                refine G.any rfl rfl (.dec (.move rfl) (decide_eq_false (by omega))) rfl rfl rfl ?_
                refine G.anyg rfl rfl (.field0 fa41_0 rfl) rfl rfl rfl (rfl) rfl rfl ?_
                refine G.rdg rfl rfl (.bpart (edgeV (((adsB s).getD m noAd).e)) ag34 rfl (by decide) rfl f31 rfl) rfl rfl rfl (rfl) rfl rfl ?_
                refine G.efg rfl rfl rfl rfl rfl (rfl) rfl rfl ?_
                refine Ef.call go12 rfl rfl (aright_ok (((adsB s).getD m noAd).e) w22) ?_
                rintro _ w22_9 ⟨rfl, h22_9⟩
                refine ⟨_, rfl, ?_⟩
                refine ⟨fun _ => h22_9, ?_⟩
                have L32 := L30.trans h22_9
                refine G.anyg rfl rfl (.dec (.not rfl) (congrArg not (mayA_T a2).1)) rfl rfl rfl (rfl) rfl rfl ?_
                refine G.any rfl rfl (.pickF rfl rfl rfl) rfl rfl rfl ?_
                refine G.any rfl rfl (.move rfl) rfl rfl rfl ?_
                refine G.anyg rfl rfl (.move rfl) rfl rfl rfl (rfl) rfl rfl ?_
                refine G.anyg rfl rfl (.field0 fa41_0 rfl) rfl rfl rfl (rfl) rfl rfl ?_
                refine G.anyg rfl rfl (.field0 fa34_0 rfl) rfl rfl rfl (rfl) rfl rfl ?_
                have f33 := (f31.le h22_9)
                refine G.rdg rfl rfl (.loadB (v := .int .i64 (((adsB s).getD m noAd).e.f)) na3 rfl f33 rfl) rfl rfl rfl (rfl) rfl rfl ?_
                refine G.anyg rfl rfl (.idxS ((((adsB s).getD m noAd).e.f).toNat) Try.underlying22 sz36 rfl rfl (hK.isSome pv1_row (by omega)) (by omega) (by omega)) rfl rfl rfl (rfl) rfl rfl ?_
                refine G.rdg rfl rfl (.vone (v := .int .u64 ((((keys.getD ((((adsB s).getD m noAd).e.f).toNat) 0) : Nat) : Int))) na36 rfl (hK.le L32) pv1_row (getS keys 0 (by first | omega | (simp only [List.length_cons, List.length_nil]; omega))) rfl) rfl rfl rfl (rfl) rfl rfl ?_
                refine G.rdg rfl rfl (.loadAll ag41 (by rfl) rfl f33) rfl rfl rfl (rfl) rfl rfl ?_
                refine G.efg rfl rfl rfl rfl rfl (rfl) rfl rfl ?_
                refine Ef.call go13 rfl rfl (averify_ok (keys.getD ((((adsB s).getD m noAd).e.f).toNat) 0) ((adsB s).getD m noAd) (hkb _ (getD_mem' (by omega))) (ver_r a4) w22_9) ?_
                rintro _ w22_20 ⟨rfl, h22_20⟩
                refine ⟨_, rfl, ?_⟩
                refine ⟨fun _ => h22_20, ?_⟩
                have L34 := L32.trans h22_20
                refine G.anyg rfl rfl (.dec (.not rfl) (congrArg not a4)) rfl rfl rfl (rfl) rfl rfl ?_
                refine G.any rfl rfl (.pickF rfl rfl rfl) rfl rfl rfl ?_
                refine G.any rfl rfl (.move rfl) rfl rfl rfl ?_
                refine G.anyg rfl rfl (.move rfl) rfl rfl rfl (rfl) rfl rfl ?_
                refine G.anyg rfl rfl (.gtr rfl rfl) rfl rfl rfl (rfl) rfl rfl ?_
                by_cases q22_26 : 0 < ((m : Nat) : Int)
                · refine G.anyg rfl rfl (.dec (.move rfl) (decide_eq_true q22_26)) rfl rfl rfl (rfl) rfl rfl ?_
                  refine G.anyg rfl rfl (.move rfl) rfl rfl rfl (rfl) rfl rfl ?_
                  refine G.anyg rfl rfl (.move rfl) rfl rfl rfl (rfl) rfl rfl ?_
                  refine G.anyg rfl rfl (.sub rfl rfl (by omega)) rfl rfl rfl (rfl) rfl rfl ?_
                  refine G.anyg rfl rfl (.idxS ((m - 1)) Try.underlying27 sz41 rfl rfl (o17_1.vec.isSome adV_row (by omega)) (by omega) (by omega)) rfl rfl rfl (rfl) rfl rfl ?_
                  refine G.anyg rfl rfl (.vfield fa41_0 (o17_1.vec.isSome adV_row (by omega)) rfl) rfl rfl rfl (rfl) rfl rfl ?_
                  refine G.anyg rfl rfl (.vfield fa34_2 (o17_1.vec.isSome adV_row (by omega)) rfl) rfl rfl rfl (rfl) rfl rfl ?_
                  have f35 := (((f1_1.le h21_4).ch h21_5 (fun q hq => by cases hq; exact (fun he => by have := (f1_1.row he).2; omega))).le (d22.trans (h22_9.trans h22_20)))
                  refine G.rdg rfl rfl (.vcell (j := (m - 1)) (o := 2) (v := .int .i64 (((adsB s).getD (m - 1) noAd).e.c)) na3 rfl f35.vec adV_row (getS (adsB s) noAd (by first | omega | (simp only [List.length_cons, List.length_nil]; omega))) rfl) rfl rfl rfl (rfl) rfl rfl ?_
                  refine G.anyg rfl rfl (.field0 fa41_0 rfl) rfl rfl rfl (rfl) rfl rfl ?_
                  refine G.anyg rfl rfl (.field0 fa34_2 rfl) rfl rfl rfl (rfl) rfl rfl ?_
                  have f36 := (f33.le h22_20)
                  refine G.rdg rfl rfl (.loadB (v := .int .i64 (((adsB s).getD m noAd).e.c)) na3 rfl f36 rfl) rfl rfl rfl (rfl) rfl rfl ?_
                  refine G.anyg rfl rfl (.gtr rfl rfl) rfl rfl rfl (rfl) rfl rfl ?_
                  refine G.anyg rfl rfl (.dec (.move rfl) (decide_eq_false (by have hq := ads_lt hgood (show m - 1 < m by omega) (by omega); unfold adLt sdLt sdOf at hq; simp only at hq; omega))) rfl rfl rfl (rfl) rfl rfl ?_
                  refine G.anyg rfl rfl (.move rfl) rfl rfl rfl (rfl) rfl rfl ?_
                  refine G.anyg rfl rfl (.move rfl) rfl rfl rfl (rfl) rfl rfl ?_
                  refine G.anyg rfl rfl (.sub rfl rfl (by omega)) rfl rfl rfl (rfl) rfl rfl ?_
                  refine G.anyg rfl rfl (.idxS ((m - 1)) Try.underlying27 sz41 rfl rfl (o17_1.vec.isSome adV_row (by omega)) (by omega) (by omega)) rfl rfl rfl (rfl) rfl rfl ?_
                  refine G.anyg rfl rfl (.vfield fa41_0 (o17_1.vec.isSome adV_row (by omega)) rfl) rfl rfl rfl (rfl) rfl rfl ?_
                  refine G.anyg rfl rfl (.vfield fa34_2 (o17_1.vec.isSome adV_row (by omega)) rfl) rfl rfl rfl (rfl) rfl rfl ?_
                  refine G.rdg rfl rfl (.vcell (j := (m - 1)) (o := 2) (v := .int .i64 (((adsB s).getD (m - 1) noAd).e.c)) na3 rfl f35.vec adV_row (getS (adsB s) noAd (by first | omega | (simp only [List.length_cons, List.length_nil]; omega))) rfl) rfl rfl rfl (rfl) rfl rfl ?_
                  refine G.anyg rfl rfl (.field0 fa41_0 rfl) rfl rfl rfl (rfl) rfl rfl ?_
                  refine G.anyg rfl rfl (.field0 fa34_2 rfl) rfl rfl rfl (rfl) rfl rfl ?_
                  refine G.rdg rfl rfl (.loadB (v := .int .i64 (((adsB s).getD m noAd).e.c)) na3 rfl f36 rfl) rfl rfl rfl (rfl) rfl rfl ?_
                  refine G.anyg rfl rfl (.eql rfl rfl) rfl rfl rfl (rfl) rfl rfl ?_
                  by_cases q22_50 : (((adsB s).getD (m - 1) noAd).e.c) = (((adsB s).getD m noAd).e.c)
                  · refine G.anyg rfl rfl (.dec (.move rfl) (decide_eq_true q22_50)) rfl rfl rfl (rfl) rfl rfl ?_
                    refine G.anyg rfl rfl (.move rfl) rfl rfl rfl (rfl) rfl rfl ?_
                    refine G.anyg rfl rfl (.move rfl) rfl rfl rfl (rfl) rfl rfl ?_
                    refine G.anyg rfl rfl (.sub rfl rfl (by omega)) rfl rfl rfl (rfl) rfl rfl ?_
                    refine G.anyg rfl rfl (.idxS ((m - 1)) Try.underlying27 sz41 rfl rfl (o17_1.vec.isSome adV_row (by omega)) (by omega) (by omega)) rfl rfl rfl (rfl) rfl rfl ?_
                    refine G.anyg rfl rfl (.vfield fa41_0 (o17_1.vec.isSome adV_row (by omega)) rfl) rfl rfl rfl (rfl) rfl rfl ?_
                    refine G.anyg rfl rfl (.vfield fa34_0 (o17_1.vec.isSome adV_row (by omega)) rfl) rfl rfl rfl (rfl) rfl rfl ?_
                    refine G.rdg rfl rfl (.vcell (j := (m - 1)) (o := 0) (v := .int .i64 (((adsB s).getD (m - 1) noAd).e.f)) na3 rfl f35.vec adV_row (getS (adsB s) noAd (by first | omega | (simp only [List.length_cons, List.length_nil]; omega))) rfl) rfl rfl rfl (rfl) rfl rfl ?_
                    refine G.anyg rfl rfl (.field0 fa41_0 rfl) rfl rfl rfl (rfl) rfl rfl ?_
                    refine G.anyg rfl rfl (.field0 fa34_0 rfl) rfl rfl rfl (rfl) rfl rfl ?_
                    refine G.rdg rfl rfl (.loadB (v := .int .i64 (((adsB s).getD m noAd).e.f)) na3 rfl f36 rfl) rfl rfl rfl (rfl) rfl rfl ?_
                    refine G.anyg rfl rfl (.dec (.geq rfl rfl) (decide_eq_false (by have hq := ads_lt hgood (show m - 1 < m by omega) (by omega); unfold adLt sdLt sdOf at hq; simp only at hq; omega))) rfl rfl rfl (rfl) rfl rfl ?_
                    refine G.anyg rfl rfl (.pickT rfl rfl rfl) rfl rfl rfl (rfl) rfl rfl ?_
                    refine G.anyg rfl rfl (.pickF rfl rfl rfl) rfl rfl rfl (rfl) rfl rfl ?_
                    refine G.anyg rfl rfl (.pickT rfl rfl rfl) rfl rfl rfl (rfl) rfl rfl ?_
                    refine G.any rfl rfl (.pickF rfl rfl rfl) rfl rfl rfl ?_
                    refine G.nil ?_
                    refine E.thenN ?_
                    refine WC.condF rfl ?_
                    refine WC.skip ?_
                    refine E.thenN ?_
                    refine WC.seq ?_
                    refine WC.region ?_
                    refine W.any (.assign rfl) rfl rfl rfl ?_
                    refine W.nil ?_
                    refine E.thenN ?_
                    refine WC.seq ?_
                    refine WC.seq ?_
                    refine WC.region ?_
                    refine W.any (.assign rfl) rfl rfl rfl ?_
                    refine W.nil ?_
                    refine E.thenN ?_
                    refine WC.block ?_
                    have f37 := (((f1_0.le h21_4).ch h21_5 (fun q hq => by cases hq; exact (fun he => by have := (f1_0.row he).2; omega))).le (d22.trans (h22_9.trans h22_20)))
                    refine WC.loop (ι := Nat × Bool) (fun ⟨k, b⟩ => [(0, .slice Ak nk ck), (5, .bool true), (7, .slice Ao q co), (11, .slice A17_1 ((adsB s).length) c17_1), (12, .int .i64 (((m : Nat) : Int))), (13, .pointer (some ⟨g21_4, 0, none⟩)), (14, .bool (b)), (15, .int .i64 (((k : Nat) : Int)))]) (fun ⟨k, b⟩ wl2 => (k ≤ q) ∧ (b = ((tk.take k).any fun x => decide (x = ((adsB s).getD m noAd)))) ∧ Le w wl2 ∧ w22_20.heap.size ≤ wl2.heap.size ∧ OVec wl2 w4_1.heap.size 41 adV 13 Ao q co tk ∧ OVec wl2 wl0.heap.size 41 adV 13 A17_1 ((adsB s).length) c17_1 (adsB s) ∧ Blk wl2 g21_4 41 (adV ((adsB s).getD m noAd)).toArray) (fun ⟨k, b⟩ => q - k) (0, false) ?_ ?_ ?_
                    · exact .cons rfl (.cons rfl (.cons rfl (.cons rfl (.cons rfl (.cons rfl (.cons rfl (.cons rfl (.nil _))))))))
                    · exact ⟨Nat.zero_le _, by simp, L34, Nat.le_refl _, f37, f35, f36⟩
                    · rintro ⟨k, b⟩ wl2 ⟨hk, hwb, Ll2, zl2, f2_0, f2_1, f2_2⟩
                      have lb2_4 : w4_1.heap.size ≤ wl2.heap.size := Nat.le_trans lb1_4 (by have := h21_4.size; have := h21_5.size; have := d22.size; have := h22_9.size; have := h22_20.size; omega)
                      have lb2_9 : wl0.heap.size ≤ wl2.heap.size := Nat.le_trans lb1_9 (by have := h21_4.size; have := h21_5.size; have := d22.size; have := h22_9.size; have := h22_20.size; omega)
                      refine WC.seq ?_
                      refine WC.seq ?_
                      refine WC.region ?_
                      refine W.any (.move rfl) rfl rfl rfl ?_
                      refine W.any (.move rfl) rfl rfl rfl ?_
                      refine W.rd (.len Try.underlying27 rfl) rfl rfl rfl ?_
                      refine W.any (.lss rfl rfl) rfl rfl rfl ?_
                      refine W.nil ?_
                      refine E.thenN ?_
                      by_cases c7 : ((k : Nat) : Int) < ((q : Nat) : Int)
                      · refine WC.condY rfl (decide_eq_true c7) ?_
                        refine WC.skip ?_
                        refine E.thenN ?_
                        refine WC.seq ?_
                        refine WC.block ?_
                        refine WC.seq ?_
                        refine WC.region ?_
                        refine W.any (.move rfl) rfl rfl rfl ?_
                        refine W.any (.move rfl) rfl rfl rfl ?_
                        refine W.any (.idxS (k) Try.underlying27 sz41 rfl rfl (f0_1.vec.isSome adV_row (by omega)) (rfl) (by omega)) rfl rfl rfl ?_
                        refine W.rd (.vload ag41 rfl f2_0.vec adV_row (getS tk noAd (by first | omega | (simp only [List.length_cons, List.length_nil]; omega)))) rfl rfl rfl ?_
                        refine W.ef rfl rfl rfl ?_
                        refine Ef.allocA z41 ?_
                        intro g28_4 w28_4 hg28_4 b28_4 h28_4
                        have L38 := Ll2.trans h28_4
                        have b28_4 : Blk w28_4 g28_4 41 (adV noAd).toArray := b28_4
                        refine W.ef0 rfl rfl ?_
                        refine Ef.storeAll sz41 (by rfl) rfl rfl b28_4 (by simp only [List.size_toArray, adV_row.len]) (adV_row.one (tk.getD k noAd)) ?_
                        intro w28_5 b28_5 h28_5
                        have b28_5 : Blk w28_5 g28_4 41 (adV (tk.getD k noAd)).toArray := b28_5
                        have L39 : Le w w28_5 := L38.then_ h28_5 (fun q hq => by cases hq; exact Nat.le_trans Ll2.size hg28_4)
                        refine W.nil ?_
                        refine E.thenN ?_
                        refine WC.seq ?_
                        refine WC.seq ?_
                        refine WC.region ?_
                        refine W.any (.field0 fa41_0 rfl) rfl rfl rfl ?_
                        refine W.any (.field0 fa34_2 rfl) rfl rfl rfl ?_
                        refine W.rd (.loadB (v := .int .i64 ((tk.getD k noAd).e.c)) na3 rfl b28_5 rfl) rfl rfl rfl ?_
                        refine W.any (.field0 fa41_0 rfl) rfl rfl rfl ?_
                        refine W.any (.field0 fa34_2 rfl) rfl rfl rfl ?_
                        have f40 := ((f2_2.le h28_4).ch h28_5 (fun h => (show g28_4 ≠ g21_4 from by have := f2_2.lt; omega) (Option.some.inj h)))
                        refine W.rd (.loadB (v := .int .i64 (((adsB s).getD m noAd).e.c)) na3 rfl f40 rfl) rfl rfl rfl ?_
                        refine W.any (.eql rfl rfl) rfl rfl rfl ?_
                        by_cases q29_7 : ((tk.getD k noAd).e.c) = (((adsB s).getD m noAd).e.c)
                        · refine W.any (.dec (.move rfl) (decide_eq_true q29_7)) rfl rfl rfl ?_
                          refine W.rdg (Any.rd (.field0 fa41_0 rfl) _) rfl rfl rfl (rfl) rfl rfl ?_
                          refine W.rdg (Any.rd (.field0 fa34_0 rfl) _) rfl rfl rfl (rfl) rfl rfl ?_
                          refine W.rdg (.loadB (v := .int .i64 ((tk.getD k noAd).e.f)) na3 rfl b28_5 rfl) rfl rfl rfl (rfl) rfl rfl ?_
                          refine W.rdg (Any.rd (.field0 fa41_0 rfl) _) rfl rfl rfl (rfl) rfl rfl ?_
                          refine W.rdg (Any.rd (.field0 fa34_0 rfl) _) rfl rfl rfl (rfl) rfl rfl ?_
                          refine W.rdg (.loadB (v := .int .i64 (((adsB s).getD m noAd).e.f)) na3 rfl f40 rfl) rfl rfl rfl (rfl) rfl rfl ?_
                          refine W.rdg (Any.rd (.eql rfl rfl) _) rfl rfl rfl (rfl) rfl rfl ?_
                          refine W.any (.pickT rfl rfl rfl) rfl rfl rfl ?_
                          by_cases q29_16 : ((tk.getD k noAd).e.f) = (((adsB s).getD m noAd).e.f)
                          · refine W.any (.dec (.move rfl) (decide_eq_true q29_16)) rfl rfl rfl ?_
                            refine W.rdg (Any.rd (.field0 fa41_1 rfl) _) rfl rfl rfl (rfl) rfl rfl ?_
                            refine W.rdg (.loadB (v := .int .i64 ((tk.getD k noAd).no)) na3 rfl b28_5 rfl) rfl rfl rfl (rfl) rfl rfl ?_
                            refine W.rdg (Any.rd (.field0 fa41_1 rfl) _) rfl rfl rfl (rfl) rfl rfl ?_
                            refine W.rdg (.loadB (v := .int .i64 (((adsB s).getD m noAd).no)) na3 rfl f40 rfl) rfl rfl rfl (rfl) rfl rfl ?_
                            refine W.rdg (Any.rd (.dec (.gtr rfl rfl) (decide_eq_false (by have := hTI.no_newer a1 (getD_mem' (z := noAd) (show k < tk.length by omega)) (by assumption) (by assumption); omega))) _) rfl rfl rfl (rfl) rfl rfl ?_
                            refine W.any (.pickT rfl rfl rfl) rfl rfl rfl ?_
                            refine W.nil ?_
                            refine E.thenN ?_
                            refine WC.condF rfl ?_
                            refine WC.skip ?_
                            refine E.thenN ?_
                            refine WC.region ?_
                            refine W.any (.move rfl) rfl rfl rfl ?_
                            by_cases q31_1 : b = true
                            · refine W.any (.dec (.move rfl) (q31_1)) rfl rfl rfl ?_
                              refine W.skip rfl rfl rfl (rfl) rfl rfl ?_
                              refine W.skip rfl rfl rfl (rfl) rfl rfl ?_
                              refine W.skip rfl rfl rfl (rfl) rfl rfl ?_
                              refine W.any (.pickT rfl rfl rfl) rfl rfl rfl ?_
                              refine W.any (.assign rfl) rfl rfl rfl ?_
                              refine W.nil ?_
                              refine E.blkN ?_
                              refine E.thenN ?_
                              refine WC.region ?_
                              refine W.any (.move rfl) rfl rfl rfl ?_
                              refine W.any (.add rfl rfl (by omega)) rfl rfl rfl ?_
                              refine W.any (.assign rfl) rfl rfl rfl ?_
                              refine W.nil ?_
                              have f41 := ((f2_0.le h28_4).ch h28_5 (fun q hq => by cases hq; exact (fun he => by have := (f2_0.row he).2; omega)))
                              have f42 := ((f2_1.le h28_4).ch h28_5 (fun q hq => by cases hq; exact (fun he => by have := (f2_1.row he).2; omega)))
                              refine E.again (k + 1, true) (.cons rfl (.cons rfl (.cons rfl (.cons rfl (.cons rfl (.cons rfl (.cons rfl (.cons rfl (.nil _))))))))) ?_ ?_
                              · exact ⟨by omega, by rw [any_next (by omega), ← hwb]; simp [-List.getD_eq_getElem?_getD, q31_1], L39, by have := zl2; have := h28_4.size; have := h28_5.size; omega, f41, f42, f40⟩
                              · first | omega | (simp only []; omega)
                            · refine W.any (.dec (.move rfl) ((Bool.eq_false_iff.2 q31_1))) rfl rfl rfl ?_
                              refine W.rdg (.loadAll ag41 (by rfl) rfl b28_5) rfl rfl rfl (rfl) rfl rfl ?_
                              refine W.rdg (.loadAll ag41 (by rfl) rfl f40) rfl rfl rfl (rfl) rfl rfl ?_
                              refine W.rdg (Any.rd (.eqA eg41 rfl rfl (eqv_ad (d := 9996) _ _)) _) rfl rfl rfl (rfl) rfl rfl ?_
                              refine W.any (.pickF rfl rfl rfl) rfl rfl rfl ?_
                              refine W.any (.assign rfl) rfl rfl rfl ?_
                              refine W.nil ?_
                              refine E.blkN ?_
                              refine E.thenN ?_
                              refine WC.region ?_
                              refine W.any (.move rfl) rfl rfl rfl ?_
                              refine W.any (.add rfl rfl (by omega)) rfl rfl rfl ?_
                              refine W.any (.assign rfl) rfl rfl rfl ?_
                              refine W.nil ?_
                              have f43 := ((f2_0.le h28_4).ch h28_5 (fun q hq => by cases hq; exact (fun he => by have := (f2_0.row he).2; omega)))
                              have f44 := ((f2_1.le h28_4).ch h28_5 (fun q hq => by cases hq; exact (fun he => by have := (f2_1.row he).2; omega)))
                              refine E.again (k + 1, (decide ((tk.getD k noAd) = ((adsB s).getD m noAd)))) (.cons rfl (.cons rfl (.cons rfl (.cons rfl (.cons rfl (.cons rfl (.cons rfl (.cons rfl (.nil _))))))))) ?_ ?_
                              · exact ⟨by omega, by rw [any_next (by omega), ← hwb]; simp [-List.getD_eq_getElem?_getD, q31_1], L39, by have := zl2; have := h28_4.size; have := h28_5.size; omega, f43, f44, f40⟩
                              · first | omega | (simp only []; omega)
                          · refine W.any (.dec (.move rfl) (decide_eq_false q29_16)) rfl rfl rfl ?_
                            refine W.skip rfl rfl rfl (rfl) rfl rfl ?_
                            refine W.skip rfl rfl rfl (rfl) rfl rfl ?_
                            refine W.skip rfl rfl rfl (rfl) rfl rfl ?_
                            refine W.skip rfl rfl rfl (rfl) rfl rfl ?_
                            refine W.skip rfl rfl rfl (rfl) rfl rfl ?_
                            refine W.any (.pickF rfl rfl rfl) rfl rfl rfl ?_
                            refine W.nil ?_
                            refine E.thenN ?_
                            refine WC.condF rfl ?_
                            refine WC.skip ?_
                            refine E.thenN ?_
                            refine WC.region ?_
                            refine W.any (.move rfl) rfl rfl rfl ?_
                            by_cases q31_1 : b = true
                            · refine W.any (.dec (.move rfl) (q31_1)) rfl rfl rfl ?_
                              refine W.skip rfl rfl rfl (rfl) rfl rfl ?_
                              refine W.skip rfl rfl rfl (rfl) rfl rfl ?_
                              refine W.skip rfl rfl rfl (rfl) rfl rfl ?_
                              refine W.any (.pickT rfl rfl rfl) rfl rfl rfl ?_
                              refine W.any (.assign rfl) rfl rfl rfl ?_
                              refine W.nil ?_
                              refine E.blkN ?_
                              refine E.thenN ?_
                              refine WC.region ?_
                              refine W.any (.move rfl) rfl rfl rfl ?_
                              refine W.any (.add rfl rfl (by omega)) rfl rfl rfl ?_
                              refine W.any (.assign rfl) rfl rfl rfl ?_
                              refine W.nil ?_
                              have f45 := ((f2_0.le h28_4).ch h28_5 (fun q hq => by cases hq; exact (fun he => by have := (f2_0.row he).2; omega)))
                              have f46 := ((f2_1.le h28_4).ch h28_5 (fun q hq => by cases hq; exact (fun he => by have := (f2_1.row he).2; omega)))
                              refine E.again (k + 1, true) (.cons rfl (.cons rfl (.cons rfl (.cons rfl (.cons rfl (.cons rfl (.cons rfl (.cons rfl (.nil _))))))))) ?_ ?_
                              · exact ⟨by omega, by rw [any_next (by omega), ← hwb]; simp [-List.getD_eq_getElem?_getD, q31_1], L39, by have := zl2; have := h28_4.size; have := h28_5.size; omega, f45, f46, f40⟩
                              · first | omega | (simp only []; omega)
                            · refine W.any (.dec (.move rfl) ((Bool.eq_false_iff.2 q31_1))) rfl rfl rfl ?_
                              refine W.rdg (.loadAll ag41 (by rfl) rfl b28_5) rfl rfl rfl (rfl) rfl rfl ?_
                              refine W.rdg (.loadAll ag41 (by rfl) rfl f40) rfl rfl rfl (rfl) rfl rfl ?_
                              refine W.rdg (Any.rd (.eqA eg41 rfl rfl (eqv_ad (d := 9996) _ _)) _) rfl rfl rfl (rfl) rfl rfl ?_
                              refine W.any (.pickF rfl rfl rfl) rfl rfl rfl ?_
                              refine W.any (.assign rfl) rfl rfl rfl ?_
                              refine W.nil ?_
                              refine E.blkN ?_
                              refine E.thenN ?_
                              refine WC.region ?_
                              refine W.any (.move rfl) rfl rfl rfl ?_
                              refine W.any (.add rfl rfl (by omega)) rfl rfl rfl ?_
                              refine W.any (.assign rfl) rfl rfl rfl ?_
                              refine W.nil ?_
                              have f47 := ((f2_0.le h28_4).ch h28_5 (fun q hq => by cases hq; exact (fun he => by have := (f2_0.row he).2; omega)))
                              have f48 := ((f2_1.le h28_4).ch h28_5 (fun q hq => by cases hq; exact (fun he => by have := (f2_1.row he).2; omega)))
                              refine E.again (k + 1, (decide ((tk.getD k noAd) = ((adsB s).getD m noAd)))) (.cons rfl (.cons rfl (.cons rfl (.cons rfl (.cons rfl (.cons rfl (.cons rfl (.cons rfl (.nil _))))))))) ?_ ?_
                              · exact ⟨by omega, by rw [any_next (by omega), ← hwb]; simp [-List.getD_eq_getElem?_getD, q31_1], L39, by have := zl2; have := h28_4.size; have := h28_5.size; omega, f47, f48, f40⟩
                              · first | omega | (simp only []; omega)
                        · refine W.any (.dec (.move rfl) (decide_eq_false q29_7)) rfl rfl rfl ?_
                          refine W.skip rfl rfl rfl (rfl) rfl rfl ?_
                          refine W.skip rfl rfl rfl (rfl) rfl rfl ?_
                          refine W.skip rfl rfl rfl (rfl) rfl rfl ?_
                          refine W.skip rfl rfl rfl (rfl) rfl rfl ?_
                          refine W.skip rfl rfl rfl (rfl) rfl rfl ?_
                          refine W.skip rfl rfl rfl (rfl) rfl rfl ?_
                          refine W.skip rfl rfl rfl (rfl) rfl rfl ?_
                          refine W.any (.pickF rfl rfl rfl) rfl rfl rfl ?_
                          refine W.any (.move rfl) rfl rfl rfl ?_
                          refine W.skip rfl rfl rfl (rfl) rfl rfl ?_
                          refine W.skip rfl rfl rfl (rfl) rfl rfl ?_
                          refine W.skip rfl rfl rfl (rfl) rfl rfl ?_
                          refine W.skip rfl rfl rfl (rfl) rfl rfl ?_
                          refine W.skip rfl rfl rfl (rfl) rfl rfl ?_
                          refine W.any (.pickF rfl rfl rfl) rfl rfl rfl ?_
                          refine W.nil ?_
                          refine E.thenN ?_
                          refine WC.condF rfl ?_
                          refine WC.skip ?_
                          refine E.thenN ?_
                          refine WC.region ?_
                          refine W.any (.move rfl) rfl rfl rfl ?_
                          by_cases q31_1 : b = true
                          · refine W.any (.dec (.move rfl) (q31_1)) rfl rfl rfl ?_
                            refine W.skip rfl rfl rfl (rfl) rfl rfl ?_
                            refine W.skip rfl rfl rfl (rfl) rfl rfl ?_
                            refine W.skip rfl rfl rfl (rfl) rfl rfl ?_
                            refine W.any (.pickT rfl rfl rfl) rfl rfl rfl ?_
                            refine W.any (.assign rfl) rfl rfl rfl ?_
                            refine W.nil ?_
                            refine E.blkN ?_
                            refine E.thenN ?_
                            refine WC.region ?_
                            refine W.any (.move rfl) rfl rfl rfl ?_
                            refine W.any (.add rfl rfl (by omega)) rfl rfl rfl ?_
                            refine W.any (.assign rfl) rfl rfl rfl ?_
                            refine W.nil ?_
                            have f49 := ((f2_0.le h28_4).ch h28_5 (fun q hq => by cases hq; exact (fun he => by have := (f2_0.row he).2; omega)))
                            have f50 := ((f2_1.le h28_4).ch h28_5 (fun q hq => by cases hq; exact (fun he => by have := (f2_1.row he).2; omega)))
                            refine E.again (k + 1, true) (.cons rfl (.cons rfl (.cons rfl (.cons rfl (.cons rfl (.cons rfl (.cons rfl (.cons rfl (.nil _))))))))) ?_ ?_
                            · exact ⟨by omega, by rw [any_next (by omega), ← hwb]; simp [-List.getD_eq_getElem?_getD, q31_1], L39, by have := zl2; have := h28_4.size; have := h28_5.size; omega, f49, f50, f40⟩
                            · first | omega | (simp only []; omega)
                          · refine W.any (.dec (.move rfl) ((Bool.eq_false_iff.2 q31_1))) rfl rfl rfl ?_
                            refine W.rdg (.loadAll ag41 (by rfl) rfl b28_5) rfl rfl rfl (rfl) rfl rfl ?_
                            refine W.rdg (.loadAll ag41 (by rfl) rfl f40) rfl rfl rfl (rfl) rfl rfl ?_
                            refine W.rdg (Any.rd (.eqA eg41 rfl rfl (eqv_ad (d := 9996) _ _)) _) rfl rfl rfl (rfl) rfl rfl ?_
                            refine W.any (.pickF rfl rfl rfl) rfl rfl rfl ?_
                            refine W.any (.assign rfl) rfl rfl rfl ?_
                            refine W.nil ?_
                            refine E.blkN ?_
                            refine E.thenN ?_
                            refine WC.region ?_
                            refine W.any (.move rfl) rfl rfl rfl ?_
                            refine W.any (.add rfl rfl (by omega)) rfl rfl rfl ?_
                            refine W.any (.assign rfl) rfl rfl rfl ?_
                            refine W.nil ?_
                            have f51 := ((f2_0.le h28_4).ch h28_5 (fun q hq => by cases hq; exact (fun he => by have := (f2_0.row he).2; omega)))
                            have f52 := ((f2_1.le h28_4).ch h28_5 (fun q hq => by cases hq; exact (fun he => by have := (f2_1.row he).2; omega)))
                            refine E.again (k + 1, (decide ((tk.getD k noAd) = ((adsB s).getD m noAd)))) (.cons rfl (.cons rfl (.cons rfl (.cons rfl (.cons rfl (.cons rfl (.cons rfl (.cons rfl (.nil _))))))))) ?_ ?_
                            · exact ⟨by omega, by rw [any_next (by omega), ← hwb]; simp [-List.getD_eq_getElem?_getD, q31_1], L39, by have := zl2; have := h28_4.size; have := h28_5.size; omega, f51, f52, f40⟩
                            · first | omega | (simp only []; omega)
                      · refine WC.condN rfl (decide_eq_false c7) ?_
                        have hbt : b = true := by rw [hwb, List.take_of_length_le (by omega), List.any_eq_true]; exact ⟨_, hTI.mem _ _ a1, by simp⟩
                        refine WC.exit ?_
                        refine E.thenX ?_
                        refine E.thenX ?_
                        refine E.blkH ?_
                        refine E.thenN ?_
                        refine WC.seq ?_
                        refine WC.region ?_
                        refine W.any (.move rfl) rfl rfl rfl ?_
                        refine W.any (.dec (.not rfl) (congrArg not hbt)) rfl rfl rfl ?_
                        refine W.nil ?_
                        refine E.thenN ?_
                        refine WC.condF rfl ?_
                        refine WC.skip ?_
                        refine E.blkN ?_
                        refine E.thenN ?_
                        refine WC.region ?_
                        refine W.any (.move rfl) rfl rfl rfl ?_
                        refine W.any (.add rfl rfl (by omega)) rfl rfl rfl ?_
                        refine W.any (.assign rfl) rfl rfl rfl ?_
                        refine W.nil ?_
                        refine E.again (m + 1) (.cons rfl (.cons rfl (.cons rfl (.cons rfl (.cons rfl (.nil _)))))) ?_ ?_
                        · exact ⟨by omega, Ll2, by have := zl1; have := zl0; have := zl2; have := h1_0.size; have := h4_1.size; have := h17_1.size; have := h21_4.size; have := h21_5.size; have := d22.size; have := h22_9.size; have := h22_20.size; omega, f2_0, f2_1⟩
                        · first | omega | (simp only []; omega)
                  · refine G.anyg rfl rfl (.dec (.move rfl) (decide_eq_false q22_50)) rfl rfl rfl (rfl) rfl rfl ?_
                    refine G.skip rfl rfl rfl rfl (rfl) rfl rfl ?_
                    refine G.skip rfl rfl rfl rfl (rfl) rfl rfl ?_
                    refine G.skip rfl rfl rfl rfl (rfl) rfl rfl ?_
                    refine G.skip rfl rfl rfl rfl (rfl) rfl rfl ?_
                    refine G.skip rfl rfl rfl rfl (rfl) rfl rfl ?_
                    refine G.skip rfl rfl rfl rfl (rfl) rfl rfl ?_
                    refine G.skip rfl rfl rfl rfl (rfl) rfl rfl ?_
                    refine G.skip rfl rfl rfl rfl (rfl) rfl rfl ?_
                    refine G.skip rfl rfl rfl rfl (rfl) rfl rfl ?_
                    refine G.skip rfl rfl rfl rfl (rfl) rfl rfl ?_
                    refine G.skip rfl rfl rfl rfl (rfl) rfl rfl ?_
                    refine G.anyg rfl rfl (.pickF rfl rfl rfl) rfl rfl rfl (rfl) rfl rfl ?_
                    refine G.anyg rfl rfl (.pickF rfl rfl rfl) rfl rfl rfl (rfl) rfl rfl ?_
                    refine G.anyg rfl rfl (.pickT rfl rfl rfl) rfl rfl rfl (rfl) rfl rfl ?_
                    refine G.any rfl rfl (.pickF rfl rfl rfl) rfl rfl rfl ?_
                    refine G.nil ?_
                    refine E.thenN ?_
                    refine WC.condF rfl ?_
                    refine WC.skip ?_
                    refine E.thenN ?_
                    refine WC.seq ?_
                    refine WC.region ?_
                    refine W.any (.assign rfl) rfl rfl rfl ?_
                    refine W.nil ?_
                    refine E.thenN ?_
                    refine WC.seq ?_
                    refine WC.seq ?_
                    refine WC.region ?_
                    refine W.any (.assign rfl) rfl rfl rfl ?_
                    refine W.nil ?_
                    refine E.thenN ?_
                    refine WC.block ?_
                    have f53 := (((f1_0.le h21_4).ch h21_5 (fun q hq => by cases hq; exact (fun he => by have := (f1_0.row he).2; omega))).le (d22.trans (h22_9.trans h22_20)))
                    refine WC.loop (ι := Nat × Bool) (fun ⟨k, b⟩ => [(0, .slice Ak nk ck), (5, .bool true), (7, .slice Ao q co), (11, .slice A17_1 ((adsB s).length) c17_1), (12, .int .i64 (((m : Nat) : Int))), (13, .pointer (some ⟨g21_4, 0, none⟩)), (14, .bool (b)), (15, .int .i64 (((k : Nat) : Int)))]) (fun ⟨k, b⟩ wl2 => (k ≤ q) ∧ (b = ((tk.take k).any fun x => decide (x = ((adsB s).getD m noAd)))) ∧ Le w wl2 ∧ w22_20.heap.size ≤ wl2.heap.size ∧ OVec wl2 w4_1.heap.size 41 adV 13 Ao q co tk ∧ OVec wl2 wl0.heap.size 41 adV 13 A17_1 ((adsB s).length) c17_1 (adsB s) ∧ Blk wl2 g21_4 41 (adV ((adsB s).getD m noAd)).toArray) (fun ⟨k, b⟩ => q - k) (0, false) ?_ ?_ ?_
                    · exact .cons rfl (.cons rfl (.cons rfl (.cons rfl (.cons rfl (.cons rfl (.cons rfl (.cons rfl (.nil _))))))))
                    · exact ⟨Nat.zero_le _, by simp, L34, Nat.le_refl _, f53, f35, f36⟩
                    · rintro ⟨k, b⟩ wl2 ⟨hk, hwb, Ll2, zl2, f2_0, f2_1, f2_2⟩
                      have lb2_4 : w4_1.heap.size ≤ wl2.heap.size := Nat.le_trans lb1_4 (by have := h21_4.size; have := h21_5.size; have := d22.size; have := h22_9.size; have := h22_20.size; omega)
                      have lb2_9 : wl0.heap.size ≤ wl2.heap.size := Nat.le_trans lb1_9 (by have := h21_4.size; have := h21_5.size; have := d22.size; have := h22_9.size; have := h22_20.size; omega)
                      refine WC.seq ?_
                      refine WC.seq ?_
                      refine WC.region ?_
                      refine W.any (.move rfl) rfl rfl rfl ?_
                      refine W.any (.move rfl) rfl rfl rfl ?_
                      refine W.rd (.len Try.underlying27 rfl) rfl rfl rfl ?_
                      refine W.any (.lss rfl rfl) rfl rfl rfl ?_
                      refine W.nil ?_
                      refine E.thenN ?_
                      by_cases c7 : ((k : Nat) : Int) < ((q : Nat) : Int)
                      · refine WC.condY rfl (decide_eq_true c7) ?_
                        refine WC.skip ?_
                        refine E.thenN ?_
                        refine WC.seq ?_
                        refine WC.block ?_
                        refine WC.seq ?_
                        refine WC.region ?_
                        refine W.any (.move rfl) rfl rfl rfl ?_
                        refine W.any (.move rfl) rfl rfl rfl ?_
                        refine W.any (.idxS (k) Try.underlying27 sz41 rfl rfl (f0_1.vec.isSome adV_row (by omega)) (rfl) (by omega)) rfl rfl rfl ?_
                        refine W.rd (.vload ag41 rfl f2_0.vec adV_row (getS tk noAd (by first | omega | (simp only [List.length_cons, List.length_nil]; omega)))) rfl rfl rfl ?_
                        refine W.ef rfl rfl rfl ?_
                        refine Ef.allocA z41 ?_
                        intro g28_4_1 w28_4_1 hg28_4_1 b28_4_1 h28_4_1
                        have L54 := Ll2.trans h28_4_1
                        have b28_4_1 : Blk w28_4_1 g28_4_1 41 (adV noAd).toArray := b28_4_1
                        refine W.ef0 rfl rfl ?_
                        refine Ef.storeAll sz41 (by rfl) rfl rfl b28_4_1 (by simp only [List.size_toArray, adV_row.len]) (adV_row.one (tk.getD k noAd)) ?_
                        intro w28_5_1 b28_5_1 h28_5_1
                        have b28_5_1 : Blk w28_5_1 g28_4_1 41 (adV (tk.getD k noAd)).toArray := b28_5_1
                        have L55 : Le w w28_5_1 := L54.then_ h28_5_1 (fun q hq => by cases hq; exact Nat.le_trans Ll2.size hg28_4_1)
                        refine W.nil ?_
                        refine E.thenN ?_
                        refine WC.seq ?_
                        refine WC.seq ?_
                        refine WC.region ?_
                        refine W.any (.field0 fa41_0 rfl) rfl rfl rfl ?_
                        refine W.any (.field0 fa34_2 rfl) rfl rfl rfl ?_
                        refine W.rd (.loadB (v := .int .i64 ((tk.getD k noAd).e.c)) na3 rfl b28_5_1 rfl) rfl rfl rfl ?_
                        refine W.any (.field0 fa41_0 rfl) rfl rfl rfl ?_
                        refine W.any (.field0 fa34_2 rfl) rfl rfl rfl ?_
                        have f56 := ((f2_2.le h28_4_1).ch h28_5_1 (fun h => (show g28_4_1 ≠ g21_4 from by have := f2_2.lt; omega) (Option.some.inj h)))
                        refine W.rd (.loadB (v := .int .i64 (((adsB s).getD m noAd).e.c)) na3 rfl f56 rfl) rfl rfl rfl ?_
                        refine W.any (.eql rfl rfl) rfl rfl rfl ?_
                        by_cases q29_7 : ((tk.getD k noAd).e.c) = (((adsB s).getD m noAd).e.c)
                        · refine W.any (.dec (.move rfl) (decide_eq_true q29_7)) rfl rfl rfl ?_
                          refine W.rdg (Any.rd (.field0 fa41_0 rfl) _) rfl rfl rfl (rfl) rfl rfl ?_
                          refine W.rdg (Any.rd (.field0 fa34_0 rfl) _) rfl rfl rfl (rfl) rfl rfl ?_
                          refine W.rdg (.loadB (v := .int .i64 ((tk.getD k noAd).e.f)) na3 rfl b28_5_1 rfl) rfl rfl rfl (rfl) rfl rfl ?_
                          refine W.rdg (Any.rd (.field0 fa41_0 rfl) _) rfl rfl rfl (rfl) rfl rfl ?_
                          refine W.rdg (Any.rd (.field0 fa34_0 rfl) _) rfl rfl rfl (rfl) rfl rfl ?_
                          refine W.rdg (.loadB (v := .int .i64 (((adsB s).getD m noAd).e.f)) na3 rfl f56 rfl) rfl rfl rfl (rfl) rfl rfl ?_
                          refine W.rdg (Any.rd (.eql rfl rfl) _) rfl rfl rfl (rfl) rfl rfl ?_
                          refine W.any (.pickT rfl rfl rfl) rfl rfl rfl ?_
                          by_cases q29_16 : ((tk.getD k noAd).e.f) = (((adsB s).getD m noAd).e.f)
                          · refine W.any (.dec (.move rfl) (decide_eq_true q29_16)) rfl rfl rfl ?_
                            refine W.rdg (Any.rd (.field0 fa41_1 rfl) _) rfl rfl rfl (rfl) rfl rfl ?_
                            refine W.rdg (.loadB (v := .int .i64 ((tk.getD k noAd).no)) na3 rfl b28_5_1 rfl) rfl rfl rfl (rfl) rfl rfl ?_
                            refine W.rdg (Any.rd (.field0 fa41_1 rfl) _) rfl rfl rfl (rfl) rfl rfl ?_
                            refine W.rdg (.loadB (v := .int .i64 (((adsB s).getD m noAd).no)) na3 rfl f56 rfl) rfl rfl rfl (rfl) rfl rfl ?_
                            refine W.rdg (Any.rd (.dec (.gtr rfl rfl) (decide_eq_false (by have := hTI.no_newer a1 (getD_mem' (z := noAd) (show k < tk.length by omega)) (by assumption) (by assumption); omega))) _) rfl rfl rfl (rfl) rfl rfl ?_
                            refine W.any (.pickT rfl rfl rfl) rfl rfl rfl ?_
                            refine W.nil ?_
                            refine E.thenN ?_
                            refine WC.condF rfl ?_
                            refine WC.skip ?_
                            refine E.thenN ?_
                            refine WC.region ?_
                            refine W.any (.move rfl) rfl rfl rfl ?_
                            by_cases q31_1 : b = true
                            · refine W.any (.dec (.move rfl) (q31_1)) rfl rfl rfl ?_
                              refine W.skip rfl rfl rfl (rfl) rfl rfl ?_
                              refine W.skip rfl rfl rfl (rfl) rfl rfl ?_
                              refine W.skip rfl rfl rfl (rfl) rfl rfl ?_
                              refine W.any (.pickT rfl rfl rfl) rfl rfl rfl ?_
                              refine W.any (.assign rfl) rfl rfl rfl ?_
                              refine W.nil ?_
                              refine E.blkN ?_
                              refine E.thenN ?_
                              refine WC.region ?_
                              refine W.any (.move rfl) rfl rfl rfl ?_
                              refine W.any (.add rfl rfl (by omega)) rfl rfl rfl ?_
                              refine W.any (.assign rfl) rfl rfl rfl ?_
                              refine W.nil ?_
                              have f57 := ((f2_0.le h28_4_1).ch h28_5_1 (fun q hq => by cases hq; exact (fun he => by have := (f2_0.row he).2; omega)))
                              have f58 := ((f2_1.le h28_4_1).ch h28_5_1 (fun q hq => by cases hq; exact (fun he => by have := (f2_1.row he).2; omega)))
                              refine E.again (k + 1, true) (.cons rfl (.cons rfl (.cons rfl (.cons rfl (.cons rfl (.cons rfl (.cons rfl (.cons rfl (.nil _))))))))) ?_ ?_
                              · exact ⟨by omega, by rw [any_next (by omega), ← hwb]; simp [-List.getD_eq_getElem?_getD, q31_1], L55, by have := zl2; have := h28_4_1.size; have := h28_5_1.size; omega, f57, f58, f56⟩
                              · first | omega | (simp only []; omega)
                            · refine W.any (.dec (.move rfl) ((Bool.eq_false_iff.2 q31_1))) rfl rfl rfl ?_
                              refine W.rdg (.loadAll ag41 (by rfl) rfl b28_5_1) rfl rfl rfl (rfl) rfl rfl ?_
                              refine W.rdg (.loadAll ag41 (by rfl) rfl f56) rfl rfl rfl (rfl) rfl rfl ?_
                              refine W.rdg (Any.rd (.eqA eg41 rfl rfl (eqv_ad (d := 9996) _ _)) _) rfl rfl rfl (rfl) rfl rfl ?_
                              refine W.any (.pickF rfl rfl rfl) rfl rfl rfl ?_
                              refine W.any (.assign rfl) rfl rfl rfl ?_
                              refine W.nil ?_
                              refine E.blkN ?_
                              refine E.thenN ?_
                              refine WC.region ?_
                              refine W.any (.move rfl) rfl rfl rfl ?_
                              refine W.any (.add rfl rfl (by omega)) rfl rfl rfl ?_
                              refine W.any (.assign rfl) rfl rfl rfl ?_
                              refine W.nil ?_
                              have f59 := ((f2_0.le h28_4_1).ch h28_5_1 (fun q hq => by cases hq; exact (fun he => by have := (f2_0.row he).2; omega)))
                              have f60 := ((f2_1.le h28_4_1).ch h28_5_1 (fun q hq => by cases hq; exact (fun he => by have := (f2_1.row he).2; omega)))
                              refine E.again (k + 1, (decide ((tk.getD k noAd) = ((adsB s).getD m noAd)))) (.cons rfl (.cons rfl (.cons rfl (.cons rfl (.cons rfl (.cons rfl (.cons rfl (.cons rfl (.nil _))))))))) ?_ ?_
                              · exact ⟨by omega, by rw [any_next (by omega), ← hwb]; simp [-List.getD_eq_getElem?_getD, q31_1], L55, by have := zl2; have := h28_4_1.size; have := h28_5_1.size; omega, f59, f60, f56⟩
                              · first | omega | (simp only []; omega)
                          · refine W.any (.dec (.move rfl) (decide_eq_false q29_16)) rfl rfl rfl ?_
                            refine W.skip rfl rfl rfl (rfl) rfl rfl ?_
                            refine W.skip rfl rfl rfl (rfl) rfl rfl ?_
                            refine W.skip rfl rfl rfl (rfl) rfl rfl ?_
                            refine W.skip rfl rfl rfl (rfl) rfl rfl ?_
                            refine W.skip rfl rfl rfl (rfl) rfl rfl ?_
                            refine W.any (.pickF rfl rfl rfl) rfl rfl rfl ?_
                            refine W.nil ?_
                            refine E.thenN ?_
                            refine WC.condF rfl ?_
                            refine WC.skip ?_
                            refine E.thenN ?_
                            refine WC.region ?_
                            refine W.any (.move rfl) rfl rfl rfl ?_
                            by_cases q31_1 : b = true
                            · refine W.any (.dec (.move rfl) (q31_1)) rfl rfl rfl ?_
                              refine W.skip rfl rfl rfl (rfl) rfl rfl ?_
                              refine W.skip rfl rfl rfl (rfl) rfl rfl ?_
                              refine W.skip rfl rfl rfl (rfl) rfl rfl ?_
                              refine W.any (.pickT rfl rfl rfl) rfl rfl rfl ?_
                              refine W.any (.assign rfl) rfl rfl rfl ?_
                              refine W.nil ?_
                              refine E.blkN ?_
                              refine E.thenN ?_
                              refine WC.region ?_
                              refine W.any (.move rfl) rfl rfl rfl ?_
                              refine W.any (.add rfl rfl (by omega)) rfl rfl rfl ?_
                              refine W.any (.assign rfl) rfl rfl rfl ?_
                              refine W.nil ?_
                              have f61 := ((f2_0.le h28_4_1).ch h28_5_1 (fun q hq => by cases hq; exact (fun he => by have := (f2_0.row he).2; omega)))
                              have f62 := ((f2_1.le h28_4_1).ch h28_5_1 (fun q hq => by cases hq; exact (fun he => by have := (f2_1.row he).2; omega)))
                              refine E.again (k + 1, true) (.cons rfl (.cons rfl (.cons rfl (.cons rfl (.cons rfl (.cons rfl (.cons rfl (.cons rfl (.nil _))))))))) ?_ ?_
                              · exact ⟨by omega, by rw [any_next (by omega), ← hwb]; simp [-List.getD_eq_getElem?_getD, q31_1], L55, by have := zl2; have := h28_4_1.size; have := h28_5_1.size; omega, f61, f62, f56⟩
                              · first | omega | (simp only []; omega)
                            · refine W.any (.dec (.move rfl) ((Bool.eq_false_iff.2 q31_1))) rfl rfl rfl ?_
                              refine W.rdg (.loadAll ag41 (by rfl) rfl b28_5_1) rfl rfl rfl (rfl) rfl rfl ?_
                              refine W.rdg (.loadAll ag41 (by rfl) rfl f56) rfl rfl rfl (rfl) rfl rfl ?_
                              refine W.rdg (Any.rd (.eqA eg41 rfl rfl (eqv_ad (d := 9996) _ _)) _) rfl rfl rfl (rfl) rfl rfl ?_
                              refine W.any (.pickF rfl rfl rfl) rfl rfl rfl ?_
                              refine W.any (.assign rfl) rfl rfl rfl ?_
                              refine W.nil ?_
                              refine E.blkN ?_
                              refine E.thenN ?_
                              refine WC.region ?_
                              refine W.any (.move rfl) rfl rfl rfl ?_
                              refine W.any (.add rfl rfl (by omega)) rfl rfl rfl ?_
                              refine W.any (.assign rfl) rfl rfl rfl ?_
                              refine W.nil ?_
                              have f63 := ((f2_0.le h28_4_1).ch h28_5_1 (fun q hq => by cases hq; exact (fun he => by have := (f2_0.row he).2; omega)))
                              have f64 := ((f2_1.le h28_4_1).ch h28_5_1 (fun q hq => by cases hq; exact (fun he => by have := (f2_1.row he).2; omega)))
                              refine E.again (k + 1, (decide ((tk.getD k noAd) = ((adsB s).getD m noAd)))) (.cons rfl (.cons rfl (.cons rfl (.cons rfl (.cons rfl (.cons rfl (.cons rfl (.cons rfl (.nil _))))))))) ?_ ?_
                              · exact ⟨by omega, by rw [any_next (by omega), ← hwb]; simp [-List.getD_eq_getElem?_getD, q31_1], L55, by have := zl2; have := h28_4_1.size; have := h28_5_1.size; omega, f63, f64, f56⟩
                              · first | omega | (simp only []; omega)
                        · refine W.any (.dec (.move rfl) (decide_eq_false q29_7)) rfl rfl rfl ?_
                          refine W.skip rfl rfl rfl (rfl) rfl rfl ?_
                          refine W.skip rfl rfl rfl (rfl) rfl rfl ?_
                          refine W.skip rfl rfl rfl (rfl) rfl rfl ?_
                          refine W.skip rfl rfl rfl (rfl) rfl rfl ?_
                          refine W.skip rfl rfl rfl (rfl) rfl rfl ?_
                          refine W.skip rfl rfl rfl (rfl) rfl rfl ?_
                          refine W.skip rfl rfl rfl (rfl) rfl rfl ?_
                          refine W.any (.pickF rfl rfl rfl) rfl rfl rfl ?_
                          refine W.any (.move rfl) rfl rfl rfl ?_
                          refine W.skip rfl rfl rfl (rfl) rfl rfl ?_
                          refine W.skip rfl rfl rfl (rfl) rfl rfl ?_
                          refine W.skip rfl rfl rfl (rfl) rfl rfl ?_
                          refine W.skip rfl rfl rfl (rfl) rfl rfl ?_
                          refine W.skip rfl rfl rfl (rfl) rfl rfl ?_
                          refine W.any (.pickF rfl rfl rfl) rfl rfl rfl ?_
                          refine W.nil ?_
                          refine E.thenN ?_
                          refine WC.condF rfl ?_
                          refine WC.skip ?_
                          refine E.thenN ?_
                          refine WC.region ?_
                          refine W.any (.move rfl) rfl rfl rfl ?_
                          by_cases q31_1 : b = true
                          · refine W.any (.dec (.move rfl) (q31_1)) rfl rfl rfl ?_
                            refine W.skip rfl rfl rfl (rfl) rfl rfl ?_
                            refine W.skip rfl rfl rfl (rfl) rfl rfl ?_
                            refine W.skip rfl rfl rfl (rfl) rfl rfl ?_
                            refine W.any (.pickT rfl rfl rfl) rfl rfl rfl ?_
                            refine W.any (.assign rfl) rfl rfl rfl ?_
                            refine W.nil ?_
                            refine E.blkN ?_
                            refine E.thenN ?_
                            refine WC.region ?_
                            refine W.any (.move rfl) rfl rfl rfl ?_
                            refine W.any (.add rfl rfl (by omega)) rfl rfl rfl ?_
                            refine W.any (.assign rfl) rfl rfl rfl ?_
                            refine W.nil ?_
                            have f65 := ((f2_0.le h28_4_1).ch h28_5_1 (fun q hq => by cases hq; exact (fun he => by have := (f2_0.row he).2; omega)))
                            have f66 := ((f2_1.le h28_4_1).ch h28_5_1 (fun q hq => by cases hq; exact (fun he => by have := (f2_1.row he).2; omega)))
                            refine E.again (k + 1, true) (.cons rfl (.cons rfl (.cons rfl (.cons rfl (.cons rfl (.cons rfl (.cons rfl (.cons rfl (.nil _))))))))) ?_ ?_
                            · exact ⟨by omega, by rw [any_next (by omega), ← hwb]; simp [-List.getD_eq_getElem?_getD, q31_1], L55, by have := zl2; have := h28_4_1.size; have := h28_5_1.size; omega, f65, f66, f56⟩
                            · first | omega | (simp only []; omega)
                          · refine W.any (.dec (.move rfl) ((Bool.eq_false_iff.2 q31_1))) rfl rfl rfl ?_
                            refine W.rdg (.loadAll ag41 (by rfl) rfl b28_5_1) rfl rfl rfl (rfl) rfl rfl ?_
                            refine W.rdg (.loadAll ag41 (by rfl) rfl f56) rfl rfl rfl (rfl) rfl rfl ?_
                            refine W.rdg (Any.rd (.eqA eg41 rfl rfl (eqv_ad (d := 9996) _ _)) _) rfl rfl rfl (rfl) rfl rfl ?_
                            refine W.any (.pickF rfl rfl rfl) rfl rfl rfl ?_
                            refine W.any (.assign rfl) rfl rfl rfl ?_
                            refine W.nil ?_
                            refine E.blkN ?_
                            refine E.thenN ?_
                            refine WC.region ?_
                            refine W.any (.move rfl) rfl rfl rfl ?_
                            refine W.any (.add rfl rfl (by omega)) rfl rfl rfl ?_
                            refine W.any (.assign rfl) rfl rfl rfl ?_
                            refine W.nil ?_
                            have f67 := ((f2_0.le h28_4_1).ch h28_5_1 (fun q hq => by cases hq; exact (fun he => by have := (f2_0.row he).2; omega)))
                            have f68 := ((f2_1.le h28_4_1).ch h28_5_1 (fun q hq => by cases hq; exact (fun he => by have := (f2_1.row he).2; omega)))
                            refine E.again (k + 1, (decide ((tk.getD k noAd) = ((adsB s).getD m noAd)))) (.cons rfl (.cons rfl (.cons rfl (.cons rfl (.cons rfl (.cons rfl (.cons rfl (.cons rfl (.nil _))))))))) ?_ ?_
                            · exact ⟨by omega, by rw [any_next (by omega), ← hwb]; simp [-List.getD_eq_getElem?_getD, q31_1], L55, by have := zl2; have := h28_4_1.size; have := h28_5_1.size; omega, f67, f68, f56⟩
                            · first | omega | (simp only []; omega)
                      · refine WC.condN rfl (decide_eq_false c7) ?_
                        have hbt : b = true := by rw [hwb, List.take_of_length_le (by omega), List.any_eq_true]; exact ⟨_, hTI.mem _ _ a1, by simp⟩
                        refine WC.exit ?_
                        refine E.thenX ?_
                        refine E.thenX ?_
                        refine E.blkH ?_
                        refine E.thenN ?_
                        refine WC.seq ?_
                        refine WC.region ?_
                        refine W.any (.move rfl) rfl rfl rfl ?_
                        refine W.any (.dec (.not rfl) (congrArg not hbt)) rfl rfl rfl ?_
                        refine W.nil ?_
                        refine E.thenN ?_
                        refine WC.condF rfl ?_
                        refine WC.skip ?_
                        refine E.blkN ?_
                        refine E.thenN ?_
                        refine WC.region ?_
                        refine W.any (.move rfl) rfl rfl rfl ?_
                        refine W.any (.add rfl rfl (by omega)) rfl rfl rfl ?_
                        refine W.any (.assign rfl) rfl rfl rfl ?_
                        refine W.nil ?_
                        refine E.again (m + 1) (.cons rfl (.cons rfl (.cons rfl (.cons rfl (.cons rfl (.nil _)))))) ?_ ?_
                        · exact ⟨by omega, Ll2, by have := zl1; have := zl0; have := zl2; have := h1_0.size; have := h4_1.size; have := h17_1.size; have := h21_4.size; have := h21_5.size; have := d22.size; have := h22_9.size; have := h22_20.size; omega, f2_0, f2_1⟩
                        · first | omega | (simp only []; omega)
                · refine G.anyg rfl rfl (.dec (.move rfl) (decide_eq_false q22_26)) rfl rfl rfl (rfl) rfl rfl ?_
                  refine G.skip rfl rfl rfl rfl (rfl) rfl rfl ?_
                  refine G.skip rfl rfl rfl rfl (rfl) rfl rfl ?_
                  refine G.skip rfl rfl rfl rfl (rfl) rfl rfl ?_
                  refine G.skip rfl rfl rfl rfl (rfl) rfl rfl ?_
                  refine G.skip rfl rfl rfl rfl (rfl) rfl rfl ?_
                  refine G.skip rfl rfl rfl rfl (rfl) rfl rfl ?_
                  refine G.skip rfl rfl rfl rfl (rfl) rfl rfl ?_
                  refine G.skip rfl rfl rfl rfl (rfl) rfl rfl ?_
                  refine G.skip rfl rfl rfl rfl (rfl) rfl rfl ?_
                  refine G.skip rfl rfl rfl rfl (rfl) rfl rfl ?_
                  refine G.skip rfl rfl rfl rfl (rfl) rfl rfl ?_
                  refine G.skip rfl rfl rfl rfl (rfl) rfl rfl ?_
                  refine G.skipu rfl rfl rfl rfl rfl rfl ?_
                  refine G.skipu rfl rfl rfl rfl rfl rfl ?_
                  refine G.skipu rfl rfl rfl rfl rfl rfl ?_
                  refine G.skipu rfl rfl rfl rfl rfl rfl ?_
                  refine G.skipu rfl rfl rfl rfl rfl rfl ?_
                  refine G.skipu rfl rfl rfl rfl rfl rfl ?_
                  refine G.skipu rfl rfl rfl rfl rfl rfl ?_
                  refine G.skipu rfl rfl rfl rfl rfl rfl ?_
                  refine G.skipu rfl rfl rfl rfl rfl rfl ?_
                  refine G.skipu rfl rfl rfl rfl rfl rfl ?_
                  refine G.skipu rfl rfl rfl rfl rfl rfl ?_
                  refine G.skipu rfl rfl rfl rfl rfl rfl ?_
                  refine G.skipu rfl rfl rfl rfl rfl rfl ?_
                  refine G.skipu rfl rfl rfl rfl rfl rfl ?_
                  refine G.skipu rfl rfl rfl rfl rfl rfl ?_
                  refine G.skipu rfl rfl rfl rfl rfl rfl ?_
                  refine G.skipu rfl rfl rfl rfl rfl rfl ?_
                  refine G.skipu rfl rfl rfl rfl rfl rfl ?_
                  refine G.skipu rfl rfl rfl rfl rfl rfl ?_
                  refine G.skipu rfl rfl rfl rfl rfl rfl ?_
                  refine G.skipu rfl rfl rfl rfl rfl rfl ?_
                  refine G.skipu rfl rfl rfl rfl rfl rfl ?_
                  refine G.skipu rfl rfl rfl rfl rfl rfl ?_
                  refine G.skipu rfl rfl rfl rfl rfl rfl ?_
                  refine G.skip rfl rfl rfl rfl (rfl) rfl rfl ?_
                  refine G.anyg rfl rfl (.pickF rfl rfl rfl) rfl rfl rfl (rfl) rfl rfl ?_
                  refine G.any rfl rfl (.pickF rfl rfl rfl) rfl rfl rfl ?_
                  refine G.nil ?_
                  refine E.thenN ?_
                  refine WC.condF rfl ?_
                  refine WC.skip ?_
                  refine E.thenN ?_
                  refine WC.seq ?_
                  refine WC.region ?_
                  refine W.any (.assign rfl) rfl rfl rfl ?_
                  refine W.nil ?_
                  refine E.thenN ?_
                  refine WC.seq ?_
                  refine WC.seq ?_
                  refine WC.region ?_
                  refine W.any (.assign rfl) rfl rfl rfl ?_
                  refine W.nil ?_
                  refine E.thenN ?_
                  refine WC.block ?_
                  have f69 := (((f1_0.le h21_4).ch h21_5 (fun q hq => by cases hq; exact (fun he => by have := (f1_0.row he).2; omega))).le (d22.trans (h22_9.trans h22_20)))
                  have f70 := (((f1_1.le h21_4).ch h21_5 (fun q hq => by cases hq; exact (fun he => by have := (f1_1.row he).2; omega))).le (d22.trans (h22_9.trans h22_20)))
                  have f71 := (f33.le h22_20)
                  refine WC.loop (ι := Nat × Bool) (fun ⟨k, b⟩ => [(0, .slice Ak nk ck), (5, .bool true), (7, .slice Ao q co), (11, .slice A17_1 ((adsB s).length) c17_1), (12, .int .i64 (((m : Nat) : Int))), (13, .pointer (some ⟨g21_4, 0, none⟩)), (14, .bool (b)), (15, .int .i64 (((k : Nat) : Int)))]) (fun ⟨k, b⟩ wl2 => (k ≤ q) ∧ (b = ((tk.take k).any fun x => decide (x = ((adsB s).getD m noAd)))) ∧ Le w wl2 ∧ w22_20.heap.size ≤ wl2.heap.size ∧ OVec wl2 w4_1.heap.size 41 adV 13 Ao q co tk ∧ OVec wl2 wl0.heap.size 41 adV 13 A17_1 ((adsB s).length) c17_1 (adsB s) ∧ Blk wl2 g21_4 41 (adV ((adsB s).getD m noAd)).toArray) (fun ⟨k, b⟩ => q - k) (0, false) ?_ ?_ ?_
                  · exact .cons rfl (.cons rfl (.cons rfl (.cons rfl (.cons rfl (.cons rfl (.cons rfl (.cons rfl (.nil _))))))))
                  · exact ⟨Nat.zero_le _, by simp, L34, Nat.le_refl _, f69, f70, f71⟩
                  · rintro ⟨k, b⟩ wl2 ⟨hk, hwb, Ll2, zl2, f2_0, f2_1, f2_2⟩
                    have lb2_4 : w4_1.heap.size ≤ wl2.heap.size := Nat.le_trans lb1_4 (by have := h21_4.size; have := h21_5.size; have := d22.size; have := h22_9.size; have := h22_20.size; omega)
                    have lb2_9 : wl0.heap.size ≤ wl2.heap.size := Nat.le_trans lb1_9 (by have := h21_4.size; have := h21_5.size; have := d22.size; have := h22_9.size; have := h22_20.size; omega)
                    refine WC.seq ?_
                    refine WC.seq ?_
                    refine WC.region ?_
                    refine W.any (.move rfl) rfl rfl rfl ?_
                    refine W.any (.move rfl) rfl rfl rfl ?_
                    refine W.rd (.len Try.underlying27 rfl) rfl rfl rfl ?_
                    refine W.any (.lss rfl rfl) rfl rfl rfl ?_
                    refine W.nil ?_
                    refine E.thenN ?_
                    by_cases c7 : ((k : Nat) : Int) < ((q : Nat) : Int)
                    · refine WC.condY rfl (decide_eq_true c7) ?_
                      refine WC.skip ?_
                      refine E.thenN ?_
                      refine WC.seq ?_
                      refine WC.block ?_
                      refine WC.seq ?_
                      refine WC.region ?_
                      refine W.any (.move rfl) rfl rfl rfl ?_
                      refine W.any (.move rfl) rfl rfl rfl ?_
                      refine W.any (.idxS (k) Try.underlying27 sz41 rfl rfl (f0_1.vec.isSome adV_row (by omega)) (rfl) (by omega)) rfl rfl rfl ?_
                      refine W.rd (.vload ag41 rfl f2_0.vec adV_row (getS tk noAd (by first | omega | (simp only [List.length_cons, List.length_nil]; omega)))) rfl rfl rfl ?_
                      refine W.ef rfl rfl rfl ?_
                      refine Ef.allocA z41 ?_
                      intro g28_4_2 w28_4_2 hg28_4_2 b28_4_2 h28_4_2
                      have L72 := Ll2.trans h28_4_2
                      have b28_4_2 : Blk w28_4_2 g28_4_2 41 (adV noAd).toArray := b28_4_2
                      refine W.ef0 rfl rfl ?_
                      refine Ef.storeAll sz41 (by rfl) rfl rfl b28_4_2 (by simp only [List.size_toArray, adV_row.len]) (adV_row.one (tk.getD k noAd)) ?_
                      intro w28_5_2 b28_5_2 h28_5_2
                      have b28_5_2 : Blk w28_5_2 g28_4_2 41 (adV (tk.getD k noAd)).toArray := b28_5_2
                      have L73 : Le w w28_5_2 := L72.then_ h28_5_2 (fun q hq => by cases hq; exact Nat.le_trans Ll2.size hg28_4_2)
                      refine W.nil ?_
                      refine E.thenN ?_
                      refine WC.seq ?_
                      refine WC.seq ?_
                      refine WC.region ?_
                      refine W.any (.field0 fa41_0 rfl) rfl rfl rfl ?_
                      refine W.any (.field0 fa34_2 rfl) rfl rfl rfl ?_
                      refine W.rd (.loadB (v := .int .i64 ((tk.getD k noAd).e.c)) na3 rfl b28_5_2 rfl) rfl rfl rfl ?_
                      refine W.any (.field0 fa41_0 rfl) rfl rfl rfl ?_
                      refine W.any (.field0 fa34_2 rfl) rfl rfl rfl ?_
                      have f74 := ((f2_2.le h28_4_2).ch h28_5_2 (fun h => (show g28_4_2 ≠ g21_4 from by have := f2_2.lt; omega) (Option.some.inj h)))
                      refine W.rd (.loadB (v := .int .i64 (((adsB s).getD m noAd).e.c)) na3 rfl f74 rfl) rfl rfl rfl ?_
                      refine W.any (.eql rfl rfl) rfl rfl rfl ?_
                      by_cases q29_7 : ((tk.getD k noAd).e.c) = (((adsB s).getD m noAd).e.c)
                      · refine W.any (.dec (.move rfl) (decide_eq_true q29_7)) rfl rfl rfl ?_
                        refine W.rdg (Any.rd (.field0 fa41_0 rfl) _) rfl rfl rfl (rfl) rfl rfl ?_
                        refine W.rdg (Any.rd (.field0 fa34_0 rfl) _) rfl rfl rfl (rfl) rfl rfl ?_
                        refine W.rdg (.loadB (v := .int .i64 ((tk.getD k noAd).e.f)) na3 rfl b28_5_2 rfl) rfl rfl rfl (rfl) rfl rfl ?_
                        refine W.rdg (Any.rd (.field0 fa41_0 rfl) _) rfl rfl rfl (rfl) rfl rfl ?_
                        refine W.rdg (Any.rd (.field0 fa34_0 rfl) _) rfl rfl rfl (rfl) rfl rfl ?_
                        refine W.rdg (.loadB (v := .int .i64 (((adsB s).getD m noAd).e.f)) na3 rfl f74 rfl) rfl rfl rfl (rfl) rfl rfl ?_
                        refine W.rdg (Any.rd (.eql rfl rfl) _) rfl rfl rfl (rfl) rfl rfl ?_
                        refine W.any (.pickT rfl rfl rfl) rfl rfl rfl ?_
                        by_cases q29_16 : ((tk.getD k noAd).e.f) = (((adsB s).getD m noAd).e.f)
                        · refine W.any (.dec (.move rfl) (decide_eq_true q29_16)) rfl rfl rfl ?_
                          refine W.rdg (Any.rd (.field0 fa41_1 rfl) _) rfl rfl rfl (rfl) rfl rfl ?_
                          refine W.rdg (.loadB (v := .int .i64 ((tk.getD k noAd).no)) na3 rfl b28_5_2 rfl) rfl rfl rfl (rfl) rfl rfl ?_
                          refine W.rdg (Any.rd (.field0 fa41_1 rfl) _) rfl rfl rfl (rfl) rfl rfl ?_
                          refine W.rdg (.loadB (v := .int .i64 (((adsB s).getD m noAd).no)) na3 rfl f74 rfl) rfl rfl rfl (rfl) rfl rfl ?_
                          refine W.rdg (Any.rd (.dec (.gtr rfl rfl) (decide_eq_false (by have := hTI.no_newer a1 (getD_mem' (z := noAd) (show k < tk.length by omega)) (by assumption) (by assumption); omega))) _) rfl rfl rfl (rfl) rfl rfl ?_
                          refine W.any (.pickT rfl rfl rfl) rfl rfl rfl ?_
                          refine W.nil ?_
                          refine E.thenN ?_
                          refine WC.condF rfl ?_
                          refine WC.skip ?_
                          refine E.thenN ?_
                          refine WC.region ?_
                          refine W.any (.move rfl) rfl rfl rfl ?_
                          by_cases q31_1 : b = true
                          · refine W.any (.dec (.move rfl) (q31_1)) rfl rfl rfl ?_
                            refine W.skip rfl rfl rfl (rfl) rfl rfl ?_
                            refine W.skip rfl rfl rfl (rfl) rfl rfl ?_
                            refine W.skip rfl rfl rfl (rfl) rfl rfl ?_
                            refine W.any (.pickT rfl rfl rfl) rfl rfl rfl ?_
                            refine W.any (.assign rfl) rfl rfl rfl ?_
                            refine W.nil ?_
                            refine E.blkN ?_
                            refine E.thenN ?_
                            refine WC.region ?_
                            refine W.any (.move rfl) rfl rfl rfl ?_
                            refine W.any (.add rfl rfl (by omega)) rfl rfl rfl ?_
                            refine W.any (.assign rfl) rfl rfl rfl ?_
                            refine W.nil ?_
                            have f75 := ((f2_0.le h28_4_2).ch h28_5_2 (fun q hq => by cases hq; exact (fun he => by have := (f2_0.row he).2; omega)))
                            have f76 := ((f2_1.le h28_4_2).ch h28_5_2 (fun q hq => by cases hq; exact (fun he => by have := (f2_1.row he).2; omega)))
                            refine E.again (k + 1, true) (.cons rfl (.cons rfl (.cons rfl (.cons rfl (.cons rfl (.cons rfl (.cons rfl (.cons rfl (.nil _))))))))) ?_ ?_
                            · exact ⟨by omega, by rw [any_next (by omega), ← hwb]; simp [-List.getD_eq_getElem?_getD, q31_1], L73, by have := zl2; have := h28_4_2.size; have := h28_5_2.size; omega, f75, f76, f74⟩
                            · first | omega | (simp only []; omega)
                          · refine W.any (.dec (.move rfl) ((Bool.eq_false_iff.2 q31_1))) rfl rfl rfl ?_
                            refine W.rdg (.loadAll ag41 (by rfl) rfl b28_5_2) rfl rfl rfl (rfl) rfl rfl ?_
                            refine W.rdg (.loadAll ag41 (by rfl) rfl f74) rfl rfl rfl (rfl) rfl rfl ?_
                            refine W.rdg (Any.rd (.eqA eg41 rfl rfl (eqv_ad (d := 9996) _ _)) _) rfl rfl rfl (rfl) rfl rfl ?_
                            refine W.any (.pickF rfl rfl rfl) rfl rfl rfl ?_
                            refine W.any (.assign rfl) rfl rfl rfl ?_
                            refine W.nil ?_
                            refine E.blkN ?_
                            refine E.thenN ?_
                            refine WC.region ?_
                            refine W.any (.move rfl) rfl rfl rfl ?_
                            refine W.any (.add rfl rfl (by omega)) rfl rfl rfl ?_
                            refine W.any (.assign rfl) rfl rfl rfl ?_
                            refine W.nil ?_
                            have f77 := ((f2_0.le h28_4_2).ch h28_5_2 (fun q hq => by cases hq; exact (fun he => by have := (f2_0.row he).2; omega)))
                            have f78 := ((f2_1.le h28_4_2).ch h28_5_2 (fun q hq => by cases hq; exact (fun he => by have := (f2_1.row he).2; omega)))
                            refine E.again (k + 1, (decide ((tk.getD k noAd) = ((adsB s).getD m noAd)))) (.cons rfl (.cons rfl (.cons rfl (.cons rfl (.cons rfl (.cons rfl (.cons rfl (.cons rfl (.nil _))))))))) ?_ ?_
                            · exact ⟨by omega, by rw [any_next (by omega), ← hwb]; simp [-List.getD_eq_getElem?_getD, q31_1], L73, by have := zl2; have := h28_4_2.size; have := h28_5_2.size; omega, f77, f78, f74⟩
                            · first | omega | (simp only []; omega)
                        · refine W.any (.dec (.move rfl) (decide_eq_false q29_16)) rfl rfl rfl ?_
                          refine W.skip rfl rfl rfl (rfl) rfl rfl ?_
                          refine W.skip rfl rfl rfl (rfl) rfl rfl ?_
                          refine W.skip rfl rfl rfl (rfl) rfl rfl ?_
                          refine W.skip rfl rfl rfl (rfl) rfl rfl ?_
                          refine W.skip rfl rfl rfl (rfl) rfl rfl ?_
                          refine W.any (.pickF rfl rfl rfl) rfl rfl rfl ?_
                          refine W.nil ?_
                          refine E.thenN ?_
                          refine WC.condF rfl ?_
                          refine WC.skip ?_
                          refine E.thenN ?_
                          refine WC.region ?_
                          refine W.any (.move rfl) rfl rfl rfl ?_
                          by_cases q31_1 : b = true
                          · refine W.any (.dec (.move rfl) (q31_1)) rfl rfl rfl ?_
                            refine W.skip rfl rfl rfl (rfl) rfl rfl ?_
                            refine W.skip rfl rfl rfl (rfl) rfl rfl ?_
                            refine W.skip rfl rfl rfl (rfl) rfl rfl ?_
                            refine W.any (.pickT rfl rfl rfl) rfl rfl rfl ?_
                            refine W.any (.assign rfl) rfl rfl rfl ?_
                            refine W.nil ?_
                            refine E.blkN ?_
                            refine E.thenN ?_
                            refine WC.region ?_
                            refine W.any (.move rfl) rfl rfl rfl ?_
                            refine W.any (.add rfl rfl (by omega)) rfl rfl rfl ?_
                            refine W.any (.assign rfl) rfl rfl rfl ?_
                            refine W.nil ?_
                            have f79 := ((f2_0.le h28_4_2).ch h28_5_2 (fun q hq => by cases hq; exact (fun he => by have := (f2_0.row he).2; omega)))
                            have f80 := ((f2_1.le h28_4_2).ch h28_5_2 (fun q hq => by cases hq; exact (fun he => by have := (f2_1.row he).2; omega)))
                            refine E.again (k + 1, true) (.cons rfl (.cons rfl (.cons rfl (.cons rfl (.cons rfl (.cons rfl (.cons rfl (.cons rfl (.nil _))))))))) ?_ ?_
                            · exact ⟨by omega, by rw [any_next (by omega), ← hwb]; simp [-List.getD_eq_getElem?_getD, q31_1], L73, by have := zl2; have := h28_4_2.size; have := h28_5_2.size; omega, f79, f80, f74⟩
                            · first | omega | (simp only []; omega)
                          · refine W.any (.dec (.move rfl) ((Bool.eq_false_iff.2 q31_1))) rfl rfl rfl ?_
                            refine W.rdg (.loadAll ag41 (by rfl) rfl b28_5_2) rfl rfl rfl (rfl) rfl rfl ?_
                            refine W.rdg (.loadAll ag41 (by rfl) rfl f74) rfl rfl rfl (rfl) rfl rfl ?_
                            refine W.rdg (Any.rd (.eqA eg41 rfl rfl (eqv_ad (d := 9996) _ _)) _) rfl rfl rfl (rfl) rfl rfl ?_
                            refine W.any (.pickF rfl rfl rfl) rfl rfl rfl ?_
                            refine W.any (.assign rfl) rfl rfl rfl ?_
                            refine W.nil ?_
                            refine E.blkN ?_
                            refine E.thenN ?_
                            refine WC.region ?_
                            refine W.any (.move rfl) rfl rfl rfl ?_
                            refine W.any (.add rfl rfl (by omega)) rfl rfl rfl ?_
                            refine W.any (.assign rfl) rfl rfl rfl ?_
                            refine W.nil ?_
                            have f81 := ((f2_0.le h28_4_2).ch h28_5_2 (fun q hq => by cases hq; exact (fun he => by have := (f2_0.row he).2; omega)))
                            have f82 := ((f2_1.le h28_4_2).ch h28_5_2 (fun q hq => by cases hq; exact (fun he => by have := (f2_1.row he).2; omega)))
                            refine E.again (k + 1, (decide ((tk.getD k noAd) = ((adsB s).getD m noAd)))) (.cons rfl (.cons rfl (.cons rfl (.cons rfl (.cons rfl (.cons rfl (.cons rfl (.cons rfl (.nil _))))))))) ?_ ?_
                            · exact ⟨by omega, by rw [any_next (by omega), ← hwb]; simp [-List.getD_eq_getElem?_getD, q31_1], L73, by have := zl2; have := h28_4_2.size; have := h28_5_2.size; omega, f81, f82, f74⟩
                            · first | omega | (simp only []; omega)
                      · refine W.any (.dec (.move rfl) (decide_eq_false q29_7)) rfl rfl rfl ?_
                        refine W.skip rfl rfl rfl (rfl) rfl rfl ?_
                        refine W.skip rfl rfl rfl (rfl) rfl rfl ?_
                        refine W.skip rfl rfl rfl (rfl) rfl rfl ?_
                        refine W.skip rfl rfl rfl (rfl) rfl rfl ?_
                        refine W.skip rfl rfl rfl (rfl) rfl rfl ?_
                        refine W.skip rfl rfl rfl (rfl) rfl rfl ?_
                        refine W.skip rfl rfl rfl (rfl) rfl rfl ?_
                        refine W.any (.pickF rfl rfl rfl) rfl rfl rfl ?_
                        refine W.any (.move rfl) rfl rfl rfl ?_
                        refine W.skip rfl rfl rfl (rfl) rfl rfl ?_
                        refine W.skip rfl rfl rfl (rfl) rfl rfl ?_
                        refine W.skip rfl rfl rfl (rfl) rfl rfl ?_
                        refine W.skip rfl rfl rfl (rfl) rfl rfl ?_
                        refine W.skip rfl rfl rfl (rfl) rfl rfl ?_
                        refine W.any (.pickF rfl rfl rfl) rfl rfl rfl ?_
                        refine W.nil ?_
                        refine E.thenN ?_
                        refine WC.condF rfl ?_
                        refine WC.skip ?_
                        refine E.thenN ?_
                        refine WC.region ?_
                        refine W.any (.move rfl) rfl rfl rfl ?_
                        by_cases q31_1 : b = true
                        · refine W.any (.dec (.move rfl) (q31_1)) rfl rfl rfl ?_
                          refine W.skip rfl rfl rfl (rfl) rfl rfl ?_
                          refine W.skip rfl rfl rfl (rfl) rfl rfl ?_
                          refine W.skip rfl rfl rfl (rfl) rfl rfl ?_
                          refine W.any (.pickT rfl rfl rfl) rfl rfl rfl ?_
                          refine W.any (.assign rfl) rfl rfl rfl ?_
                          refine W.nil ?_
                          refine E.blkN ?_
                          refine E.thenN ?_
                          refine WC.region ?_
                          refine W.any (.move rfl) rfl rfl rfl ?_
                          refine W.any (.add rfl rfl (by omega)) rfl rfl rfl ?_
                          refine W.any (.assign rfl) rfl rfl rfl ?_
                          refine W.nil ?_
                          have f83 := ((f2_0.le h28_4_2).ch h28_5_2 (fun q hq => by cases hq; exact (fun he => by have := (f2_0.row he).2; omega)))
                          have f84 := ((f2_1.le h28_4_2).ch h28_5_2 (fun q hq => by cases hq; exact (fun he => by have := (f2_1.row he).2; omega)))
                          refine E.again (k + 1, true) (.cons rfl (.cons rfl (.cons rfl (.cons rfl (.cons rfl (.cons rfl (.cons rfl (.cons rfl (.nil _))))))))) ?_ ?_
                          · exact ⟨by omega, by rw [any_next (by omega), ← hwb]; simp [-List.getD_eq_getElem?_getD, q31_1], L73, by have := zl2; have := h28_4_2.size; have := h28_5_2.size; omega, f83, f84, f74⟩
                          · first | omega | (simp only []; omega)
                        · refine W.any (.dec (.move rfl) ((Bool.eq_false_iff.2 q31_1))) rfl rfl rfl ?_
                          refine W.rdg (.loadAll ag41 (by rfl) rfl b28_5_2) rfl rfl rfl (rfl) rfl rfl ?_
                          refine W.rdg (.loadAll ag41 (by rfl) rfl f74) rfl rfl rfl (rfl) rfl rfl ?_
                          refine W.rdg (Any.rd (.eqA eg41 rfl rfl (eqv_ad (d := 9996) _ _)) _) rfl rfl rfl (rfl) rfl rfl ?_
                          refine W.any (.pickF rfl rfl rfl) rfl rfl rfl ?_
                          refine W.any (.assign rfl) rfl rfl rfl ?_
                          refine W.nil ?_
                          refine E.blkN ?_
                          refine E.thenN ?_
                          refine WC.region ?_
                          refine W.any (.move rfl) rfl rfl rfl ?_
                          refine W.any (.add rfl rfl (by omega)) rfl rfl rfl ?_
                          refine W.any (.assign rfl) rfl rfl rfl ?_
                          refine W.nil ?_
                          have f85 := ((f2_0.le h28_4_2).ch h28_5_2 (fun q hq => by cases hq; exact (fun he => by have := (f2_0.row he).2; omega)))
                          have f86 := ((f2_1.le h28_4_2).ch h28_5_2 (fun q hq => by cases hq; exact (fun he => by have := (f2_1.row he).2; omega)))
                          refine E.again (k + 1, (decide ((tk.getD k noAd) = ((adsB s).getD m noAd)))) (.cons rfl (.cons rfl (.cons rfl (.cons rfl (.cons rfl (.cons rfl (.cons rfl (.cons rfl (.nil _))))))))) ?_ ?_
                          · exact ⟨by omega, by rw [any_next (by omega), ← hwb]; simp [-List.getD_eq_getElem?_getD, q31_1], L73, by have := zl2; have := h28_4_2.size; have := h28_5_2.size; omega, f85, f86, f74⟩
                          · first | omega | (simp only []; omega)
                    · refine WC.condN rfl (decide_eq_false c7) ?_
                      have hbt : b = true := by rw [hwb, List.take_of_length_le (by omega), List.any_eq_true]; exact ⟨_, hTI.mem _ _ a1, by simp⟩
                      refine WC.exit ?_
                      refine E.thenX ?_
                      refine E.thenX ?_
                      refine E.blkH ?_
                      refine E.thenN ?_
                      refine WC.seq ?_
                      refine WC.region ?_
                      refine W.any (.move rfl) rfl rfl rfl ?_
                      refine W.any (.dec (.not rfl) (congrArg not hbt)) rfl rfl rfl ?_
                      refine W.nil ?_
                      refine E.thenN ?_
                      refine WC.condF rfl ?_
                      refine WC.skip ?_
                      refine E.blkN ?_
                      refine E.thenN ?_
                      refine WC.region ?_
                      refine W.any (.move rfl) rfl rfl rfl ?_
                      refine W.any (.add rfl rfl (by omega)) rfl rfl rfl ?_
                      refine W.any (.assign rfl) rfl rfl rfl ?_
                      refine W.nil ?_
                      refine E.again (m + 1) (.cons rfl (.cons rfl (.cons rfl (.cons rfl (.cons rfl (.nil _)))))) ?_ ?_
                      · exact ⟨by omega, Ll2, by have := zl1; have := zl0; have := zl2; have := h1_0.size; have := h4_1.size; have := h17_1.size; have := h21_4.size; have := h21_5.size; have := d22.size; have := h22_9.size; have := h22_20.size; omega, f2_0, f2_1⟩
                      · first | omega | (simp only []; omega)
              · refine WC.condN rfl (decide_eq_false c5) ?_
                refine WC.exit ?_
                refine E.thenX ?_
                refine E.thenX ?_
                refine E.blkH ?_
                refine E.thenN ?_
                refine WC.seq ?_
                refine WC.region ?_
                refine W.any (.move rfl) rfl rfl rfl ?_
                refine W.any (.assign rfl) rfl rfl rfl ?_
                refine W.nil ?_
                refine E.thenN ?_
                refine WC.ret ?_
                refine E.retG1 rfl rfl ?_
                exact ⟨rfl, Ll1⟩
      · refine W.ef rfl rfl rfl ?_
        refine Ef.call go8 rfl rfl (bnew_none w1_0 (hK.le L1) (by omega)) ?_
        rintro _ w4_1_1 ⟨rfl, h4_1_1⟩
        refine ⟨_, rfl, ?_⟩
        have L87 := L1.trans h4_1_1
        refine W.any (.assign rfl) rfl rfl rfl ?_
        refine W.nil ?_
        refine E.thenN ?_
        refine WC.seq ?_
        refine WC.seq ?_
        refine WC.region ?_
        refine W.any (.move rfl) rfl rfl rfl ?_
        refine W.any (.dec (.isNilP (by kernel_rfl) rfl) rfl) rfl rfl rfl ?_
        refine W.nil ?_
        refine E.thenN ?_
        refine WC.condT rfl ?_
        refine WC.seq ?_
        refine WC.region ?_
        refine W.any (.move rfl) rfl rfl rfl ?_
        refine W.any (.move rfl) rfl rfl rfl ?_
        refine W.rdg (Any.rd (.move rfl) _) rfl rfl rfl (rfl) rfl rfl ?_
        refine W.rdg (.len Try.underlying22 rfl) rfl rfl rfl (rfl) rfl rfl ?_
        refine W.rdg (Any.rd (.dec (.gtr rfl rfl) (decide_eq_true (by omega))) _) rfl rfl rfl (rfl) rfl rfl ?_
        refine W.any (.pickT rfl rfl rfl) rfl rfl rfl ?_
        refine W.any (.assign rfl) rfl rfl rfl ?_
        refine W.nil ?_
        refine E.thenN ?_
        refine WC.ret ?_
        refine E.thenR ?_
        refine E.retG1 rfl rfl ?_
        exact ⟨rfl, L87⟩
end Go.Proofs.Ytbpfhenbcgjpcaa

