/- GraphAds: for every input the law answers true and leaves its arguments as they were. -/
import Derived.Test.YtgpdfkplkaojcaaGreatGraphAdsN
import Derived.OrdersHeld
import Derived.WalkKit
import Derived.Deep.AppendSrc
import Derived.Deep.MidRow
import Derived.Laws.OwnMore
import Derived.WalkSpells
import Derived.Lib.ConvBytes
import Derived.Lib.AppendZerosOnto
import Derived.Laws.StructEq
import Derived.Maps.RangeRun
import Derived.Laws.Pointers
import Derived.Test.YtgpdfkplkaojcaaGreatProg
import Derived.KernelRfl
import Derived.Lib.Mul64
import Derived.Shelf.SlSortCmp.NoneTotal
import Derived.Lib.QuietBelow
import Derived.Ground.SlsfProg
import Derived.ProofKit
import Derived.OpenShut
import Derived.ShutString
import Derived.ChangeOld
import Derived.Below
import Derived.Deep.Slices
namespace Go.Sx
open Go Go.ChangeShapes Go.WideShapes Go.Deep
set_option linter.unusedVariables false
variable {H : Type} {enc : TypeId × Value → H} {P : Program} {w : World} {base : Nat} {spare : Nat → Bool} {held : Bool}

theorem flatten_get {α : Type} {k : Nat} {f : α → List Value} : ∀ (qs : List α), (∀ q ∈ qs, (f q).length = k) → ∀ (j : Nat) (u : Value), ((qs.map f).flatten)[j]? = some u → 0 < k ∧ ∃ q, qs[j / k]? = some q ∧ (f q)[j % k]? = some u
  | [], _, j, u, h => by simp at h
  | q :: qs, hk, j, u, h => by
    have hq := hk q (by simp)
    simp only [List.map_cons, List.flatten_cons] at h
    by_cases hj : j < k
    · rw [List.getElem?_append_left (by omega)] at h
      exact ⟨by omega, q, by simp [Nat.div_eq_of_lt hj], by rw [Nat.mod_eq_of_lt hj]; exact h⟩
    · rw [List.getElem?_append_right (by omega), hq] at h
      obtain ⟨hp, r, h1, h2⟩ := flatten_get qs (fun q hq => hk q (by simp [hq])) (j - k) u h
      have hd : j / k = (j - k) / k + 1 := by rw [Nat.div_eq_sub_div hp (by omega)]
      have hm : j % k = (j - k) % k := Nat.mod_eq_sub_mod (by omega)
      exact ⟨hp, r, by rw [hd]; simpa using h1, by rw [hm]; exact h2⟩
theorem flatten_length {α : Type} {k : Nat} {f : α → List Value} : ∀ (qs : List α), (∀ q ∈ qs, (f q).length = k) → ((qs.map f).flatten).length = qs.length * k
  | [], _ => by simp
  | q :: qs, hk => by
    have := flatten_length qs (fun q hq => hk q (by simp [hq]))
    simp only [List.map_cons, List.flatten_cons, List.length_append, List.length_cons, this, hk q (by simp)]
    rw [Nat.add_mul, Nat.one_mul, Nat.add_comm]

/-- A slice of rows opened: what is known of one row is known of all. -/
theorem open_rows {α : Type} [Inhabited α] {f : α → List Value} {good : α → Prop} {t e : TypeId} {k : Nat} {r : Reach} {b0 : Nat} {v : Value} {d : DataW H} {ps : List MemPlace}
    (ht : P.underlying t = some (.slice e)) (hc : P.cellsOf e = k) (hp : ∀ fuel cs x, DataW.trod enc P w base spare held fuel e cs = some x → ∃ q, cs = f q ∧ good q)
    (hval : Value.okWide P w r b0 t v) (hd : DataW.Trod enc P w base spare held t v d ps) :
    ∃ (A : Option Addr) (n c : Nat) (qs : List α), v = .slice A n c ∧ qs.length = n ∧ (∀ q ∈ qs, good q ∧ (f q).length = k) ∧ Sl w k A n (qs.map f).flatten ∧ n ≤ c ∧ c ≤ maxLen := by
  obtain ⟨A, n, c, rfl⟩ := okWide_slice ht hval
  obtain ⟨fuel, hf⟩ := hd
  rcases open_slice ht hf with ⟨hcs, _⟩ | ⟨a, len, cap, m, n', D, Pl, hcs, hb, hl, hm, hmm, hx, hi⟩
  · simp [Value.cells] at hcs
    obtain ⟨rfl, rfl, rfl⟩ := hcs
    exact ⟨none, 0, 0, [], rfl, rfl, fun q hq => by simp at hq, ⟨by simp, fun j u h => by simp at h⟩, Nat.le_refl _, Nat.zero_le _⟩
  · simp [Value.cells] at hcs
    obtain ⟨rfl, rfl, rfl⟩ := hcs
    have hlm : n ≤ m := by rw [hmm]; split <;> omega
    obtain ⟨Q, hQ⟩ := choose_lt (α := α) (p := fun i q => w.cells? base (a.add (i * k)) k = some (f q) ∧ good q) (n := m) (fun i hi' => by
      obtain ⟨cs', h1, h2⟩ := hi i hi'
      obtain ⟨q, rfl, hg⟩ := hp _ _ _ h2
      rw [hc] at h1
      exact ⟨q, h1, hg⟩)
    have hall : ∀ q ∈ (List.range n).map Q, good q ∧ (f q).length = k := by
      intro q hq
      obtain ⟨i, hi', rfl⟩ := List.mem_map.1 hq
      have hin : i < n := List.mem_range.1 hi'
      obtain ⟨h1, h2⟩ := hQ i (by omega)
      exact ⟨h2, (World.cells?_some h1).2.1⟩
    refine ⟨some a, n, c, (List.range n).map Q, rfl, by simp, hall, ⟨?_, ?_⟩, hl, hm⟩
    · rw [flatten_length _ (fun q hq => (hall q hq).2)]; simp
    · intro j u hu
      obtain ⟨hk0, q, h1, h2⟩ := flatten_get (k := k) _ (fun q hq => (hall q hq).2) j u hu
      have hjn : j / k < n := by
        have := (List.getElem?_eq_some_iff.1 h1).1
        simpa using this
      rw [List.getElem?_map, List.getElem?_range hjn] at h1
      simp at h1
      subst h1
      obtain ⟨g1, _⟩ := hQ (j / k) (by omega)
      obtain ⟨_, hlen, hcell⟩ := World.cells?_some g1
      refine ⟨a, rfl, ?_⟩
      have := hcell (j % k) (Nat.mod_lt _ hk0)
      rw [h2, add_add, show j / k * k + j % k = j by rw [Nat.mul_comm]; exact Nat.div_add_mod j k] at this
      exact this

theorem flat1 {α β : Type} (f : α → β) (l : List α) : (l.map fun q => [f q]).flatten = l.map f := by
  induction l with
  | nil => rfl
  | cons a l ih => simp [ih]
end Go.Sx

namespace Go.Sx
open Go Go.ChangeShapes Go.WideShapes Go.Deep
set_option linter.unusedVariables false
variable {H : Type} {enc : TypeId × Value → H} {P : Program} {w : World} {base : Nat} {spare : Nat → Bool} {held : Bool}
theorem read_u64 {e : TypeId} (he : P.underlying e = some (.int .u64)) : ∀ fuel cs x, DataW.trod enc P w base spare held fuel e cs = some x → ∃ q : Nat, cs = [.int .u64 ((q : Nat) : Int)] ∧ q < 18446744073709551616 := by
  intro fuel cs x h
  obtain ⟨n, rfl, _, hw⟩ := DataW.trod_int he h
  have := bounds_u64 hw
  exact ⟨n.toNat, by rw [show ((n.toNat : Nat) : Int) = n by omega], by omega⟩
theorem open_us {t e : TypeId} {r : Reach} {b0 : Nat} {v : Value} {d : DataW H} {ps : List MemPlace} (ht : P.underlying t = some (.slice e)) (he : P.underlying e = some (.int .u64)) (hc : P.cellsOf e = 1)
    (hval : Value.okWide P w r b0 t v) (hd : DataW.Trod enc P w base spare held t v d ps) : ∃ A n c, ∃ xs : List Nat, v = .slice A n c ∧ (Sl w 1 A n (xs.map fun q => .int .u64 ((q : Nat) : Int)) ∧ ∀ q ∈ xs, q < 18446744073709551616) ∧ n ≤ c ∧ c ≤ 9223372036854775807 := by
  obtain ⟨A, n, c, qs, rfl, h1, h2, h3, h4, h5⟩ := open_rows (α := Nat) (f := fun q => [.int .u64 ((q : Nat) : Int)]) ht hc (read_u64 he) hval hd
  rw [flat1] at h3
  exact ⟨A, n, c, qs, rfl, ⟨h3, fun q hq => (h2 q hq).1⟩, h4, by unfold maxLen at h5; omega⟩
end Go.Sx

namespace Go.Sx
open Go Go.ChangeShapes Go.WideShapes Go.Deep
set_option linter.unusedVariables false
set_option linter.unusedSimpArgs false
variable {H : Type} {enc : TypeId × Value → H} {P : Program} {w : World} {base : Nat} {spare : Nat → Bool} {held : Bool}
def I64b (n : Int) : Prop := -9223372036854775808 ≤ n ∧ n ≤ 9223372036854775807
theorem cut1 {α : Type} (cs : List α) (o s : Nat) : cs.drop o = (cs.drop o).take s ++ cs.drop (o + s) := by
  rw [← List.drop_drop]
  exact (List.take_append_drop s (cs.drop o)).symm
theorem cut0 {α : Type} (cs : List α) : cs = cs.drop 0 := rfl
theorem cutN {α : Type} {cs : List α} {n : Nat} (h : cs.length = n) : cs.drop n = [] := List.drop_eq_nil_of_le (by omega)
theorem trod_fields {t : TypeId} {fs : Array Field} {fuel : Nat} {cs : List Value} {x : DataW H × List MemPlace} (ht : P.underlying t = some (.struct fs)) (h : DataW.trod enc P w base spare held fuel t cs = some x) :
    cs.length = P.cellsOf t ∧ ∃ m, ∀ (i : Nat) (f : Field), fs[i]? = some f → ∃ y, DataW.trod enc P w base spare held m f.type ((cs.drop f.offset).take (P.cellsOf f.type)) = some y := by
  obtain ⟨xs, m, _, _, hl, hxl, hi⟩ := DataW.trod_struct ht h
  refine ⟨hl, m, fun i f hf => ?_⟩
  have hlt : i < xs.length := by rw [hxl]; exact (Array.getElem?_eq_some_iff.1 hf).1
  exact ⟨_, (hi i f hf).trans (List.getElem?_eq_getElem hlt)⟩
theorem read_i64 {e : TypeId} (he : P.underlying e = some (.int .i64)) : ∀ fuel cs x, DataW.trod enc P w base spare held fuel e cs = some x → ∃ q : Int, cs = [.int .i64 q] ∧ I64b q := by
  intro fuel cs x h
  obtain ⟨n, rfl, _, hw⟩ := DataW.trod_int he h
  exact ⟨n, rfl, bounds_i64 hw⟩
theorem read_bool {e : TypeId} (he : P.underlying e = some .bool) : ∀ fuel cs x, DataW.trod enc P w base spare held fuel e cs = some x → ∃ q : Bool, cs = [.bool q] ∧ True := by
  intro fuel cs x h
  obtain ⟨b, rfl, _⟩ := DataW.trod_bool he h
  exact ⟨b, rfl, trivial⟩
/-- A slice of any rows, as a vector. -/
theorem open_vec {α : Type} [Inhabited α] {f : α → List Value} {good : α → Prop} {t e : TypeId} {k : Nat} {r : Reach} {b0 : Nat} {v : Value} {d : DataW H} {ps : List MemPlace} (ht : P.underlying t = some (.slice e)) (hc : P.cellsOf e = k) (hp : ∀ fuel cs x, DataW.trod enc P w base spare held fuel e cs = some x → ∃ q, cs = f q ∧ good q)
    (hval : Value.okWide P w r b0 t v) (hd : DataW.Trod enc P w base spare held t v d ps) : ∃ A n c, ∃ xs : List α, v = .slice A n c ∧ (Vec w f k A n xs ∧ ∀ h ∈ xs, good h) ∧ n ≤ c ∧ c ≤ 9223372036854775807 := by
  obtain ⟨A, n, c, qs, rfl, h1, h2, h3, h4, h5⟩ := open_rows (α := α) (f := f) (good := good) ht hc hp hval hd
  exact ⟨A, n, c, qs, rfl, ⟨⟨h1, h3⟩, fun q hq => (h2 q hq).1⟩, h4, by unfold maxLen at h5; omega⟩
end Go.Sx

namespace Go.Proofs.YtgpdfkplkaojcaaGreat
open Go Go.Sx Go.Osp Go.Gsp Go.Asp Go.ChangeShapes Go.WideShapes Go.Deep
set_option linter.unusedVariables false
set_option linter.unusedSimpArgs false
set_option maxRecDepth 20000
variable {H : Type} {enc : TypeId × Value → H} {w : World} {base : Nat} {spare : Nat → Bool} {held : Bool}
abbrev GPol := Pol
abbrev GEdge := Gsp.Edge
abbrev GSig := Asp.Sig
abbrev GAd := Asp.Ad
theorem pv1_vec' {A : Option Addr} {n : Nat} {xs : List Nat} (h : Sl w 1 A n (xs.map fun q => .int .u64 ((q : Nat) : Int))) : Vec w pv1 1 A n xs := by
  refine Sl.vec (g1 := fun q : Nat => Value.int .u64 ((q : Nat) : Int)) h
def goodGPol (q : GPol) : Prop := I64b q.b ∧ I64b q.p ∧ I64b q.d ∧ I64b q.l ∧ I64b q.m
instance : Inhabited GPol := ⟨noPol⟩
theorem read_GPol : ∀ fuel cs x, DataW.trod enc Tryz.prog w base spare held fuel 34 cs = some x → ∃ q : GPol, cs = polV q ∧ goodGPol q := by
  intro fuel cs x h
  obtain ⟨hl, m, hi⟩ := trod_fields Tryz.underlying34 h
  rw [show Tryz.prog.cellsOf 34 = 5 by kernel_rfl] at hl
  obtain ⟨y0, k0⟩ := hi 0 _ rfl
  have k0 : DataW.trod enc Tryz.prog w base spare held m 3 ((cs.drop 0).take (Tryz.prog.cellsOf 3)) = some y0 := k0
  rw [show Tryz.prog.cellsOf 3 = 1 by kernel_rfl] at k0
  obtain ⟨q0, e0, g0⟩ := read_i64 Tryz.underlying3 _ _ _ k0
  obtain ⟨y1, k1⟩ := hi 1 _ rfl
  have k1 : DataW.trod enc Tryz.prog w base spare held m 3 ((cs.drop 1).take (Tryz.prog.cellsOf 3)) = some y1 := k1
  rw [show Tryz.prog.cellsOf 3 = 1 by kernel_rfl] at k1
  obtain ⟨q1, e1, g1⟩ := read_i64 Tryz.underlying3 _ _ _ k1
  obtain ⟨y2, k2⟩ := hi 2 _ rfl
  have k2 : DataW.trod enc Tryz.prog w base spare held m 3 ((cs.drop 2).take (Tryz.prog.cellsOf 3)) = some y2 := k2
  rw [show Tryz.prog.cellsOf 3 = 1 by kernel_rfl] at k2
  obtain ⟨q2, e2, g2⟩ := read_i64 Tryz.underlying3 _ _ _ k2
  obtain ⟨y3, k3⟩ := hi 3 _ rfl
  have k3 : DataW.trod enc Tryz.prog w base spare held m 3 ((cs.drop 3).take (Tryz.prog.cellsOf 3)) = some y3 := k3
  rw [show Tryz.prog.cellsOf 3 = 1 by kernel_rfl] at k3
  obtain ⟨q3, e3, g3⟩ := read_i64 Tryz.underlying3 _ _ _ k3
  obtain ⟨y4, k4⟩ := hi 4 _ rfl
  have k4 : DataW.trod enc Tryz.prog w base spare held m 3 ((cs.drop 4).take (Tryz.prog.cellsOf 3)) = some y4 := k4
  rw [show Tryz.prog.cellsOf 3 = 1 by kernel_rfl] at k4
  obtain ⟨q4, e4, g4⟩ := read_i64 Tryz.underlying3 _ _ _ k4
  have e := (cut0 cs).trans ((cut1 cs 0 1).trans (congrArg (List.take 1 (cs.drop 0) ++ ·) ((cut1 cs 1 1).trans (congrArg (List.take 1 (cs.drop 1) ++ ·) ((cut1 cs 2 1).trans (congrArg (List.take 1 (cs.drop 2) ++ ·) ((cut1 cs 3 1).trans (congrArg (List.take 1 (cs.drop 3) ++ ·) ((cut1 cs 4 1).trans (congrArg (List.take 1 (cs.drop 4) ++ ·) (cutN hl)))))))))))
  simp only [e0, e1, e2, e3, e4] at e
  exact ⟨⟨q0, q1, q2, q3, q4⟩, e, g0, g1, g2, g3, g4⟩
def goodGEdge (q : GEdge) : Prop := I64b q.f ∧ I64b q.t ∧ I64b q.c ∧ I64b q.r ∧ goodGPol q.pol
instance : Inhabited GEdge := ⟨noEdge⟩
theorem read_GEdge : ∀ fuel cs x, DataW.trod enc Tryz.prog w base spare held fuel 36 cs = some x → ∃ q : GEdge, cs = edgeV q ∧ goodGEdge q := by
  intro fuel cs x h
  obtain ⟨hl, m, hi⟩ := trod_fields Tryz.underlying36 h
  rw [show Tryz.prog.cellsOf 36 = 9 by kernel_rfl] at hl
  obtain ⟨y0, k0⟩ := hi 0 _ rfl
  have k0 : DataW.trod enc Tryz.prog w base spare held m 3 ((cs.drop 0).take (Tryz.prog.cellsOf 3)) = some y0 := k0
  rw [show Tryz.prog.cellsOf 3 = 1 by kernel_rfl] at k0
  obtain ⟨q0, e0, g0⟩ := read_i64 Tryz.underlying3 _ _ _ k0
  obtain ⟨y1, k1⟩ := hi 1 _ rfl
  have k1 : DataW.trod enc Tryz.prog w base spare held m 3 ((cs.drop 1).take (Tryz.prog.cellsOf 3)) = some y1 := k1
  rw [show Tryz.prog.cellsOf 3 = 1 by kernel_rfl] at k1
  obtain ⟨q1, e1, g1⟩ := read_i64 Tryz.underlying3 _ _ _ k1
  obtain ⟨y2, k2⟩ := hi 2 _ rfl
  have k2 : DataW.trod enc Tryz.prog w base spare held m 3 ((cs.drop 2).take (Tryz.prog.cellsOf 3)) = some y2 := k2
  rw [show Tryz.prog.cellsOf 3 = 1 by kernel_rfl] at k2
  obtain ⟨q2, e2, g2⟩ := read_i64 Tryz.underlying3 _ _ _ k2
  obtain ⟨y3, k3⟩ := hi 3 _ rfl
  have k3 : DataW.trod enc Tryz.prog w base spare held m 3 ((cs.drop 3).take (Tryz.prog.cellsOf 3)) = some y3 := k3
  rw [show Tryz.prog.cellsOf 3 = 1 by kernel_rfl] at k3
  obtain ⟨q3, e3, g3⟩ := read_i64 Tryz.underlying3 _ _ _ k3
  obtain ⟨y4, k4⟩ := hi 4 _ rfl
  have k4 : DataW.trod enc Tryz.prog w base spare held m 34 ((cs.drop 4).take (Tryz.prog.cellsOf 34)) = some y4 := k4
  rw [show Tryz.prog.cellsOf 34 = 5 by kernel_rfl] at k4
  obtain ⟨q4, e4, g4⟩ := read_GPol _ _ _ k4
  have e := (cut0 cs).trans ((cut1 cs 0 1).trans (congrArg (List.take 1 (cs.drop 0) ++ ·) ((cut1 cs 1 1).trans (congrArg (List.take 1 (cs.drop 1) ++ ·) ((cut1 cs 2 1).trans (congrArg (List.take 1 (cs.drop 2) ++ ·) ((cut1 cs 3 1).trans (congrArg (List.take 1 (cs.drop 3) ++ ·) ((cut1 cs 4 5).trans (congrArg (List.take 5 (cs.drop 4) ++ ·) (cutN hl)))))))))))
  simp only [e0, e1, e2, e3, e4] at e
  exact ⟨⟨q0, q1, q2, q3, q4⟩, e, g0, g1, g2, g3, g4⟩
def goodGSig (q : GSig) : Prop := q.r < 18446744073709551616 ∧ q.s < 18446744073709551616
instance : Inhabited GSig := ⟨noSig⟩
theorem read_GSig : ∀ fuel cs x, DataW.trod enc Tryz.prog w base spare held fuel 38 cs = some x → ∃ q : GSig, cs = sigV q ∧ goodGSig q := by
  intro fuel cs x h
  obtain ⟨hl, m, hi⟩ := trod_fields Tryz.underlying38 h
  rw [show Tryz.prog.cellsOf 38 = 2 by kernel_rfl] at hl
  obtain ⟨y0, k0⟩ := hi 0 _ rfl
  have k0 : DataW.trod enc Tryz.prog w base spare held m 28 ((cs.drop 0).take (Tryz.prog.cellsOf 28)) = some y0 := k0
  rw [show Tryz.prog.cellsOf 28 = 1 by kernel_rfl] at k0
  obtain ⟨q0, e0, g0⟩ := read_u64 Tryz.underlying28 _ _ _ k0
  obtain ⟨y1, k1⟩ := hi 1 _ rfl
  have k1 : DataW.trod enc Tryz.prog w base spare held m 30 ((cs.drop 1).take (Tryz.prog.cellsOf 30)) = some y1 := k1
  rw [show Tryz.prog.cellsOf 30 = 1 by kernel_rfl] at k1
  obtain ⟨q1, e1, g1⟩ := read_u64 Tryz.underlying30 _ _ _ k1
  have e := (cut0 cs).trans ((cut1 cs 0 1).trans (congrArg (List.take 1 (cs.drop 0) ++ ·) ((cut1 cs 1 1).trans (congrArg (List.take 1 (cs.drop 1) ++ ·) (cutN hl)))))
  simp only [e0, e1] at e
  exact ⟨⟨q0, q1⟩, e, g0, g1⟩
def goodGAd (q : GAd) : Prop := goodGEdge q.e ∧ I64b q.no ∧ True ∧ goodGSig q.sg
instance : Inhabited GAd := ⟨noAd⟩
theorem read_GAd : ∀ fuel cs x, DataW.trod enc Tryz.prog w base spare held fuel 40 cs = some x → ∃ q : GAd, cs = adV q ∧ goodGAd q := by
  intro fuel cs x h
  obtain ⟨hl, m, hi⟩ := trod_fields Tryz.underlying40 h
  rw [show Tryz.prog.cellsOf 40 = 13 by kernel_rfl] at hl
  obtain ⟨y0, k0⟩ := hi 0 _ rfl
  have k0 : DataW.trod enc Tryz.prog w base spare held m 36 ((cs.drop 0).take (Tryz.prog.cellsOf 36)) = some y0 := k0
  rw [show Tryz.prog.cellsOf 36 = 9 by kernel_rfl] at k0
  obtain ⟨q0, e0, g0⟩ := read_GEdge _ _ _ k0
  obtain ⟨y1, k1⟩ := hi 1 _ rfl
  have k1 : DataW.trod enc Tryz.prog w base spare held m 3 ((cs.drop 9).take (Tryz.prog.cellsOf 3)) = some y1 := k1
  rw [show Tryz.prog.cellsOf 3 = 1 by kernel_rfl] at k1
  obtain ⟨q1, e1, g1⟩ := read_i64 Tryz.underlying3 _ _ _ k1
  obtain ⟨y2, k2⟩ := hi 2 _ rfl
  have k2 : DataW.trod enc Tryz.prog w base spare held m 4 ((cs.drop 10).take (Tryz.prog.cellsOf 4)) = some y2 := k2
  rw [show Tryz.prog.cellsOf 4 = 1 by kernel_rfl] at k2
  obtain ⟨q2, e2, g2⟩ := read_bool Tryz.underlying4 _ _ _ k2
  obtain ⟨y3, k3⟩ := hi 3 _ rfl
  have k3 : DataW.trod enc Tryz.prog w base spare held m 38 ((cs.drop 11).take (Tryz.prog.cellsOf 38)) = some y3 := k3
  rw [show Tryz.prog.cellsOf 38 = 2 by kernel_rfl] at k3
  obtain ⟨q3, e3, g3⟩ := read_GSig _ _ _ k3
  have e := (cut0 cs).trans ((cut1 cs 0 9).trans (congrArg (List.take 9 (cs.drop 0) ++ ·) ((cut1 cs 9 1).trans (congrArg (List.take 1 (cs.drop 9) ++ ·) ((cut1 cs 10 1).trans (congrArg (List.take 1 (cs.drop 10) ++ ·) ((cut1 cs 11 2).trans (congrArg (List.take 2 (cs.drop 11) ++ ·) (cutN hl)))))))))
  simp only [e0, e1, e2, e3] at e
  exact ⟨⟨q0, q1, q2, q3⟩, e, g0, g1, g2, g3⟩
theorem open_gads {r : Reach} {b0 : Nat} {v : Value} {d : DataW H} {ps : List MemPlace} (hval : Value.okWide Tryz.prog w r b0 22 v) (hd : DataW.Trod enc Tryz.prog w base spare held 22 v d ps) : ∃ A n c, ∃ xs : List GAd, v = .slice A n c ∧ (Vec w adV 13 A n xs ∧ ∀ h ∈ xs, goodGAd h) ∧ n ≤ c ∧ c ≤ 9223372036854775807 := open_vec Tryz.underlying22 (show Tryz.prog.cellsOf 40 = 13 by kernel_rfl) read_GAd hval hd
theorem open_ints {r : Reach} {b0 : Nat} {v : Value} {d : DataW H} {ps : List MemPlace} (hval : Value.okWide Tryz.prog w r b0 23 v) (hd : DataW.Trod enc Tryz.prog w base spare held 23 v d ps) : ∃ A n c, ∃ xs : List Int, v = .slice A n c ∧ (Vec w iv 1 A n xs ∧ ∀ h ∈ xs, I64b h) ∧ n ≤ c ∧ c ≤ 9223372036854775807 := open_vec Tryz.underlying23 (show Tryz.prog.cellsOf 3 = 1 by kernel_rfl) (read_i64 Tryz.underlying3) hval hd
end Go.Proofs.YtgpdfkplkaojcaaGreat

namespace Go.Proofs.YtgpdfkplkaojcaaGreat
open Go Go.Sx Go.Hsp Go.Num Go.Osp Go.Gsp Go.Asp Go.Bsp Go.Stab
set_option maxRecDepth 20000
set_option linter.unusedSimpArgs false
set_option linter.unusedVariables false
theorem find_self {g : List Gsp.Edge} (h : rightG g = true) {i : Nat} (hi : i < g.length) : findE g (g.getD i noEdge).c (g.getD i noEdge).f = (g.getD i noEdge, true) := by
  have hp : (fun e : Gsp.Edge => decide (e.c = (g.getD i noEdge).c) && decide (e.f = (g.getD i noEdge).f)) g[i] = true := by
    have : g.getD i noEdge = g[i] := by simp [List.getD, hi]
    rw [this]; simp
  have hx : g.findIdx (fun e : Gsp.Edge => decide (e.c = (g.getD i noEdge).c) && decide (e.f = (g.getD i noEdge).f)) = i := by
    rw [List.findIdx_eq hi]
    refine ⟨hp, fun j hj => ?_⟩
    have hs := ltE_T.1 (right_strict h hj hi)
    have hj2 : g.getD j noEdge = g[j] := by simp [List.getD, show j < g.length by omega]
    rw [hj2] at hs
    cases e : (decide (g[j].c = (g.getD i noEdge).c) && decide (g[j].f = (g.getD i noEdge).f))
    · rfl
    · rw [Bool.and_eq_true, decide_eq_true_eq, decide_eq_true_eq] at e; omega
  rw [findE, if_pos (List.any_eq_true.2 ⟨g[i], List.getElem_mem hi, hp⟩), hx]
theorem stab_right {l zs : List Gsp.Edge} (h : Stab ltE (l.filter edgeOk) zs) (hr : rightG l = true) : zs = l := by
  have := right_srt hr
  rw [this.2] at h
  exact Stab.same swoE this.1 h
theorem GraphAds_ok {Al Ah As : Option Addr} {nl nh ns cl ch cs : Nat} {l : List Asp.Ad} {hs : List Int} {sc : List Nat} (w : World) (hL : Vec w adV 13 Al nl l) (hlg : ∀ t ∈ l, goodGAd t) (hH : Vec w iv 1 Ah nh hs) (hS : Vec w pv1 1 As ns sc) : Calls Tryz.prog 3 #[.slice Al nl cl, .slice Ah nh ch, .slice As ns cs] w fun r w' => r = .returned (.bool true) ∧ Le w w' := by
  have hll := hL.1
  have hhl := hH.1
  have hsl := hS.1
  refine enter Tryz.func3 rfl rfl ?_
  have L0 := Le.refl w
  refine WC.seq ?_
  refine WC.region ?_
  refine W.any (.assign rfl) rfl rfl rfl ?_
  refine W.nil ?_
  refine E.thenN ?_
  refine WC.seq ?_
  refine WC.region ?_
  refine W.ef rfl rfl rfl ?_
  refine Ef.call go4 rfl rfl (small36_ok w) ?_
  rintro _ w1_0 ⟨rfl, h1_0⟩
  refine ⟨_, rfl, ?_⟩
  have L1 := L0.trans h1_0
  refine W.any (.assign rfl) rfl rfl rfl ?_
  refine W.nil ?_
  refine E.thenN ?_
  refine WC.seq ?_
  refine WC.seq ?_
  refine WC.region ?_
  refine W.any (.move rfl) rfl rfl rfl ?_
  refine W.rd (.len Tryz.underlying22 rfl) rfl rfl rfl ?_
  refine W.any (.gtr rfl rfl) rfl rfl rfl ?_
  by_cases q2_3 : 20 < ((nl : Nat) : Int)
  · refine W.any (.dec (.move rfl) (decide_eq_true q2_3)) rfl rfl rfl ?_
    refine W.skip rfl rfl rfl (rfl) rfl rfl ?_
    refine W.skip rfl rfl rfl (rfl) rfl rfl ?_
    refine W.skip rfl rfl rfl (rfl) rfl rfl ?_
    refine W.skip rfl rfl rfl (rfl) rfl rfl ?_
    refine W.skip rfl rfl rfl (rfl) rfl rfl ?_
    refine W.any (.pickT rfl rfl rfl) rfl rfl rfl ?_
    refine W.any (.move rfl) rfl rfl rfl ?_
    refine W.skip rfl rfl rfl (rfl) rfl rfl ?_
    refine W.skip rfl rfl rfl (rfl) rfl rfl ?_
    refine W.skip rfl rfl rfl (rfl) rfl rfl ?_
    refine W.any (.pickT rfl rfl rfl) rfl rfl rfl ?_
    refine W.nil ?_
    refine E.thenN ?_
    refine WC.condT rfl ?_
    refine WC.seq ?_
    refine WC.region ?_
    refine W.any (.move rfl) rfl rfl rfl ?_
    refine W.any (.assign rfl) rfl rfl rfl ?_
    refine W.nil ?_
    refine E.thenN ?_
    refine WC.ret ?_
    refine E.thenR ?_
    refine E.retG1 rfl rfl ?_
    exact ⟨rfl, L1⟩
  · refine W.any (.dec (.move rfl) (decide_eq_false q2_3)) rfl rfl rfl ?_
    refine W.rdg (Any.rd (.move rfl) _) rfl rfl rfl (rfl) rfl rfl ?_
    refine W.rdg (.len Tryz.underlying23 rfl) rfl rfl rfl (rfl) rfl rfl ?_
    refine W.rdg (Any.rd (.move rfl) _) rfl rfl rfl (rfl) rfl rfl ?_
    refine W.rdg (.len Tryz.underlying22 rfl) rfl rfl rfl (rfl) rfl rfl ?_
    refine W.rdg (Any.rd (.lss rfl rfl) _) rfl rfl rfl (rfl) rfl rfl ?_
    refine W.any (.pickF rfl rfl rfl) rfl rfl rfl ?_
    by_cases q2_10 : ((nh : Nat) : Int) < ((nl : Nat) : Int)
    · refine W.any (.dec (.move rfl) (decide_eq_true q2_10)) rfl rfl rfl ?_
      refine W.skip rfl rfl rfl (rfl) rfl rfl ?_
      refine W.skip rfl rfl rfl (rfl) rfl rfl ?_
      refine W.skip rfl rfl rfl (rfl) rfl rfl ?_
      refine W.any (.pickT rfl rfl rfl) rfl rfl rfl ?_
      refine W.nil ?_
      refine E.thenN ?_
      refine WC.condT rfl ?_
      refine WC.seq ?_
      refine WC.region ?_
      refine W.any (.move rfl) rfl rfl rfl ?_
      refine W.any (.assign rfl) rfl rfl rfl ?_
      refine W.nil ?_
      refine E.thenN ?_
      refine WC.ret ?_
      refine E.thenR ?_
      refine E.retG1 rfl rfl ?_
      exact ⟨rfl, L1⟩
    · refine W.any (.dec (.move rfl) (decide_eq_false q2_10)) rfl rfl rfl ?_
      refine W.rdg (Any.rd (.move rfl) _) rfl rfl rfl (rfl) rfl rfl ?_
      refine W.rdg (.len Tryz.underlying24 rfl) rfl rfl rfl (rfl) rfl rfl ?_
      refine W.rdg (Any.rd (.gtr rfl rfl) _) rfl rfl rfl (rfl) rfl rfl ?_
      refine W.any (.pickF rfl rfl rfl) rfl rfl rfl ?_
      refine W.nil ?_
      refine E.thenN ?_
      by_cases c0 : 12 < ((ns : Nat) : Int)
      · refine WC.condY rfl (decide_eq_true c0) ?_
        refine WC.seq ?_
        refine WC.region ?_
        refine W.any (.move rfl) rfl rfl rfl ?_
        refine W.any (.assign rfl) rfl rfl rfl ?_
        refine W.nil ?_
        refine E.thenN ?_
        refine WC.ret ?_
        refine E.thenR ?_
        refine E.retG1 rfl rfl ?_
        exact ⟨rfl, L1⟩
      · refine WC.condN rfl (decide_eq_false c0) ?_
        refine WC.skip ?_
        refine E.thenN ?_
        refine WC.seq ?_
        refine WC.region ?_
        refine W.any (.assign rfl) rfl rfl rfl ?_
        refine W.nil ?_
        refine E.thenN ?_
        refine WC.seq ?_
        refine WC.seq ?_
        refine WC.region ?_
        refine W.any (.assign rfl) rfl rfl rfl ?_
        refine W.nil ?_
        refine E.thenN ?_
        refine WC.block ?_
        refine WC.loop (ι := Nat × (Option Addr) × Nat × (List Nat)) (fun ⟨j, Ao, co, ks⟩ => [(0, .slice Al nl cl), (1, .slice Ah nh ch), (2, .slice As ns cs), (7, .bool true), (8, .slice Ao j co), (9, .int .i64 (((j : Nat) : Int)))]) (fun ⟨j, Ao, co, ks⟩ wl0 => (j ≤ ns) ∧ (∀ k ∈ ks, k < 18446744073709551616) ∧ Le w wl0 ∧ w1_0.heap.size ≤ wl0.heap.size ∧ OVec wl0 w1_0.heap.size 28 pv1 1 Ao j co ks) (fun ⟨j, Ao, co, ks⟩ => ns - j) (0, none, 0, []) ?_ ?_ ?_
        · exact .cons rfl (.cons rfl (.cons rfl (.cons rfl (.cons rfl (.cons rfl (.nil _))))))
        · exact ⟨Nat.zero_le _, (fun k hk => by cases hk), L1, Nat.le_refl _, (OVec.nil w1_0 w1_0.heap.size 28 pv1 1 none)⟩
        · rintro ⟨j, Ao, co, ks⟩ wl0 ⟨hj, hkb, Ll0, zl0, f0_0⟩
          have lb0_4 : w1_0.heap.size ≤ wl0.heap.size := by omega
          refine WC.seq ?_
          refine WC.seq ?_
          refine WC.region ?_
          refine W.any (.move rfl) rfl rfl rfl ?_
          refine W.any (.move rfl) rfl rfl rfl ?_
          refine W.rd (.len Tryz.underlying24 rfl) rfl rfl rfl ?_
          refine W.any (.lss rfl rfl) rfl rfl rfl ?_
          refine W.nil ?_
          refine E.thenN ?_
          by_cases c1 : ((j : Nat) : Int) < ((ns : Nat) : Int)
          · refine WC.condY rfl (decide_eq_true c1) ?_
            refine WC.skip ?_
            refine E.thenN ?_
            refine WC.seq ?_
            refine WC.block ?_
            refine WC.region ?_
            refine W.any (.move rfl) rfl rfl rfl ?_
            refine W.any (.move rfl) rfl rfl rfl ?_
            refine W.any (.move rfl) rfl rfl rfl ?_
            refine W.any (.idxS (j) Tryz.underlying24 sz30 rfl rfl (hS.isSome pv1_row (by omega)) (rfl) (by omega)) rfl rfl rfl ?_
            refine W.rd (.vone (v := .int .u64 ((((sc.getD j 0) : Nat) : Int))) na30 rfl (hS.le Ll0) pv1_row (getS sc 0 (by first | omega | (simp only [List.length_cons, List.length_nil]; omega))) rfl) rfl rfl rfl ?_
            refine W.ef rfl rfl rfl ?_
            refine Ef.call go5 rfl rfl (base_ok (sc.getD j 0) wl0) ?_
            rintro _ w8_5 ⟨rfl, h8_5⟩
            refine ⟨_, rfl, ?_⟩
            have L2 := Ll0.trans h8_5
            refine W.ef rfl rfl rfl ?_
            refine Ef.buildSliceV (len := 1) [_] Tryz.underlying26 el28 rfl (by simp [Value.cells]) rfl (by decide) (by decide) ?_
            intro g8_6 w8_6 hg8_6 b8_6 h8_6
            have L3 := L2.trans h8_6
            have b8_6 : Blk w8_6 g8_6 28 (([base (sc.getD j 0)]).map pv1).flatten.toArray := b8_6
            have o8_6 : OVec w8_6 w8_5.heap.size 28 pv1 1 (some ⟨g8_6, 0, none⟩) 1 1 ([base (sc.getD j 0)]) := b8_6.ovec hg8_6 pv1_row rfl rfl (by decide)
            have f4 := (f0_0.le (h8_5.trans h8_6))
            refine W.ef rfl rfl rfl ?_
            refine Ef.vpush (a := (base (sc.getD j 0))) Tryz.underlying26 el28 Tryz.underlying26 pv1_row rfl f4 rfl b8_6 (by omega) (by unfold maxLen; omega) (by have := lb0_4; have := h8_5.size; have := h8_6.size; omega) ?_
            intro A8_7 c8_7 w8_7 o8_7 h8_7 at8_7
            have L5 : Le w w8_7 := L3.then_ h8_7 (fun q hq => Nat.le_trans L1.size (f4.row hq).1)
            refine W.any (.assign rfl) rfl rfl rfl ?_
            refine W.nil ?_
            refine E.blkN ?_
            refine E.thenN ?_
            refine WC.region ?_
            refine W.any (.move rfl) rfl rfl rfl ?_
            refine W.any (.add rfl rfl (by omega)) rfl rfl rfl ?_
            refine W.any (.assign rfl) rfl rfl rfl ?_
            refine W.nil ?_
            refine E.again (j + 1, A8_7, c8_7, (ks ++ [base (sc.getD j 0)])) (.cons rfl (.cons rfl (.cons rfl (.cons rfl (.cons rfl (.cons rfl (.nil _))))))) ?_ ?_
            · exact ⟨by omega, (fun k hk => by rcases List.mem_append.1 hk with h | h; exact hkb k h; rw [List.mem_singleton.1 h]; exact b_lt _), L5, by have := zl0; have := h8_5.size; have := h8_6.size; have := h8_7.size; omega, o8_7⟩
            · first | omega | (simp only []; omega)
          · refine WC.condN rfl (decide_eq_false c1) ?_
            refine WC.exit ?_
            refine E.thenX ?_
            refine E.thenX ?_
            refine E.blkH ?_
            refine E.thenN ?_
            refine WC.seq ?_
            refine WC.region ?_
            refine W.any (.move rfl) rfl rfl rfl ?_
            refine W.ef rfl rfl rfl ?_
            refine Ef.call go6 rfl rfl (new_book wl0 f0_0.vec (by omega) (hkb)) ?_
            rintro _ w9_1 ⟨gp9_1, F9_1, rfl, p9_1, h9_1⟩
            refine ⟨_, rfl, ?_⟩
            have L6 := Ll0.trans h9_1
            refine W.any (.assign rfl) rfl rfl rfl ?_
            refine W.nil ?_
            refine E.thenN ?_
            refine WC.seq ?_
            refine WC.seq ?_
            refine WC.region ?_
            refine W.any (.move rfl) rfl rfl rfl ?_
            refine W.any (.dec (.isNilP (by kernel_rfl) rfl) rfl) rfl rfl rfl ?_
            refine W.nil ?_
            refine E.thenN ?_
            refine WC.condF rfl ?_
            refine WC.skip ?_
            refine E.thenN ?_
            refine WC.seq ?_
            refine WC.seq ?_
            refine WC.region ?_
            refine W.any (.assign rfl) rfl rfl rfl ?_
            refine W.nil ?_
            refine E.thenN ?_
            refine WC.block ?_
            refine WC.loop (ι := Nat × (Nat → Prop) × BookS) (fun ⟨i, F, s⟩ => [(0, .slice Al nl cl), (1, .slice Ah nh ch), (2, .slice As ns cs), (7, .bool true), (10, .pointer (some ⟨gp9_1, 0, none⟩)), (11, .int .i64 (((i : Nat) : Int)))]) (fun ⟨i, F, s⟩ wl1 => (i ≤ nl) ∧ Le w wl1 ∧ w9_1.heap.size ≤ wl1.heap.size ∧ BPool wl1 wl0.heap.size gp9_1 F s) (fun ⟨i, F, s⟩ => nl - i) (0, F9_1, (bookN ks)) ?_ ?_ ?_
            · exact .cons rfl (.cons rfl (.cons rfl (.cons rfl (.cons rfl (.cons rfl (.nil _))))))
            · exact ⟨Nat.zero_le _, L6, Nat.le_refl _, p9_1⟩
            · rintro ⟨i, F, s⟩ wl1 ⟨hi, Ll1, zl1, f1_0⟩
              refine WC.seq ?_
              refine WC.seq ?_
              refine WC.region ?_
              refine W.any (.move rfl) rfl rfl rfl ?_
              refine W.any (.move rfl) rfl rfl rfl ?_
              refine W.rd (.len Tryz.underlying22 rfl) rfl rfl rfl ?_
              refine W.any (.lss rfl rfl) rfl rfl rfl ?_
              refine W.nil ?_
              refine E.thenN ?_
              by_cases c3 : ((i : Nat) : Int) < ((nl : Nat) : Int)
              · refine WC.condY rfl (decide_eq_true c3) ?_
                refine WC.skip ?_
                refine E.thenN ?_
                refine WC.seq ?_
                refine WC.block ?_
                refine WC.seq ?_
                refine WC.region ?_
                refine W.any (.move rfl) rfl rfl rfl ?_
                refine W.any (.move rfl) rfl rfl rfl ?_
                refine W.any (.idxS (i) Tryz.underlying22 sz40 rfl rfl (hL.isSome adV_row (by omega)) (rfl) (by omega)) rfl rfl rfl ?_
                refine W.rd (.vload ag40 rfl (hL.le Ll1) adV_row (getS l noAd (by first | omega | (simp only [List.length_cons, List.length_nil]; omega)))) rfl rfl rfl ?_
                refine W.ef rfl rfl rfl ?_
                refine Ef.allocA z40 ?_
                intro g15_4 w15_4 hg15_4 b15_4 h15_4
                have L7 := Ll1.trans h15_4
                have b15_4 : Blk w15_4 g15_4 40 (adV noAd).toArray := b15_4
                refine W.ef0 rfl rfl ?_
                refine Ef.storeAll sz40 (by rfl) rfl rfl b15_4 (by simp only [List.size_toArray, adV_row.len]) (adV_row.one (l.getD i noAd)) ?_
                intro w15_5 b15_5 h15_5
                have b15_5 : Blk w15_5 g15_4 40 (adV (l.getD i noAd)).toArray := b15_5
                have L8 : Le w w15_5 := L7.then_ h15_5 (fun q hq => by cases hq; exact Nat.le_trans Ll1.size hg15_4)
                refine W.nil ?_
                refine E.thenN ?_
                have f9 := ((f1_0.le h15_4).ch h15_5 (fun q hqq hF => by cases hqq; have := f1_0.lt hF;  have := hg15_4; omega))
                refine WC.cut (ι := Asp.Ad) (fun ad => [(0, .slice Al nl cl), (1, .slice Ah nh ch), (2, .slice As ns cs), (7, .bool true), (10, .pointer (some ⟨gp9_1, 0, none⟩)), (11, .int .i64 (((i : Nat) : Int))), (12, .pointer (some ⟨g15_4, 0, none⟩))]) (fun ad wc18 => (ad.sg.r < 18446744073709551616) ∧ Le w wc18 ∧ w15_5.heap.size ≤ wc18.heap.size ∧ BPool wc18 wl0.heap.size gp9_1 F s ∧ Blk wc18 g15_4 40 (adV ad).toArray) ?_ ?_
                · refine WC.seq ?_
                  refine WC.region ?_
                  refine W.any (.field0 fa40_0 rfl) rfl rfl rfl ?_
                  refine W.any (.field0 fa36_0 rfl) rfl rfl rfl ?_
                  refine W.rd (.loadB (v := .int .i64 ((l.getD i noAd).e.f)) na3 rfl b15_5 rfl) rfl rfl rfl ?_
                  refine W.any (.geq rfl rfl) rfl rfl rfl ?_
                  by_cases q16_4 : 0 ≤ ((l.getD i noAd).e.f)
                  · refine W.any (.dec (.move rfl) (decide_eq_true q16_4)) rfl rfl rfl ?_
                    refine W.rdg (Any.rd (.field0 fa40_0 rfl) _) rfl rfl rfl (rfl) rfl rfl ?_
                    refine W.rdg (Any.rd (.field0 fa36_0 rfl) _) rfl rfl rfl (rfl) rfl rfl ?_
                    refine W.rdg (.loadB (v := .int .i64 ((l.getD i noAd).e.f)) na3 rfl b15_5 rfl) rfl rfl rfl (rfl) rfl rfl ?_
                    refine W.rdg (Any.rd (.move rfl) _) rfl rfl rfl (rfl) rfl rfl ?_
                    refine W.rdg (.len Tryz.underlying24 rfl) rfl rfl rfl (rfl) rfl rfl ?_
                    refine W.rdg (Any.rd (.lss rfl rfl) _) rfl rfl rfl (rfl) rfl rfl ?_
                    refine W.any (.pickT rfl rfl rfl) rfl rfl rfl ?_
                    by_cases q16_12 : ((l.getD i noAd).e.f) < ((ns : Nat) : Int)
                    · refine W.any (.dec (.move rfl) (decide_eq_true q16_12)) rfl rfl rfl ?_
                      refine W.rdg (Any.rd (.move rfl) _) rfl rfl rfl (rfl) rfl rfl ?_
                      refine W.rdg (Any.rd (.rem rfl rfl (by omega)) _) rfl rfl rfl (rfl) rfl rfl ?_
                      refine W.rdg (Any.rd (.neq rfl rfl) _) rfl rfl rfl (rfl) rfl rfl ?_
                      refine W.any (.pickT rfl rfl rfl) rfl rfl rfl ?_
                      refine W.nil ?_
                      refine E.thenN ?_
                      by_cases c4 : (((i : Nat) : Int) % 3) ≠ 2
                      · refine WC.condY rfl (decide_eq_true c4) ?_
                        refine WC.draw [0, 1, 2, 3, 4, 5, 6, 7, 8, 9, 10, 11, 12, 13] mixed (by kernel_rfl) ?_
                        intro w17 d17
                        have L10 := L8.trans d17
                        refine G.any rfl rfl (.move rfl) rfl rfl rfl ?_
                        refine G.any rfl rfl (.field0 fa40_0 rfl) rfl rfl rfl ?_
                        refine G.any rfl rfl (.field0 fa36_0 rfl) rfl rfl rfl ?_
                        have f11 := (b15_5.le d17)
                        refine G.rd rfl rfl (.loadB (v := .int .i64 ((l.getD i noAd).e.f)) na3 rfl f11 rfl) rfl rfl rfl ?_
                        refine G.any rfl rfl (.idxS ((l.getD i noAd).e.f.toNat) Tryz.underlying24 sz30 rfl rfl (hS.isSome pv1_row (by omega)) (by omega) (by omega)) rfl rfl rfl ?_
                        refine G.rd rfl rfl (.vone (v := .int .u64 ((((sc.getD ((l.getD i noAd).e.f.toNat) 0) : Nat) : Int))) na30 rfl (hS.le L10) pv1_row (getS sc 0 (by first | omega | (simp only [List.length_cons, List.length_nil]; omega))) rfl) rfl rfl rfl ?_
                        refine G.any rfl rfl (.field0 fa40_0 rfl) rfl rfl rfl ?_
                        refine G.rd rfl rfl (.bpart (edgeV ((l.getD i noAd).e)) ag36 rfl (by decide) rfl f11 rfl) rfl rfl rfl ?_
                        refine G.any rfl rfl (.field0 fa40_1 rfl) rfl rfl rfl ?_
                        refine G.rd rfl rfl (.loadB (v := .int .i64 ((l.getD i noAd).no)) na3 rfl f11 rfl) rfl rfl rfl ?_
                        refine G.any rfl rfl (.field0 fa40_2 rfl) rfl rfl rfl ?_
                        refine G.rd rfl rfl (.loadB (v := .bool ((l.getD i noAd).gone)) na4 rfl f11 rfl) rfl rfl rfl ?_
                        refine G.ef rfl rfl rfl rfl rfl ?_
                        refine Ef.call go7 rfl rfl (asign_ok (sc.getD ((l.getD i noAd).e.f.toNat) 0) ((l.getD i noAd).e) ((l.getD i noAd).no) ((l.getD i noAd).gone) w17) ?_
                        rintro _ w17_12 ⟨rfl, h17_12⟩
                        refine ⟨_, rfl, ?_⟩
                        refine ⟨fun _ => h17_12, ?_⟩
                        have L12 := L10.trans h17_12
                        have f13 := (f11.le h17_12)
                        refine G.ef0 rfl rfl rfl rfl ?_
                        refine Ef.storeAll sz40 (by rfl) rfl rfl f13 (by simp only [List.size_toArray, adV_row.len]) (adV_row.one (signA (sc.getD ((l.getD i noAd).e.f.toNat) 0) ((l.getD i noAd).e) ((l.getD i noAd).no) ((l.getD i noAd).gone))) ?_
                        intro w17_13 b17_13 h17_13
                        refine ⟨fun h => absurd h (ne_true_of_eq_false (by kernel_rfl)), ?_⟩
                        have b17_13 : Blk w17_13 g15_4 40 (adV (signA (sc.getD ((l.getD i noAd).e.f.toNat) 0) ((l.getD i noAd).e) ((l.getD i noAd).no) ((l.getD i noAd).gone))).toArray := b17_13
                        have L14 : Le w w17_13 := L12.then_ h17_13 (fun q hq => by cases hq; exact Nat.le_trans Ll1.size hg15_4)
                        refine G.nil ?_
                        have f15 := ((f9.le (d17.trans h17_12)).ch h17_13 (fun q hqq hF => by cases hqq; have := f1_0.lt hF;  have := hg15_4; omega))
                        refine E.meet (signA (sc.getD ((l.getD i noAd).e.f.toNat) 0) ((l.getD i noAd).e) ((l.getD i noAd).no) ((l.getD i noAd).gone)) (.cons rfl (.cons rfl (.cons rfl (.cons rfl (.cons rfl (.cons rfl (.cons rfl (.nil _)))))))) ?_
                        exact ⟨sg_r, L14, by have := d17.size; have := h17_12.size; have := h17_13.size; omega, f15, b17_13⟩
                      · refine WC.condN rfl (decide_eq_false c4) ?_
                        refine WC.skip ?_
                        refine E.meet (l.getD i noAd) (.cons rfl (.cons rfl (.cons rfl (.cons rfl (.cons rfl (.cons rfl (.cons rfl (.nil _)))))))) ?_
                        exact ⟨(hlg _ (getD_mem' (by omega))).2.2.2.1, L8, Nat.le_refl _, f9, b15_5⟩
                    · refine W.any (.dec (.move rfl) (decide_eq_false q16_12)) rfl rfl rfl ?_
                      refine W.skip rfl rfl rfl (rfl) rfl rfl ?_
                      refine W.skip rfl rfl rfl (rfl) rfl rfl ?_
                      refine W.skip rfl rfl rfl (rfl) rfl rfl ?_
                      refine W.any (.pickF rfl rfl rfl) rfl rfl rfl ?_
                      refine W.nil ?_
                      refine E.thenN ?_
                      refine WC.condF rfl ?_
                      refine WC.skip ?_
                      refine E.meet (l.getD i noAd) (.cons rfl (.cons rfl (.cons rfl (.cons rfl (.cons rfl (.cons rfl (.cons rfl (.nil _)))))))) ?_
                      exact ⟨(hlg _ (getD_mem' (by omega))).2.2.2.1, L8, Nat.le_refl _, f9, b15_5⟩
                  · refine W.any (.dec (.move rfl) (decide_eq_false q16_4)) rfl rfl rfl ?_
                    refine W.skip rfl rfl rfl (rfl) rfl rfl ?_
                    refine W.skip rfl rfl rfl (rfl) rfl rfl ?_
                    refine W.skip rfl rfl rfl (rfl) rfl rfl ?_
                    refine W.skip rfl rfl rfl (rfl) rfl rfl ?_
                    refine W.skip rfl rfl rfl (rfl) rfl rfl ?_
                    refine W.skip rfl rfl rfl (rfl) rfl rfl ?_
                    refine W.any (.pickF rfl rfl rfl) rfl rfl rfl ?_
                    refine W.any (.move rfl) rfl rfl rfl ?_
                    refine W.skip rfl rfl rfl (rfl) rfl rfl ?_
                    refine W.skip rfl rfl rfl (rfl) rfl rfl ?_
                    refine W.skip rfl rfl rfl (rfl) rfl rfl ?_
                    refine W.any (.pickF rfl rfl rfl) rfl rfl rfl ?_
                    refine W.nil ?_
                    refine E.thenN ?_
                    refine WC.condF rfl ?_
                    refine WC.skip ?_
                    refine E.meet (l.getD i noAd) (.cons rfl (.cons rfl (.cons rfl (.cons rfl (.cons rfl (.cons rfl (.cons rfl (.nil _)))))))) ?_
                    exact ⟨(hlg _ (getD_mem' (by omega))).2.2.2.1, L8, Nat.le_refl _, f9, b15_5⟩
                · rintro ad wc18 ⟨hr, Lc3, sc3, m3_0, m3_1⟩
                  refine WC.seq ?_
                  refine WC.draw [0, 1, 2, 3, 4, 5, 6] mixed (by kernel_rfl) ?_
                  intro w18 d18
                  have L16 := Lc3.trans d18
                  refine G.any rfl rfl (.move rfl) rfl rfl rfl ?_
                  have f17 := (m3_1.le d18)
                  refine G.rd rfl rfl (.loadAll ag40 (by rfl) rfl f17) rfl rfl rfl ?_
                  refine G.any rfl rfl (.move rfl) rfl rfl rfl ?_
                  refine G.any rfl rfl (.move rfl) rfl rfl rfl ?_
                  refine G.any rfl rfl (.idxS (i) Tryz.underlying23 sz3 rfl rfl (hH.isSome iv_row (by omega)) (rfl) (by omega)) rfl rfl rfl ?_
                  refine G.rd rfl rfl (.vone (v := .int .i64 ((hs.getD i 0))) na3 rfl (hH.le L16) iv_row (getS hs 0 (by first | omega | (simp only [List.length_cons, List.length_nil]; omega))) rfl) rfl rfl rfl ?_
                  have f18 := (m3_0.le d18)
                  refine G.ef rfl rfl rfl rfl rfl ?_
                  refine Ef.call go8 rfl rfl (take_book ad (hs.getD i 0) (hr) f18) ?_
                  rintro _ w18_6 ⟨F18_6, rfl, p18_6, g18_6, h18_6⟩
                  refine ⟨_, rfl, ?_⟩
                  refine ⟨fun h => absurd h (ne_true_of_eq_false (by kernel_rfl)), ?_⟩
                  have L19 := L16.chP_then h18_6 (fun i hi => Nat.le_trans Ll0.size (f18.old hi))
                  have zq20n := (show ¬ F g15_4 from (fun hF => by have := f1_0.lt hF;  have := hg15_4; omega))
                  have zq20 := f17.chP h18_6 zq20n
                  have zq20g : ¬ F18_6 g15_4 := fun hF => (g18_6 _ hF).elim zq20n (fun hz => by have := f17.lt; omega)
                  refine G.nil ?_
                  refine E.thenN ?_
                  refine WC.seq ?_
                  refine WC.region ?_
                  refine W.any (.move rfl) rfl rfl rfl ?_
                  refine W.ef rfl rfl rfl ?_
                  refine Ef.call go9 rfl rfl (edges_book (w := w18_6) (s := (takeS s ad (hs.getD i 0))) p18_6) ?_
                  rintro _ w19_1 ⟨A19_1, c19_1, rfl, o19_1, h19_1⟩
                  refine ⟨_, rfl, ?_⟩
                  have L21 := L19.trans h19_1
                  refine W.any (.assign rfl) rfl rfl rfl ?_
                  refine W.nil ?_
                  refine E.thenN ?_
                  refine WC.seq ?_
                  refine WC.seq ?_
                  refine WC.region ?_
                  have f22 := (p18_6.le h19_1)
                  have hgd := f22.good
                  have hgl := edges_len (takeS s ad (hs.getD i 0))
                  have hgf := List.length_filter_le edgeOk (edgesB (takeS s ad (hs.getD i 0)))
                  refine W.any (.move rfl) rfl rfl rfl ?_
                  refine W.ef rfl rfl rfl ?_
                  refine Ef.call go10 rfl rfl (gright_ok w19_1 o19_1.vec (by omega)) ?_
                  rintro _ w20_1 ⟨rfl, h20_1⟩
                  refine ⟨_, rfl, ?_⟩
                  have L23 := L21.trans h20_1
                  refine W.any (.dec (.not rfl) (congrArg not (edges_right hgd))) rfl rfl rfl ?_
                  refine W.any (.move rfl) rfl rfl rfl ?_
                  refine W.rdg (Any.rd (.move rfl) _) rfl rfl rfl (rfl) rfl rfl ?_
                  have f24 := (o19_1.le h20_1)
                  refine W.efg rfl rfl rfl (rfl) rfl rfl ?_
                  refine Ef.call go12 rfl rfl (ofE_ok w20_1 f24.vec (by omega)) ?_
                  rintro _ w20_5 ⟨Ag20_5, cg20_5, zs20_5, rfl, hz20_5, o20_5, h20_5⟩
                  refine ⟨_, rfl, ?_⟩
                  have L25 := L23.trans h20_5
                  refine W.rdg (Any.rd (.move rfl) _) rfl rfl rfl (rfl) rfl rfl ?_
                  have f26 := (f24.le h20_5)
                  refine W.efg rfl rfl rfl (rfl) rfl rfl ?_
                  refine Ef.call go11 rfl rfl (same_ok w20_5 o20_5.vec f26.vec (by omega)) ?_
                  rintro _ w20_7 ⟨rfl, h20_7⟩
                  refine ⟨_, rfl, ?_⟩
                  have L27 := L25.trans h20_7
                  refine W.rdg (Any.rd (.dec (.not rfl) (congrArg not (decide_eq_true (stab_right hz20_5 (edges_right hgd))))) _) rfl rfl rfl (rfl) rfl rfl ?_
                  refine W.any (.pickF rfl rfl rfl) rfl rfl rfl ?_
                  refine W.nil ?_
                  refine E.thenN ?_
                  refine WC.condF rfl ?_
                  refine WC.skip ?_
                  refine E.thenN ?_
                  refine WC.seq ?_
                  refine WC.region ?_
                  refine W.any (.assign rfl) rfl rfl rfl ?_
                  refine W.nil ?_
                  refine E.thenN ?_
                  refine WC.block ?_
                  have f28 := (f22.le (h20_1.trans (h20_5.trans h20_7)))
                  have f29 := (f26.le h20_7)
                  refine WC.loop (ι := Nat) (fun k => [(0, .slice Al nl cl), (1, .slice Ah nh ch), (2, .slice As ns cs), (7, .bool true), (10, .pointer (some ⟨gp9_1, 0, none⟩)), (11, .int .i64 (((i : Nat) : Int))), (13, .slice A19_1 ((edgesB (takeS s ad (hs.getD i 0))).length) c19_1), (14, .int .i64 (((k : Nat) : Int)))]) (fun k wl2 => (k ≤ (edgesB (takeS s ad (hs.getD i 0))).length) ∧ Le w wl2 ∧ w20_7.heap.size ≤ wl2.heap.size ∧ BPool wl2 wl0.heap.size gp9_1 F18_6 (takeS s ad (hs.getD i 0)) ∧ OVec wl2 w18_6.heap.size 36 edgeV 9 A19_1 ((edgesB (takeS s ad (hs.getD i 0))).length) c19_1 (edgesB (takeS s ad (hs.getD i 0)))) (fun k => (edgesB (takeS s ad (hs.getD i 0))).length - k) 0 ?_ ?_ ?_
                  · exact .cons rfl (.cons rfl (.cons rfl (.cons rfl (.cons rfl (.cons rfl (.cons rfl (.cons rfl (.nil _))))))))
                  · exact ⟨Nat.zero_le _, L27, Nat.le_refl _, f28, f29⟩
                  · rintro k wl2 ⟨hk, Ll2, zl2, f2_0, f2_1⟩
                    have lb2_9 : w18_6.heap.size ≤ wl2.heap.size := by have := h19_1.size; have := h20_1.size; have := h20_5.size; have := h20_7.size; omega
                    refine WC.seq ?_
                    refine WC.seq ?_
                    refine WC.region ?_
                    refine W.any (.move rfl) rfl rfl rfl ?_
                    refine W.any (.move rfl) rfl rfl rfl ?_
                    refine W.rd (.len Tryz.underlying44 rfl) rfl rfl rfl ?_
                    refine W.any (.lss rfl rfl) rfl rfl rfl ?_
                    refine W.nil ?_
                    refine E.thenN ?_
                    by_cases c6 : ((k : Nat) : Int) < (((edgesB (takeS s ad (hs.getD i 0))).length : Nat) : Int)
                    · refine WC.condY rfl (decide_eq_true c6) ?_
                      refine WC.skip ?_
                      refine E.thenN ?_
                      refine WC.seq ?_
                      refine WC.block ?_
                      refine WC.seq ?_
                      refine WC.drawT (fun o => (app o [0, 1, 2, 3, 4, 5, 6, 7, 8, 9, 10] (.br (app o [11, 12, 13, 14, 15, 16, 17] .nil) (app o [15, 11, 12, 13, 14, 16, 17] .nil)))) mixed (by kernel_rfl) ?_
                      intro w25 d25
                      have L30 := Ll2.trans d25
                      refine GT.app ?_
                      refine G.any rfl rfl (.move rfl) rfl rfl rfl ?_
                      refine G.any rfl rfl (.move rfl) rfl rfl rfl ?_
                      refine G.any rfl rfl (.move rfl) rfl rfl rfl ?_
                      refine G.any rfl rfl (.idxS (k) Tryz.underlying44 sz36 rfl rfl (o19_1.vec.isSome edgeV_row (by omega)) (rfl) (by omega)) rfl rfl rfl ?_
                      refine G.any rfl rfl (.vfield fa36_2 (o19_1.vec.isSome edgeV_row (by omega)) rfl) rfl rfl rfl ?_
                      have f31 := (f2_1.le d25)
                      refine G.rd rfl rfl (.vcell (j := k) (o := 2) (v := .int .i64 (((edgesB (takeS s ad (hs.getD i 0))).getD k noEdge).c)) na3 rfl f31.vec edgeV_row (getS (edgesB (takeS s ad (hs.getD i 0))) noEdge (by first | omega | (simp only [List.length_cons, List.length_nil]; omega))) rfl) rfl rfl rfl ?_
                      refine G.any rfl rfl (.move rfl) rfl rfl rfl ?_
                      refine G.any rfl rfl (.move rfl) rfl rfl rfl ?_
                      refine G.any rfl rfl (.idxS (k) Tryz.underlying44 sz36 rfl rfl (o19_1.vec.isSome edgeV_row (by omega)) (rfl) (by omega)) rfl rfl rfl ?_
                      refine G.any rfl rfl (.vfield fa36_0 (o19_1.vec.isSome edgeV_row (by omega)) rfl) rfl rfl rfl ?_
                      refine G.rd rfl rfl (.vcell (j := k) (o := 0) (v := .int .i64 (((edgesB (takeS s ad (hs.getD i 0))).getD k noEdge).f)) na3 rfl f31.vec edgeV_row (getS (edgesB (takeS s ad (hs.getD i 0))) noEdge (by first | omega | (simp only [List.length_cons, List.length_nil]; omega))) rfl) rfl rfl rfl ?_
                      refine G.nil ?_
                      refine GT.br ?_ ?_
                      · refine GT.last ?_
                        refine G.ef rfl rfl rfl rfl rfl ?_
                        refine Ef.call go13 rfl rfl ((by have q := find_ok (c := c19_1) (((edgesB (takeS s ad (hs.getD i 0))).getD k noEdge).c) (((edgesB (takeS s ad (hs.getD i 0))).getD k noEdge).f) w25 f31.vec (by omega); rw [find_self (edges_right hgd) (by omega)] at q; exact q)) ?_
                        rintro _ w25_11 ⟨rfl, h25_11⟩
                        refine ⟨_, rfl, ?_⟩
                        refine ⟨fun _ => h25_11, ?_⟩
                        have L32 := L30.trans h25_11
                        refine G.any rfl rfl (.move rfl) rfl rfl rfl ?_
                        refine G.any rfl rfl (.extract (v := .agg (edgeV ((edgesB (takeS s ad (hs.getD i 0))).getD k noEdge)).toArray) rfl rfl) rfl rfl rfl ?_
                        refine G.any rfl rfl (.extract (v := .bool true) rfl rfl) rfl rfl rfl ?_
                        refine G.ef rfl rfl rfl rfl rfl ?_
                        refine Ef.allocA z36 ?_
                        intro g25_15 w25_15 hg25_15 b25_15 h25_15
                        refine ⟨fun _ => h25_15, ?_⟩
                        have L33 := L32.trans h25_15
                        have b25_15 : Blk w25_15 g25_15 36 (edgeV noEdge).toArray := b25_15
                        refine G.ef0 rfl rfl rfl rfl ?_
                        refine Ef.storeAll sz36 (by rfl) rfl rfl b25_15 (by simp only [List.size_toArray, edgeV_row.len]) (edgeV_row.one ((edgesB (takeS s ad (hs.getD i 0))).getD k noEdge)) ?_
                        intro w25_16 b25_16 h25_16
                        refine ⟨fun h => absurd h (ne_true_of_eq_false (by kernel_rfl)), ?_⟩
                        have b25_16 : Blk w25_16 g25_15 36 (edgeV ((edgesB (takeS s ad (hs.getD i 0))).getD k noEdge)).toArray := b25_16
                        have L34 : Le w w25_16 := L33.then_ h25_16 (fun q hq => by cases hq; exact Nat.le_trans L32.size hg25_15)
                        refine G.any rfl rfl (.assign rfl) rfl rfl rfl ?_
                        refine G.nil ?_
                        refine E.thenN ?_
                        refine WC.seq ?_
                        refine WC.draw [0, 1, 2, 3, 4, 5, 6, 7, 8, 9, 10, 11, 12, 13, 14, 15] mixed (by kernel_rfl) ?_
                        intro w26 d26
                        have L35 := L34.trans d26
                        refine G.any rfl rfl (.move rfl) rfl rfl rfl ?_
                        refine G.any rfl rfl (.not rfl) rfl rfl rfl ?_
                        refine G.any rfl rfl (.move rfl) rfl rfl rfl ?_
                        have f36 := (b25_16.le d26)
                        refine G.rdg rfl rfl (.loadAll ag36 (by rfl) rfl f36) rfl rfl rfl (rfl) rfl rfl ?_
                        refine G.anyg rfl rfl (.move rfl) rfl rfl rfl (rfl) rfl rfl ?_
                        refine G.anyg rfl rfl (.move rfl) rfl rfl rfl (rfl) rfl rfl ?_
                        refine G.anyg rfl rfl (.idxS (k) Tryz.underlying44 sz36 rfl rfl (o19_1.vec.isSome edgeV_row (by omega)) (rfl) (by omega)) rfl rfl rfl (rfl) rfl rfl ?_
                        have f37 := (((f31.le (h25_11.trans h25_15)).ch h25_16 (fun q hq => by cases hq; exact (fun he => by have := (f31.row he).2; have := h25_11.size; omega))).le d26)
                        refine G.rdg rfl rfl (.vload ag36 rfl f37.vec edgeV_row (getS (edgesB (takeS s ad (hs.getD i 0))) noEdge (by first | omega | (simp only [List.length_cons, List.length_nil]; omega)))) rfl rfl rfl (rfl) rfl rfl ?_
                        refine G.anyg rfl rfl (.dec (.neA eg36 rfl rfl (eqv_edge (d := 9997) _ _)) (congrArg not (decide_eq_true rfl))) rfl rfl rfl (rfl) rfl rfl ?_
                        refine G.any rfl rfl (.pickF rfl rfl rfl) rfl rfl rfl ?_
                        refine G.any rfl rfl (.move rfl) rfl rfl rfl ?_
                        refine G.anyg rfl rfl (.field0 fa36_4 rfl) rfl rfl rfl (rfl) rfl rfl ?_
                        refine G.rdg rfl rfl (.bpart (polV (((edgesB (takeS s ad (hs.getD i 0))).getD k noEdge).pol)) ag34 rfl (by decide) rfl f36 rfl) rfl rfl rfl (rfl) rfl rfl ?_
                        refine G.efg rfl rfl rfl rfl rfl (rfl) rfl rfl ?_
                        refine Ef.call go14 rfl rfl (hright_ok (((edgesB (takeS s ad (hs.getD i 0))).getD k noEdge).pol) w26) ?_
                        rintro _ w26_13 ⟨rfl, h26_13⟩
                        refine ⟨_, rfl, ?_⟩
                        refine ⟨fun _ => h26_13, ?_⟩
                        have L38 := L35.trans h26_13
                        refine G.anyg rfl rfl (.dec (.not rfl) (congrArg not (edgeA_ok (edges_edgeA hgd (getD_mem' (by omega)))).2)) rfl rfl rfl (rfl) rfl rfl ?_
                        refine G.any rfl rfl (.pickF rfl rfl rfl) rfl rfl rfl ?_
                        refine G.nil ?_
                        refine E.thenN ?_
                        refine WC.condF rfl ?_
                        refine WC.skip ?_
                        refine E.blkN ?_
                        refine E.thenN ?_
                        refine WC.region ?_
                        refine W.any (.move rfl) rfl rfl rfl ?_
                        refine W.any (.add rfl rfl (by omega)) rfl rfl rfl ?_
                        refine W.any (.assign rfl) rfl rfl rfl ?_
                        refine W.nil ?_
                        have f39 := (((f2_0.le (d25.trans (h25_11.trans h25_15))).ch h25_16 (fun q hqq hF => by cases hqq; have := f2_0.lt hF; have := d25.size; have := h25_11.size; have := hg25_15; omega)).le (d26.trans h26_13))
                        have f40 := (f37.le h26_13)
                        refine E.again (k + 1) (.cons rfl (.cons rfl (.cons rfl (.cons rfl (.cons rfl (.cons rfl (.cons rfl (.cons rfl (.nil _))))))))) ?_ ?_
                        · exact ⟨by omega, L38, by have := zl2; have := d25.size; have := h25_11.size; have := h25_15.size; have := h25_16.size; have := d26.size; have := h26_13.size; omega, f39, f40⟩
                        · first | omega | (simp only []; omega)
                      · refine GT.last ?_
                        refine G.ef rfl rfl rfl rfl rfl ?_
                        refine Ef.allocA z36 ?_
                        intro g25_15_1 w25_15_1 hg25_15_1 b25_15_1 h25_15_1
                        refine ⟨fun _ => h25_15_1, ?_⟩
                        have L41 := L30.trans h25_15_1
                        have b25_15_1 : Blk w25_15_1 g25_15_1 36 (edgeV noEdge).toArray := b25_15_1
                        have f42 := (f31.le h25_15_1)
                        refine G.ef rfl rfl rfl rfl rfl ?_
                        refine Ef.call go13 rfl rfl ((by have q := find_ok (c := c19_1) (((edgesB (takeS s ad (hs.getD i 0))).getD k noEdge).c) (((edgesB (takeS s ad (hs.getD i 0))).getD k noEdge).f) w25_15_1 f42.vec (by omega); rw [find_self (edges_right hgd) (by omega)] at q; exact q)) ?_
                        rintro _ w25_11_1 ⟨rfl, h25_11_1⟩
                        refine ⟨_, rfl, ?_⟩
                        refine ⟨fun _ => h25_11_1, ?_⟩
                        have L43 := L41.trans h25_11_1
                        refine G.any rfl rfl (.move rfl) rfl rfl rfl ?_
                        refine G.any rfl rfl (.extract (v := .agg (edgeV ((edgesB (takeS s ad (hs.getD i 0))).getD k noEdge)).toArray) rfl rfl) rfl rfl rfl ?_
                        refine G.any rfl rfl (.extract (v := .bool true) rfl rfl) rfl rfl rfl ?_
                        have f44 := (b25_15_1.le h25_11_1)
                        refine G.ef0 rfl rfl rfl rfl ?_
                        refine Ef.storeAll sz36 (by rfl) rfl rfl f44 (by simp only [List.size_toArray, edgeV_row.len]) (edgeV_row.one ((edgesB (takeS s ad (hs.getD i 0))).getD k noEdge)) ?_
                        intro w25_16_1 b25_16_1 h25_16_1
                        refine ⟨fun h => absurd h (ne_true_of_eq_false (by kernel_rfl)), ?_⟩
                        have b25_16_1 : Blk w25_16_1 g25_15_1 36 (edgeV ((edgesB (takeS s ad (hs.getD i 0))).getD k noEdge)).toArray := b25_16_1
                        have L45 : Le w w25_16_1 := L43.then_ h25_16_1 (fun q hq => by cases hq; exact Nat.le_trans L30.size hg25_15_1)
                        refine G.any rfl rfl (.assign rfl) rfl rfl rfl ?_
                        refine G.nil ?_
                        refine E.thenN ?_
                        refine WC.seq ?_
                        refine WC.draw [0, 1, 2, 3, 4, 5, 6, 7, 8, 9, 10, 11, 12, 13, 14, 15] mixed (by kernel_rfl) ?_
                        intro w26 d26
                        have L46 := L45.trans d26
                        refine G.any rfl rfl (.move rfl) rfl rfl rfl ?_
                        refine G.any rfl rfl (.not rfl) rfl rfl rfl ?_
                        refine G.any rfl rfl (.move rfl) rfl rfl rfl ?_
                        have f47 := (b25_16_1.le d26)
                        refine G.rdg rfl rfl (.loadAll ag36 (by rfl) rfl f47) rfl rfl rfl (rfl) rfl rfl ?_
                        refine G.anyg rfl rfl (.move rfl) rfl rfl rfl (rfl) rfl rfl ?_
                        refine G.anyg rfl rfl (.move rfl) rfl rfl rfl (rfl) rfl rfl ?_
                        refine G.anyg rfl rfl (.idxS (k) Tryz.underlying44 sz36 rfl rfl (o19_1.vec.isSome edgeV_row (by omega)) (rfl) (by omega)) rfl rfl rfl (rfl) rfl rfl ?_
                        have f48 := (((f42.le h25_11_1).ch h25_16_1 (fun q hq => by cases hq; exact (fun he => by have := (f31.row he).2; omega))).le d26)
                        refine G.rdg rfl rfl (.vload ag36 rfl f48.vec edgeV_row (getS (edgesB (takeS s ad (hs.getD i 0))) noEdge (by first | omega | (simp only [List.length_cons, List.length_nil]; omega)))) rfl rfl rfl (rfl) rfl rfl ?_
                        refine G.anyg rfl rfl (.dec (.neA eg36 rfl rfl (eqv_edge (d := 9997) _ _)) (congrArg not (decide_eq_true rfl))) rfl rfl rfl (rfl) rfl rfl ?_
                        refine G.any rfl rfl (.pickF rfl rfl rfl) rfl rfl rfl ?_
                        refine G.any rfl rfl (.move rfl) rfl rfl rfl ?_
                        refine G.anyg rfl rfl (.field0 fa36_4 rfl) rfl rfl rfl (rfl) rfl rfl ?_
                        refine G.rdg rfl rfl (.bpart (polV (((edgesB (takeS s ad (hs.getD i 0))).getD k noEdge).pol)) ag34 rfl (by decide) rfl f47 rfl) rfl rfl rfl (rfl) rfl rfl ?_
                        refine G.efg rfl rfl rfl rfl rfl (rfl) rfl rfl ?_
                        refine Ef.call go14 rfl rfl (hright_ok (((edgesB (takeS s ad (hs.getD i 0))).getD k noEdge).pol) w26) ?_
                        rintro _ w26_13_1 ⟨rfl, h26_13_1⟩
                        refine ⟨_, rfl, ?_⟩
                        refine ⟨fun _ => h26_13_1, ?_⟩
                        have L49 := L46.trans h26_13_1
                        refine G.anyg rfl rfl (.dec (.not rfl) (congrArg not (edgeA_ok (edges_edgeA hgd (getD_mem' (by omega)))).2)) rfl rfl rfl (rfl) rfl rfl ?_
                        refine G.any rfl rfl (.pickF rfl rfl rfl) rfl rfl rfl ?_
                        refine G.nil ?_
                        refine E.thenN ?_
                        refine WC.condF rfl ?_
                        refine WC.skip ?_
                        refine E.blkN ?_
                        refine E.thenN ?_
                        refine WC.region ?_
                        refine W.any (.move rfl) rfl rfl rfl ?_
                        refine W.any (.add rfl rfl (by omega)) rfl rfl rfl ?_
                        refine W.any (.assign rfl) rfl rfl rfl ?_
                        refine W.nil ?_
                        have f50 := (((f2_0.le (d25.trans (h25_15_1.trans h25_11_1))).ch h25_16_1 (fun q hqq hF => by cases hqq; have := f2_0.lt hF; have := d25.size; have := hg25_15_1; omega)).le (d26.trans h26_13_1))
                        have f51 := (f48.le h26_13_1)
                        refine E.again (k + 1) (.cons rfl (.cons rfl (.cons rfl (.cons rfl (.cons rfl (.cons rfl (.cons rfl (.cons rfl (.nil _))))))))) ?_ ?_
                        · exact ⟨by omega, L49, by have := zl2; have := d25.size; have := h25_15_1.size; have := h25_11_1.size; have := h25_16_1.size; have := d26.size; have := h26_13_1.size; omega, f50, f51⟩
                        · first | omega | (simp only []; omega)
                    · refine WC.condN rfl (decide_eq_false c6) ?_
                      refine WC.exit ?_
                      refine E.thenX ?_
                      refine E.thenX ?_
                      refine E.blkH ?_
                      refine E.blkN ?_
                      refine E.thenN ?_
                      refine WC.region ?_
                      refine W.any (.move rfl) rfl rfl rfl ?_
                      refine W.any (.add rfl rfl (by omega)) rfl rfl rfl ?_
                      refine W.any (.assign rfl) rfl rfl rfl ?_
                      refine W.nil ?_
                      refine E.again (i + 1, F18_6, (takeS s ad (hs.getD i 0))) (.cons rfl (.cons rfl (.cons rfl (.cons rfl (.cons rfl (.cons rfl (.nil _))))))) ?_ ?_
                      · exact ⟨by omega, Ll2, by have := zl1; have := zl0; have := zl2; have := sc3; have := h1_0.size; have := h9_1.size; have := h15_4.size; have := h15_5.size; have := d18.size; have := h18_6.size; have := h19_1.size; have := h20_1.size; have := h20_5.size; have := h20_7.size; omega, f2_0⟩
                      · first | omega | (simp only []; omega)
              · refine WC.condN rfl (decide_eq_false c3) ?_
                refine WC.exit ?_
                refine E.thenX ?_
                refine E.thenX ?_
                refine E.blkH ?_
                refine E.thenN ?_
                refine WC.seq ?_
                refine WC.region ?_
                refine W.any (.move rfl) rfl rfl rfl ?_
                refine W.any (.assign rfl) rfl rfl rfl ?_
                refine W.nil ?_
                refine E.thenN ?_
                refine WC.ret ?_
                refine E.retG1 rfl rfl ?_
                exact ⟨rfl, Ll1⟩
end Go.Proofs.YtgpdfkplkaojcaaGreat

