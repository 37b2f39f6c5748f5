/- SplitProofs: for every input the law answers true and leaves its arguments as they were. -/
import Derived.Test.YtocheaahlpiajaaGreatDoorSplitProofsR
import Derived.ProofKit
import Derived.OpenShut
import Derived.ShutString
import Derived.ChangeOld
import Derived.Below
import Derived.Deep.Slices
set_option linter.unusedVariables false
set_option linter.unusedSimpArgs false
namespace Go.Sx
open Go Go.ChangeShapes Go.WideShapes Go.Deep
variable {H : Type} {enc : TypeId × Value -> H} {P : Program} {w : World} {base : Nat} {spare : Nat -> Bool} {held : Bool}

theorem flatten_get {α : Type} {k : Nat} {f : α -> List Value} : ∀ (qs : List α), (∀ q ∈ qs, (f q).length = k) -> ∀ (j : Nat) (u : Value), ((qs.map f).flatten)[j]? = some u -> 0 < k /\ ∃ q, qs[j / k]? = some q /\ (f q)[j % k]? = some u
  | [], _, j, u, h => by simp at h
  | q :: qs, hk, j, u, h => by
    have hq := hk q (by simp)
    simp only [List.map_cons, List.flatten_cons] at h
    by_cases hj : j < k
    · rw [List.getElem?_append_left (by omega)] at h
      exact ⟨by omega, q, by simp [Nat.div_eq_of_lt hj], by rw [Nat.mod_eq_of_lt hj]; exact h⟩
    · rw [List.getElem?_append_right (by omega), hq] at h
      obtain ⟨hp, r, h1, h2⟩ := flatten_get qs (fun q hq => hk q (by simp [hq])) (j - k) u h
      have hd : j / k = (j - k) / k + 1 := by rw [Nat.div_eq_sub_div hp (by omega)]
      have hm : j % k = (j - k) % k := Nat.mod_eq_sub_mod (by omega)
      exact ⟨hp, r, by rw [hd]; simpa using h1, by rw [hm]; exact h2⟩
theorem flatten_length {α : Type} {k : Nat} {f : α -> List Value} : ∀ (qs : List α), (∀ q ∈ qs, (f q).length = k) -> ((qs.map f).flatten).length = qs.length * k
  | [], _ => by simp
  | q :: qs, hk => by
    have := flatten_length qs (fun q hq => hk q (by simp [hq]))
    simp only [List.map_cons, List.flatten_cons, List.length_append, List.length_cons, this, hk q (by simp)]
    rw [Nat.add_mul, Nat.one_mul, Nat.add_comm]

theorem open_rows {α : Type} [Inhabited α] {f : α -> List Value} {good : α -> Prop} {t e : TypeId} {k : Nat} {r : Reach} {b0 : Nat} {v : Value} {d : DataW H} {ps : List MemPlace}
    (ht : P.underlying t = some (.slice e)) (hc : P.cellsOf e = k) (hp : ∀ fuel cs x, DataW.trod enc P w base spare held fuel e cs = some x -> ∃ q, cs = f q /\ good q)
    (hval : Value.okWide P w r b0 t v) (hd : DataW.Trod enc P w base spare held t v d ps) :
    ∃ (A : Option Addr) (n c : Nat) (qs : List α), v = .slice A n c /\ qs.length = n /\ (∀ q ∈ qs, good q /\ (f q).length = k) /\ Sl w k A n (qs.map f).flatten /\ n <= c /\ c <= maxLen := by
  obtain ⟨A, n, c, rfl⟩ := okWide_slice ht hval
  obtain ⟨fuel, hf⟩ := hd
  rcases open_slice ht hf with ⟨hcs, _⟩ | ⟨a, len, cap, m, n', D, Pl, hcs, hb, hl, hm, hmm, hx, hi⟩
  · simp [Value.cells] at hcs
    obtain ⟨rfl, rfl, rfl⟩ := hcs
    exact ⟨none, 0, 0, [], rfl, rfl, fun q hq => by simp at hq, ⟨by simp, fun j u h => by simp at h⟩, Nat.le_refl _, Nat.zero_le _⟩
  · simp [Value.cells] at hcs
    obtain ⟨rfl, rfl, rfl⟩ := hcs
    have hlm : n <= m := by rw [hmm]; split <;> omega
    obtain ⟨Q, hQ⟩ := choose_lt (α := α) (p := fun i q => w.cells? base (a.add (i * k)) k = some (f q) /\ good q) (n := m) (fun i hi' => by
      obtain ⟨cs', h1, h2⟩ := hi i hi'
      obtain ⟨q, rfl, hg⟩ := hp _ _ _ h2
      rw [hc] at h1
      exact ⟨q, h1, hg⟩)
    have hall : ∀ q ∈ (List.range n).map Q, good q /\ (f q).length = k := by
      intro q hq
      obtain ⟨i, hi', rfl⟩ := List.mem_map.1 hq
      have hin : i < n := List.mem_range.1 hi'
      obtain ⟨h1, h2⟩ := hQ i (by omega)
      exact ⟨h2, (World.cells?_some h1).2.1⟩
    refine ⟨some a, n, c, (List.range n).map Q, rfl, by simp, hall, ⟨?_, ?_⟩, hl, hm⟩
    · rw [flatten_length _ (fun q hq => (hall q hq).2)]; simp
    · intro j u hu
      obtain ⟨hk0, q, h1, h2⟩ := flatten_get (k := k) _ (fun q hq => (hall q hq).2) j u hu
      have hjn : j / k < n := by
        have := (List.getElem?_eq_some_iff.1 h1).1
        simpa using this
      rw [List.getElem?_map, List.getElem?_range hjn] at h1
      simp at h1
      subst h1
      obtain ⟨g1, _⟩ := hQ (j / k) (by omega)
      obtain ⟨_, hlen, hcell⟩ := World.cells?_some g1
      refine ⟨a, rfl, ?_⟩
      have := hcell (j % k) (Nat.mod_lt _ hk0)
      rw [h2, add_add, show j / k * k + j % k = j by rw [Nat.mul_comm]; exact Nat.div_add_mod j k] at this
      exact this

theorem u8_of {n : Int} (h : (Lit.int .u8 n).wf = true) : Value.int .u8 n = u8v (BitVec.ofInt 8 n) := by
  have := bounds_u8 h
  unfold u8v
  rw [BitVec.toNat_ofInt]
  congr 1
  omega
theorem read_u8 {e : TypeId} (he : P.underlying e = some (.int .u8)) : ∀ fuel cs x, DataW.trod enc P w base spare held fuel e cs = some x -> ∃ q : BitVec 8, cs = [u8v q] /\ True := by
  intro fuel cs x h
  obtain ⟨n, rfl, _, hw⟩ := DataW.trod_int he h
  exact ⟨_, by rw [u8_of hw], trivial⟩
theorem flat1 {α β : Type} (f : α -> β) (l : List α) : (l.map fun q => [f q]).flatten = l.map f := by
  induction l with
  | nil => rfl
  | cons a l ih => simp [ih]
theorem open_sb {t e : TypeId} {r : Reach} {b0 : Nat} {v : Value} {d : DataW H} {ps : List MemPlace} (ht : P.underlying t = some (.slice e)) (he : P.underlying e = some (.int .u8)) (hc : P.cellsOf e = 1)
    (hval : Value.okWide P w r b0 t v) (hd : DataW.Trod enc P w base spare held t v d ps) : ∃ A n c xs, v = .slice A n c /\ Sb w A n xs /\ n <= c /\ c <= 9223372036854775807 := by
  obtain ⟨A, n, c, qs, rfl, h1, h2, h3, h4, h5⟩ := open_rows (f := fun q => [u8v q]) ht hc (read_u8 he) hval hd
  rw [flat1] at h3
  exact ⟨A, n, c, qs, rfl, h3, h4, by unfold maxLen at h5; omega⟩
theorem read_bytes {t e : TypeId} {k : Nat} (ht : P.underlying t = some (.array k e)) (he : P.underlying e = some (.int .u8)) (hc : P.cellsOf e = 1) (hct : P.cellsOf t = k) :
    ∀ fuel cs x, DataW.trod enc P w base spare held fuel t cs = some x -> ∃ q : List (BitVec 8), cs = q.map u8v /\ q.length = k := by
  intro fuel cs x h
  obtain ⟨xs, m, rfl, _, hl, hxl, hi⟩ := DataW.trod_array ht h
  rw [hct] at hl
  obtain ⟨Q, hQ⟩ := choose_lt (α := BitVec 8) (p := fun i q => cs[i]? = some (u8v q)) (n := k) (fun i hi' => by
    have := hi i hi'
    rw [List.getElem?_eq_getElem (by omega)] at this
    obtain ⟨q, hq, _⟩ := read_u8 he _ _ _ this
    rw [hc, Nat.mul_one] at hq
    refine ⟨q, ?_⟩
    have h0 : ((cs.drop i).take 1)[0]? = cs[i]? := by simp [List.getElem?_drop]
    rw [<- h0, hq]; rfl)
  refine ⟨(List.range k).map Q, ?_, by simp⟩
  apply List.ext_getElem?
  intro i
  by_cases hik : i < k
  · rw [hQ i hik]; simp [hik]
  · rw [List.getElem?_eq_none (by omega), List.getElem?_eq_none (by simp; omega)]
theorem okWide_array {t e : TypeId} {k : Nat} {r : Reach} {b0 : Nat} {v : Value} (ht : P.underlying t = some (.array k e)) (h : Value.okWide P w r b0 t v) : ∃ cs : Array Value, v = .agg cs := by
  simp only [Value.okWide, ht] at h
  obtain ⟨cs, h1, _⟩ := h
  exact ⟨cs, h1⟩
theorem open_bytes {t e : TypeId} {k : Nat} {r : Reach} {b0 : Nat} {v : Value} {d : DataW H} {ps : List MemPlace} (ht : P.underlying t = some (.array k e)) (he : P.underlying e = some (.int .u8)) (hc : P.cellsOf e = 1) (hct : P.cellsOf t = k)
    (hval : Value.okWide P w r b0 t v) (hd : DataW.Trod enc P w base spare held t v d ps) : ∃ key : List (BitVec 8), v = .agg (key.map u8v).toArray /\ key.length = k := by
  obtain ⟨cs, rfl⟩ := okWide_array ht hval
  obtain ⟨fuel, hf⟩ := hd
  obtain ⟨q, hq, hl⟩ := read_bytes ht he hc hct _ _ _ hf
  refine ⟨q, ?_, hl⟩
  simp only [Value.cells] at hq
  rw [<- hq]
end Go.Sx

namespace Go.Sx
open Go Go.ChangeShapes Go.WideShapes Go.Deep
variable {H : Type} {enc : TypeId × Value -> H} {P : Program} {w : World} {base : Nat} {spare : Nat -> Bool} {held : Bool}
theorem open_u64 {t : TypeId} {r : Reach} {b0 : Nat} {v : Value} {d : DataW H} {ps : List MemPlace} (ht : P.underlying t = some (.int .u64)) (hval : Value.okWide P w r b0 t v) (hd : DataW.Trod enc P w base spare held t v d ps) : ∃ q : Nat, v = .int .u64 ((q : Nat) : Int) /\ q < 18446744073709551616 := by
  obtain ⟨a, rfl, rfl, rfl, s⟩ := open_int ht hval hd
  have := bounds_u64 s
  exact ⟨a.toNat, by rw [show ((a.toNat : Nat) : Int) = a by omega], by omega⟩
end Go.Sx

