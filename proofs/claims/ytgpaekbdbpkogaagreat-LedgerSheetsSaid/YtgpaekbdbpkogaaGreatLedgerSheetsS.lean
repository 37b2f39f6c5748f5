/- LedgerSheets: for every input the law answers true and leaves its arguments as they were. -/
import Derived.Test.YtgpaekbdbpkogaaGreatLedgerSheetsR
import Derived.ProofKit
import Derived.OpenShut
import Derived.ShutString
import Derived.ChangeOld
import Derived.Below
import Derived.Deep.Slices
set_option linter.unusedVariables false
set_option linter.unusedSimpArgs false
namespace Go.Sx
open Go Go.ChangeShapes Go.WideShapes Go.Deep
variable {H : Type} {enc : TypeId × Value -> H} {P : Program} {w : World} {base : Nat} {spare : Nat -> Bool} {held : Bool}

theorem flatten_get {α : Type} {k : Nat} {f : α -> List Value} : ∀ (qs : List α), (∀ q ∈ qs, (f q).length = k) -> ∀ (j : Nat) (u : Value), ((qs.map f).flatten)[j]? = some u -> 0 < k /\ ∃ q, qs[j / k]? = some q /\ (f q)[j % k]? = some u
  | [], _, j, u, h => by simp at h
  | q :: qs, hk, j, u, h => by
    have hq := hk q (by simp)
    simp only [List.map_cons, List.flatten_cons] at h
    by_cases hj : j < k
    · rw [List.getElem?_append_left (by omega)] at h
      exact ⟨by omega, q, by simp [Nat.div_eq_of_lt hj], by rw [Nat.mod_eq_of_lt hj]; exact h⟩
    · rw [List.getElem?_append_right (by omega), hq] at h
      obtain ⟨hp, r, h1, h2⟩ := flatten_get qs (fun q hq => hk q (by simp [hq])) (j - k) u h
      have hd : j / k = (j - k) / k + 1 := by rw [Nat.div_eq_sub_div hp (by omega)]
      have hm : j % k = (j - k) % k := Nat.mod_eq_sub_mod (by omega)
      exact ⟨hp, r, by rw [hd]; simpa using h1, by rw [hm]; exact h2⟩
theorem flatten_length {α : Type} {k : Nat} {f : α -> List Value} : ∀ (qs : List α), (∀ q ∈ qs, (f q).length = k) -> ((qs.map f).flatten).length = qs.length * k
  | [], _ => by simp
  | q :: qs, hk => by
    have := flatten_length qs (fun q hq => hk q (by simp [hq]))
    simp only [List.map_cons, List.flatten_cons, List.length_append, List.length_cons, this, hk q (by simp)]
    rw [Nat.add_mul, Nat.one_mul, Nat.add_comm]

theorem open_rows {α : Type} [Inhabited α] {f : α -> List Value} {good : α -> Prop} {t e : TypeId} {k : Nat} {r : Reach} {b0 : Nat} {v : Value} {d : DataW H} {ps : List MemPlace}
    (ht : P.underlying t = some (.slice e)) (hc : P.cellsOf e = k) (hp : ∀ fuel cs x, DataW.trod enc P w base spare held fuel e cs = some x -> ∃ q, cs = f q /\ good q)
    (hval : Value.okWide P w r b0 t v) (hd : DataW.Trod enc P w base spare held t v d ps) :
    ∃ (A : Option Addr) (n c : Nat) (qs : List α), v = .slice A n c /\ qs.length = n /\ (∀ q ∈ qs, good q /\ (f q).length = k) /\ Sl w k A n (qs.map f).flatten /\ n <= c /\ c <= maxLen := by
  obtain ⟨A, n, c, rfl⟩ := okWide_slice ht hval
  obtain ⟨fuel, hf⟩ := hd
  rcases open_slice ht hf with ⟨hcs, _⟩ | ⟨a, len, cap, m, n', D, Pl, hcs, hb, hl, hm, hmm, hx, hi⟩
  · simp [Value.cells] at hcs
    obtain ⟨rfl, rfl, rfl⟩ := hcs
    exact ⟨none, 0, 0, [], rfl, rfl, fun q hq => by simp at hq, ⟨by simp, fun j u h => by simp at h⟩, Nat.le_refl _, Nat.zero_le _⟩
  · simp [Value.cells] at hcs
    obtain ⟨rfl, rfl, rfl⟩ := hcs
    have hlm : n <= m := by rw [hmm]; split <;> omega
    obtain ⟨Q, hQ⟩ := choose_lt (α := α) (p := fun i q => w.cells? base (a.add (i * k)) k = some (f q) /\ good q) (n := m) (fun i hi' => by
      obtain ⟨cs', h1, h2⟩ := hi i hi'
      obtain ⟨q, rfl, hg⟩ := hp _ _ _ h2
      rw [hc] at h1
      exact ⟨q, h1, hg⟩)
    have hall : ∀ q ∈ (List.range n).map Q, good q /\ (f q).length = k := by
      intro q hq
      obtain ⟨i, hi', rfl⟩ := List.mem_map.1 hq
      have hin : i < n := List.mem_range.1 hi'
      obtain ⟨h1, h2⟩ := hQ i (by omega)
      exact ⟨h2, (World.cells?_some h1).2.1⟩
    refine ⟨some a, n, c, (List.range n).map Q, rfl, by simp, hall, ⟨?_, ?_⟩, hl, hm⟩
    · rw [flatten_length _ (fun q hq => (hall q hq).2)]; simp
    · intro j u hu
      obtain ⟨hk0, q, h1, h2⟩ := flatten_get (k := k) _ (fun q hq => (hall q hq).2) j u hu
      have hjn : j / k < n := by
        have := (List.getElem?_eq_some_iff.1 h1).1
        simpa using this
      rw [List.getElem?_map, List.getElem?_range hjn] at h1
      simp at h1
      subst h1
      obtain ⟨g1, _⟩ := hQ (j / k) (by omega)
      obtain ⟨_, hlen, hcell⟩ := World.cells?_some g1
      refine ⟨a, rfl, ?_⟩
      have := hcell (j % k) (Nat.mod_lt _ hk0)
      rw [h2, add_add, show j / k * k + j % k = j by rw [Nat.mul_comm]; exact Nat.div_add_mod j k] at this
      exact this

theorem u8_of {n : Int} (h : (Lit.int .u8 n).wf = true) : Value.int .u8 n = u8v (BitVec.ofInt 8 n) := by
  have := bounds_u8 h
  unfold u8v
  rw [BitVec.toNat_ofInt]
  congr 1
  omega
theorem read_u8 {e : TypeId} (he : P.underlying e = some (.int .u8)) : ∀ fuel cs x, DataW.trod enc P w base spare held fuel e cs = some x -> ∃ q : BitVec 8, cs = [u8v q] /\ True := by
  intro fuel cs x h
  obtain ⟨n, rfl, _, hw⟩ := DataW.trod_int he h
  exact ⟨_, by rw [u8_of hw], trivial⟩
theorem flat1 {α β : Type} (f : α -> β) (l : List α) : (l.map fun q => [f q]).flatten = l.map f := by
  induction l with
  | nil => rfl
  | cons a l ih => simp [ih]
theorem open_sb {t e : TypeId} {r : Reach} {b0 : Nat} {v : Value} {d : DataW H} {ps : List MemPlace} (ht : P.underlying t = some (.slice e)) (he : P.underlying e = some (.int .u8)) (hc : P.cellsOf e = 1)
    (hval : Value.okWide P w r b0 t v) (hd : DataW.Trod enc P w base spare held t v d ps) : ∃ A n c xs, v = .slice A n c /\ Sb w A n xs /\ n <= c /\ c <= 9223372036854775807 := by
  obtain ⟨A, n, c, qs, rfl, h1, h2, h3, h4, h5⟩ := open_rows (f := fun q => [u8v q]) ht hc (read_u8 he) hval hd
  rw [flat1] at h3
  exact ⟨A, n, c, qs, rfl, h3, h4, by unfold maxLen at h5; omega⟩
theorem read_bytes {t e : TypeId} {k : Nat} (ht : P.underlying t = some (.array k e)) (he : P.underlying e = some (.int .u8)) (hc : P.cellsOf e = 1) (hct : P.cellsOf t = k) :
    ∀ fuel cs x, DataW.trod enc P w base spare held fuel t cs = some x -> ∃ q : List (BitVec 8), cs = q.map u8v /\ q.length = k := by
  intro fuel cs x h
  obtain ⟨xs, m, rfl, _, hl, hxl, hi⟩ := DataW.trod_array ht h
  rw [hct] at hl
  obtain ⟨Q, hQ⟩ := choose_lt (α := BitVec 8) (p := fun i q => cs[i]? = some (u8v q)) (n := k) (fun i hi' => by
    have := hi i hi'
    rw [List.getElem?_eq_getElem (by omega)] at this
    obtain ⟨q, hq, _⟩ := read_u8 he _ _ _ this
    rw [hc, Nat.mul_one] at hq
    refine ⟨q, ?_⟩
    have h0 : ((cs.drop i).take 1)[0]? = cs[i]? := by simp [List.getElem?_drop]
    rw [<- h0, hq]; rfl)
  refine ⟨(List.range k).map Q, ?_, by simp⟩
  apply List.ext_getElem?
  intro i
  by_cases hik : i < k
  · rw [hQ i hik]; simp [hik]
  · rw [List.getElem?_eq_none (by omega), List.getElem?_eq_none (by simp; omega)]
end Go.Sx

namespace Go.Sx
open Go Go.ChangeShapes Go.WideShapes Go.Deep
variable {H : Type} {enc : TypeId × Value -> H} {P : Program} {w : World} {base : Nat} {spare : Nat -> Bool} {held : Bool}
theorem cut1 {α : Type} (cs : List α) (o s : Nat) : cs.drop o = (cs.drop o).take s ++ cs.drop (o + s) := by
  rw [<- List.drop_drop]
  exact (List.take_append_drop s (cs.drop o)).symm
theorem cut0 {α : Type} (cs : List α) : cs = cs.drop 0 := rfl
theorem cutN {α : Type} {cs : List α} {n : Nat} (h : cs.length = n) : cs.drop n = [] := List.drop_eq_nil_of_le (by omega)
theorem trod_fields {t : TypeId} {fs : Array Field} {fuel : Nat} {cs : List Value} {x : DataW H × List MemPlace} (ht : P.underlying t = some (.struct fs)) (h : DataW.trod enc P w base spare held fuel t cs = some x) :
    cs.length = P.cellsOf t /\ ∃ m, ∀ (i : Nat) (f : Field), fs[i]? = some f -> ∃ y, DataW.trod enc P w base spare held m f.type ((cs.drop f.offset).take (P.cellsOf f.type)) = some y := by
  obtain ⟨xs, m, _, _, hl, hxl, hi⟩ := DataW.trod_struct ht h
  refine ⟨hl, m, fun i f hf => ?_⟩
  have hlt : i < xs.length := by rw [hxl]; exact (Array.getElem?_eq_some_iff.1 hf).1
  exact ⟨_, (hi i f hf).trans (List.getElem?_eq_getElem hlt)⟩
theorem okWide_structG {t : TypeId} {fs : Array Field} {r : Reach} {b0 : Nat} {v : Value} (ht : P.underlying t = some (.struct fs)) (h : Value.okWide P w r b0 t v) : ∃ cs : Array Value, v = .agg cs := by
  simp only [Value.okWide, ht] at h
  obtain ⟨cs, h1, _⟩ := h
  exact ⟨cs, h1⟩
theorem open_struct {α : Type} {f : α -> List Value} {good : α -> Prop} {t : TypeId} {fs : Array Field} {r : Reach} {b0 : Nat} {v : Value} {d : DataW H} {ps : List MemPlace} (ht : P.underlying t = some (.struct fs)) (hp : ∀ fuel cs x, DataW.trod enc P w base spare held fuel t cs = some x -> ∃ q, cs = f q /\ good q)
    (hval : Value.okWide P w r b0 t v) (hd : DataW.Trod enc P w base spare held t v d ps) : ∃ q : α, v = .agg (f q).toArray /\ good q := by
  obtain ⟨cs, rfl⟩ := okWide_structG ht hval
  obtain ⟨fuel, h⟩ := hd
  obtain ⟨q, e, hg⟩ := hp _ _ _ h
  refine ⟨q, ?_, hg⟩
  congr 1
  apply Array.ext'
  exact e
end Go.Sx

namespace Go.Proofs.YtgpaekbdbpkogaaGreat
open Go Go.Sx Go.ChangeShapes Go.WideShapes Go.Deep
variable {H : Type} {enc : TypeId × Value -> H} {w : World} {base : Nat} {spare : Nat -> Bool} {held : Bool} {P : Program}
theorem read_rows {α : Type} [Inhabited α] {f : α -> List Value} {good : α -> Prop} {t e : TypeId} {k : Nat}
    (ht : P.underlying t = some (.slice e)) (hc : P.cellsOf e = k) (hp : ∀ fuel cs x, DataW.trod enc P w base spare held fuel e cs = some x -> ∃ q, cs = f q /\ good q) :
    ∀ fuel cs x, DataW.trod enc P w base spare held fuel t cs = some x -> ∃ (A : Option Addr) (n c : Nat) (qs : List α), cs = [.slice A n c] /\ qs.length = n /\ (∀ q ∈ qs, good q /\ (f q).length = k) /\ Sl w k A n (qs.map f).flatten /\ n <= c /\ c <= maxLen := by
  intro fuel cs x hf
  obtain ⟨d, ps⟩ := x
  rcases open_slice ht hf with ⟨hcs, _⟩ | ⟨a, len, cap, m, n', D, Pl, hcs, hb, hl, hm, hmm, hx, hi⟩
  · exact ⟨none, 0, 0, [], hcs, rfl, fun q hq => by simp at hq, ⟨by simp, fun j u h => by simp at h⟩, Nat.le_refl _, Nat.zero_le _⟩
  · have hlm : len <= m := by rw [hmm]; split <;> omega
    obtain ⟨Q, hQ⟩ := choose_lt (α := α) (p := fun i q => w.cells? base (a.add (i * k)) k = some (f q) /\ good q) (n := m) (fun i hi' => by
      obtain ⟨cs', h1, h2⟩ := hi i hi'
      obtain ⟨q, rfl, hg⟩ := hp _ _ _ h2
      rw [hc] at h1
      exact ⟨q, h1, hg⟩)
    have hall : ∀ q ∈ (List.range len).map Q, good q /\ (f q).length = k := by
      intro q hq
      obtain ⟨i, hi', rfl⟩ := List.mem_map.1 hq
      have hin : i < len := List.mem_range.1 hi'
      obtain ⟨h1, h2⟩ := hQ i (by omega)
      exact ⟨h2, (World.cells?_some h1).2.1⟩
    refine ⟨some a, len, cap, (List.range len).map Q, hcs, by simp, hall, ⟨?_, ?_⟩, hl, hm⟩
    · rw [flatten_length _ (fun q hq => (hall q hq).2)]; simp
    · intro j u hu
      obtain ⟨hk0, q, h1, h2⟩ := flatten_get (k := k) _ (fun q hq => (hall q hq).2) j u hu
      have hjn : j / k < len := by
        have := (List.getElem?_eq_some_iff.1 h1).1
        simpa using this
      rw [List.getElem?_map, List.getElem?_range hjn] at h1
      simp at h1
      subst h1
      obtain ⟨g1, _⟩ := hQ (j / k) (by omega)
      obtain ⟨_, hlen, hcell⟩ := World.cells?_some g1
      refine ⟨a, rfl, ?_⟩
      have := hcell (j % k) (Nat.mod_lt _ hk0)
      rw [h2, Sx.add_add, show j / k * k + j % k = j by rw [Nat.mul_comm]; exact Nat.div_add_mod j k] at this
      exact this
end Go.Proofs.YtgpaekbdbpkogaaGreat

namespace Go.Proofs.YtgpaekbdbpkogaaGreat
open Tryz
open Go Go.Sx Go.Gsp Go.Lsp Go.Shp Go.ChangeShapes Go.WideShapes Go.Deep
set_option maxRecDepth 20000
variable {H : Type} {enc : TypeId × Value -> H} {w : World} {base : Nat} {spare : Nat -> Bool} {held : Bool}
theorem read_u8N {P : Program} {e : TypeId} (he : P.underlying e = some (.int .u8)) : ∀ fuel cs x, DataW.trod enc P w base spare held fuel e cs = some x -> ∃ q : Nat, cs = [.int .u8 ((q : Nat) : Int)] /\ q < 256 := by
  intro fuel cs x h
  obtain ⟨n, rfl, _, hw⟩ := DataW.trod_int he h
  have := bounds_u8 hw
  exact ⟨n.toNat, by rw [show ((n.toNat : Nat) : Int) = n by omega], by omega⟩
theorem read_u16N {P : Program} {e : TypeId} (he : P.underlying e = some (.int .u16)) : ∀ fuel cs x, DataW.trod enc P w base spare held fuel e cs = some x -> ∃ q : Nat, cs = [.int .u16 ((q : Nat) : Int)] /\ q < 65536 := by
  intro fuel cs x h
  obtain ⟨n, rfl, _, hw⟩ := DataW.trod_int he h
  have := bounds_u16 hw
  exact ⟨n.toNat, by rw [show ((n.toNat : Nat) : Int) = n by omega], by omega⟩
theorem read_u64N {P : Program} {e : TypeId} (he : P.underlying e = some (.int .u64)) : ∀ fuel cs x, DataW.trod enc P w base spare held fuel e cs = some x -> ∃ q : Nat, cs = [.int .u64 ((q : Nat) : Int)] /\ q < 18446744073709551616 := by
  intro fuel cs x h
  obtain ⟨n, rfl, _, hw⟩ := DataW.trod_int he h
  have := bounds_u64 hw
  exact ⟨n.toNat, by rw [show ((n.toNat : Nat) : Int) = n by omega], by omega⟩
theorem bounds_u32P {n : Int} (h : (Lit.int .u32 n).wf = true) : 0 <= n /\ n <= 4294967295 := by
  simpa [Lit.wf, IntKind.min, IntKind.max, IntKind.signed, IntKind.bits] using h
theorem read_u32N {P : Program} {e : TypeId} (he : P.underlying e = some (.int .u32)) : ∀ fuel cs x, DataW.trod enc P w base spare held fuel e cs = some x -> ∃ q : Nat, cs = [.int .u32 ((q : Nat) : Int)] /\ q < 4294967296 := by
  intro fuel cs x h
  obtain ⟨n, rfl, _, hw⟩ := DataW.trod_int he h
  have := bounds_u32P hw
  exact ⟨n.toNat, by rw [show ((n.toNat : Nat) : Int) = n by omega], by omega⟩
theorem read_h32 : ∀ fuel cs x, DataW.trod enc prog w base spare held fuel 23 cs = some x -> ∃ q : List Byte, cs = h32V q /\ q.length = 32 := by
  intro fuel cs x h
  obtain ⟨q, e, hl⟩ := read_bytes (P := prog) underlying23 underlying5 (by kernel_rfl) (by kernel_rfl) _ _ _ h
  exact ⟨q, by rw [e, h32V_eq hl], hl⟩
theorem read_two {α : Type} {P : Program} {f : α -> List Value} {good : α -> Prop} {t e : TypeId} {k : Nat} (ht : P.underlying t = some (.array 2 e)) (hc : P.cellsOf e = k) (hct : P.cellsOf t = 2 * k) (hp : ∀ fuel cs x, DataW.trod enc P w base spare held fuel e cs = some x -> ∃ q : α, cs = f q /\ good q) :
    ∀ fuel cs x, DataW.trod enc P w base spare held fuel t cs = some x -> ∃ q : α × α, cs = f q.1 ++ f q.2 /\ good q.1 /\ good q.2 := by
  intro fuel cs x h
  obtain ⟨xs, m, rfl, _, hl, hxl, hi⟩ := DataW.trod_array ht h
  rw [hct] at hl
  have h0 := hi 0 (by decide)
  have h1 := hi 1 (by decide)
  rw [List.getElem?_eq_getElem (by omega)] at h0 h1
  obtain ⟨q0, e0, g0⟩ := hp _ _ _ h0
  obtain ⟨q1, e1, g1⟩ := hp _ _ _ h1
  rw [hc] at e0 e1
  refine ⟨(q0, q1), ?_, g0, g1⟩
  show _ = f q0 ++ f q1
  rw [<- e0, <- e1, Nat.zero_mul, List.drop_zero, Nat.one_mul, List.take_of_length_le (l := cs.drop k) (by rw [List.length_drop]; omega), List.take_append_drop]
theorem read_vecP {α : Type} [Inhabited α] {P : Program} {f : α -> List Value} {good : α -> Prop} {t e : TypeId} {k : Nat} (ht : P.underlying t = some (.slice e)) (hc : P.cellsOf e = k) (hp : ∀ fuel cs x, DataW.trod enc P w base spare held fuel e cs = some x -> ∃ q, cs = f q /\ good q) :
    ∀ fuel cs x, DataW.trod enc P w base spare held fuel t cs = some x -> ∃ (A : Option Addr) (n c : Nat) (xs : List α), cs = [.slice A n c] /\ Vec w f k A n xs /\ ∀ q ∈ xs, good q := by
  intro fuel cs x h
  obtain ⟨A, n, c, qs, e, h1, h2, h3, _⟩ := read_rows ht hc hp fuel cs x h
  exact ⟨A, n, c, qs, e, ⟨h1, h3⟩, fun q hq => (h2 q hq).1⟩
instance : Inhabited Ofr := ⟨noOfr⟩

theorem read_Ofr : ∀ fuel cs x, DataW.trod enc prog w base spare held fuel 62 cs = some x -> ∃ q : Ofr, cs = ofrV q /\ OfrOk q := by
  intro fuel cs x h
  obtain ⟨hl, m, hi⟩ := trod_fields underlying62 h
  rw [show prog.cellsOf 62 = 4 by kernel_rfl] at hl
  obtain ⟨y0, k0⟩ := hi 0 _ rfl
  have k0 : DataW.trod enc prog w base spare held m 5 ((cs.drop 0).take (prog.cellsOf 5)) = some y0 := k0
  rw [show prog.cellsOf 5 = 1 by kernel_rfl] at k0
  obtain ⟨q0, e0, g0⟩ := read_u8N underlying5 _ _ _ k0
  obtain ⟨y1, k1⟩ := hi 1 _ rfl
  have k1 : DataW.trod enc prog w base spare held m 27 ((cs.drop 1).take (prog.cellsOf 27)) = some y1 := k1
  rw [show prog.cellsOf 27 = 1 by kernel_rfl] at k1
  obtain ⟨q1, e1, g1⟩ := read_u16N underlying27 _ _ _ k1
  obtain ⟨y2, k2⟩ := hi 2 _ rfl
  have k2 : DataW.trod enc prog w base spare held m 27 ((cs.drop 2).take (prog.cellsOf 27)) = some y2 := k2
  rw [show prog.cellsOf 27 = 1 by kernel_rfl] at k2
  obtain ⟨q2, e2, g2⟩ := read_u16N underlying27 _ _ _ k2
  obtain ⟨y3, k3⟩ := hi 3 _ rfl
  have k3 : DataW.trod enc prog w base spare held m 44 ((cs.drop 3).take (prog.cellsOf 44)) = some y3 := k3
  rw [show prog.cellsOf 44 = 1 by kernel_rfl] at k3
  obtain ⟨q3, e3, g3⟩ := read_u64N underlying44 _ _ _ k3
  have e := (cut0 cs).trans ((cut1 cs 0 1).trans (congrArg (List.take 1 (cs.drop 0) ++ ·) ((cut1 cs 1 1).trans (congrArg (List.take 1 (cs.drop 1) ++ ·) ((cut1 cs 2 1).trans (congrArg (List.take 1 (cs.drop 2) ++ ·) ((cut1 cs 3 1).trans (congrArg (List.take 1 (cs.drop 3) ++ ·) (cutN hl)))))))))
  simp only [e0, e1, e2, e3, List.append_nil] at e
  exact ⟨⟨q0, q1, q2, q3⟩, by rw [e]; rfl, g0, g1, g2, g3⟩
def PlyIn (w : World) (p : Ply) : Prop := PlyOk p /\ ∃ os : List Ofr, Vec w ofrV 4 p.oa p.on os /\ ∀ o ∈ os, OfrOk o
theorem read_Ply : ∀ fuel cs x, DataW.trod enc prog w base spare held fuel 29 cs = some x -> ∃ q : Ply, cs = plyV q /\ PlyIn w q := by
  intro fuel cs x h
  obtain ⟨hl, m, hi⟩ := trod_fields underlying29 h
  rw [show prog.cellsOf 29 = 102 by kernel_rfl] at hl
  obtain ⟨y0, k0⟩ := hi 0 _ rfl
  have k0 : DataW.trod enc prog w base spare held m 24 ((cs.drop 0).take (prog.cellsOf 24)) = some y0 := k0
  rw [show prog.cellsOf 24 = 64 by kernel_rfl] at k0
  obtain ⟨q0, e0, g0⟩ := (read_two underlying24 (show prog.cellsOf 23 = 32 by kernel_rfl) (by kernel_rfl) read_h32) _ _ _ k0
  obtain ⟨y1, k1⟩ := hi 1 _ rfl
  have k1 : DataW.trod enc prog w base spare held m 25 ((cs.drop 64).take (prog.cellsOf 25)) = some y1 := k1
  rw [show prog.cellsOf 25 = 1 by kernel_rfl] at k1
  obtain ⟨q1, e1, g1⟩ := read_u32N underlying25 _ _ _ k1
  obtain ⟨y2, k2⟩ := hi 2 _ rfl
  have k2 : DataW.trod enc prog w base spare held m 25 ((cs.drop 65).take (prog.cellsOf 25)) = some y2 := k2
  rw [show prog.cellsOf 25 = 1 by kernel_rfl] at k2
  obtain ⟨q2, e2, g2⟩ := read_u32N underlying25 _ _ _ k2
  obtain ⟨y3, k3⟩ := hi 3 _ rfl
  have k3 : DataW.trod enc prog w base spare held m 5 ((cs.drop 66).take (prog.cellsOf 5)) = some y3 := k3
  rw [show prog.cellsOf 5 = 1 by kernel_rfl] at k3
  obtain ⟨q3, e3, g3⟩ := read_u8N underlying5 _ _ _ k3
  obtain ⟨y4, k4⟩ := hi 4 _ rfl
  have k4 : DataW.trod enc prog w base spare held m 5 ((cs.drop 67).take (prog.cellsOf 5)) = some y4 := k4
  rw [show prog.cellsOf 5 = 1 by kernel_rfl] at k4
  obtain ⟨q4, e4, g4⟩ := read_u8N underlying5 _ _ _ k4
  obtain ⟨y5, k5⟩ := hi 5 _ rfl
  have k5 : DataW.trod enc prog w base spare held m 26 ((cs.drop 68).take (prog.cellsOf 26)) = some y5 := k5
  rw [show prog.cellsOf 26 = 1 by kernel_rfl] at k5
  obtain ⟨A5, n5, c5, x5, e5, g5⟩ := read_vecP (f := ofrV) underlying26 (show prog.cellsOf 62 = 4 by kernel_rfl) read_Ofr _ _ _ k5
  obtain ⟨y6, k6⟩ := hi 6 _ rfl
  have k6 : DataW.trod enc prog w base spare held m 27 ((cs.drop 69).take (prog.cellsOf 27)) = some y6 := k6
  rw [show prog.cellsOf 27 = 1 by kernel_rfl] at k6
  obtain ⟨q6, e6, g6⟩ := read_u16N underlying27 _ _ _ k6
  obtain ⟨y7, k7⟩ := hi 7 _ rfl
  have k7 : DataW.trod enc prog w base spare held m 23 ((cs.drop 70).take (prog.cellsOf 23)) = some y7 := k7
  rw [show prog.cellsOf 23 = 32 by kernel_rfl] at k7
  obtain ⟨q7, e7, g7⟩ := read_h32 _ _ _ k7
  have e := (cut0 cs).trans ((cut1 cs 0 64).trans (congrArg (List.take 64 (cs.drop 0) ++ ·) ((cut1 cs 64 1).trans (congrArg (List.take 1 (cs.drop 64) ++ ·) ((cut1 cs 65 1).trans (congrArg (List.take 1 (cs.drop 65) ++ ·) ((cut1 cs 66 1).trans (congrArg (List.take 1 (cs.drop 66) ++ ·) ((cut1 cs 67 1).trans (congrArg (List.take 1 (cs.drop 67) ++ ·) ((cut1 cs 68 1).trans (congrArg (List.take 1 (cs.drop 68) ++ ·) ((cut1 cs 69 1).trans (congrArg (List.take 1 (cs.drop 69) ++ ·) ((cut1 cs 70 32).trans (congrArg (List.take 32 (cs.drop 70) ++ ·) (cutN hl)))))))))))))))))
  simp only [e0, e1, e2, e3, e4, e5, e6, e7, List.append_nil] at e
  exact ⟨⟨q0.1, q0.2, q1, q2, q3, q4, A5, n5, c5, q6, q7⟩, by rw [e]; simp [plyV], ⟨⟨g0.1, g0.2, g1, g2, g3, g4, g6⟩, x5, g5.1, g5.2⟩⟩
theorem open_play {r : Reach} {b0 : Nat} {v : Value} {d : DataW H} {ps : List MemPlace} (hval : Value.okWide prog w r b0 29 v) (hd : DataW.Trod enc prog w base spare held 29 v d ps) : ∃ q : Ply, v = .agg (plyV q).toArray /\ PlyIn w q := open_struct underlying29 read_Ply hval hd
theorem byte_vecO {A : Option Addr} {n : Nat} {xs : List Byte} (h : Sb w A n xs) : Vec w byteV 1 A n xs := ⟨h.len, by rw [byte_flat]; exact h⟩
end Go.Proofs.YtgpaekbdbpkogaaGreat

