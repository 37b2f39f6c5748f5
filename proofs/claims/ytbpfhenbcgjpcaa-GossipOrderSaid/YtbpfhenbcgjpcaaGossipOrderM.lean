/- GossipOrder: for every input the law answers true and leaves its arguments as they were. -/
import Derived.Test.YtbpfhenbcgjpcaaGossipOrderL
import Derived.OrdersHeld
import Derived.WalkKit
import Derived.Deep.AppendSrc
import Derived.Deep.MidRow
import Derived.Laws.OwnMore
import Derived.WalkSpells
import Derived.Lib.ConvBytes
import Derived.Lib.AppendZerosOnto
import Derived.Laws.StructEq
import Derived.Maps.RangeRun
import Derived.Laws.Pointers
import Derived.Test.YtbpfhenbcgjpcaaProg
import Derived.KernelRfl
import Derived.Lib.Mul64
import Derived.Shelf.SlSortCmp.NoneTotal
import Derived.Lib.QuietBelow
import Derived.Ground.SlsfProg
import Derived.ProofKit
import Derived.OpenShut
import Derived.ShutString
import Derived.ChangeOld
import Derived.Below
import Derived.Deep.Slices
namespace Go.Sx
open Go Go.ChangeShapes Go.WideShapes Go.Deep
set_option linter.unusedVariables false
variable {H : Type} {enc : TypeId × Value → H} {P : Program} {w : World} {base : Nat} {spare : Nat → Bool} {held : Bool}

theorem flatten_get {α : Type} {k : Nat} {f : α → List Value} : ∀ (qs : List α), (∀ q ∈ qs, (f q).length = k) → ∀ (j : Nat) (u : Value), ((qs.map f).flatten)[j]? = some u → 0 < k ∧ ∃ q, qs[j / k]? = some q ∧ (f q)[j % k]? = some u
  | [], _, j, u, h => by simp at h
  | q :: qs, hk, j, u, h => by
    have hq := hk q (by simp)
    simp only [List.map_cons, List.flatten_cons] at h
    by_cases hj : j < k
    · rw [List.getElem?_append_left (by omega)] at h
      exact ⟨by omega, q, by simp [Nat.div_eq_of_lt hj], by rw [Nat.mod_eq_of_lt hj]; exact h⟩
    · rw [List.getElem?_append_right (by omega), hq] at h
      obtain ⟨hp, r, h1, h2⟩ := flatten_get qs (fun q hq => hk q (by simp [hq])) (j - k) u h
      have hd : j / k = (j - k) / k + 1 := by rw [Nat.div_eq_sub_div hp (by omega)]
      have hm : j % k = (j - k) % k := Nat.mod_eq_sub_mod (by omega)
      exact ⟨hp, r, by rw [hd]; simpa using h1, by rw [hm]; exact h2⟩
theorem flatten_length {α : Type} {k : Nat} {f : α → List Value} : ∀ (qs : List α), (∀ q ∈ qs, (f q).length = k) → ((qs.map f).flatten).length = qs.length * k
  | [], _ => by simp
  | q :: qs, hk => by
    have := flatten_length qs (fun q hq => hk q (by simp [hq]))
    simp only [List.map_cons, List.flatten_cons, List.length_append, List.length_cons, this, hk q (by simp)]
    rw [Nat.add_mul, Nat.one_mul, Nat.add_comm]

/-- A slice of rows opened: what is known of one row is known of all. -/
theorem open_rows {α : Type} [Inhabited α] {f : α → List Value} {good : α → Prop} {t e : TypeId} {k : Nat} {r : Reach} {b0 : Nat} {v : Value} {d : DataW H} {ps : List MemPlace}
    (ht : P.underlying t = some (.slice e)) (hc : P.cellsOf e = k) (hp : ∀ fuel cs x, DataW.trod enc P w base spare held fuel e cs = some x → ∃ q, cs = f q ∧ good q)
    (hval : Value.okWide P w r b0 t v) (hd : DataW.Trod enc P w base spare held t v d ps) :
    ∃ (A : Option Addr) (n c : Nat) (qs : List α), v = .slice A n c ∧ qs.length = n ∧ (∀ q ∈ qs, good q ∧ (f q).length = k) ∧ Sl w k A n (qs.map f).flatten ∧ n ≤ c ∧ c ≤ maxLen := by
  obtain ⟨A, n, c, rfl⟩ := okWide_slice ht hval
  obtain ⟨fuel, hf⟩ := hd
  rcases open_slice ht hf with ⟨hcs, _⟩ | ⟨a, len, cap, m, n', D, Pl, hcs, hb, hl, hm, hmm, hx, hi⟩
  · simp [Value.cells] at hcs
    obtain ⟨rfl, rfl, rfl⟩ := hcs
    exact ⟨none, 0, 0, [], rfl, rfl, fun q hq => by simp at hq, ⟨by simp, fun j u h => by simp at h⟩, Nat.le_refl _, Nat.zero_le _⟩
  · simp [Value.cells] at hcs
    obtain ⟨rfl, rfl, rfl⟩ := hcs
    have hlm : n ≤ m := by rw [hmm]; split <;> omega
    obtain ⟨Q, hQ⟩ := choose_lt (α := α) (p := fun i q => w.cells? base (a.add (i * k)) k = some (f q) ∧ good q) (n := m) (fun i hi' => by
      obtain ⟨cs', h1, h2⟩ := hi i hi'
      obtain ⟨q, rfl, hg⟩ := hp _ _ _ h2
      rw [hc] at h1
      exact ⟨q, h1, hg⟩)
    have hall : ∀ q ∈ (List.range n).map Q, good q ∧ (f q).length = k := by
      intro q hq
      obtain ⟨i, hi', rfl⟩ := List.mem_map.1 hq
      have hin : i < n := List.mem_range.1 hi'
      obtain ⟨h1, h2⟩ := hQ i (by omega)
      exact ⟨h2, (World.cells?_some h1).2.1⟩
    refine ⟨some a, n, c, (List.range n).map Q, rfl, by simp, hall, ⟨?_, ?_⟩, hl, hm⟩
    · rw [flatten_length _ (fun q hq => (hall q hq).2)]; simp
    · intro j u hu
      obtain ⟨hk0, q, h1, h2⟩ := flatten_get (k := k) _ (fun q hq => (hall q hq).2) j u hu
      have hjn : j / k < n := by
        have := (List.getElem?_eq_some_iff.1 h1).1
        simpa using this
      rw [List.getElem?_map, List.getElem?_range hjn] at h1
      simp at h1
      subst h1
      obtain ⟨g1, _⟩ := hQ (j / k) (by omega)
      obtain ⟨_, hlen, hcell⟩ := World.cells?_some g1
      refine ⟨a, rfl, ?_⟩
      have := hcell (j % k) (Nat.mod_lt _ hk0)
      rw [h2, add_add, show j / k * k + j % k = j by rw [Nat.mul_comm]; exact Nat.div_add_mod j k] at this
      exact this

theorem flat1 {α β : Type} (f : α → β) (l : List α) : (l.map fun q => [f q]).flatten = l.map f := by
  induction l with
  | nil => rfl
  | cons a l ih => simp [ih]
end Go.Sx

namespace Go.Sx
open Go Go.ChangeShapes Go.WideShapes Go.Deep
set_option linter.unusedVariables false
variable {H : Type} {enc : TypeId × Value → H} {P : Program} {w : World} {base : Nat} {spare : Nat → Bool} {held : Bool}
theorem read_u64 {e : TypeId} (he : P.underlying e = some (.int .u64)) : ∀ fuel cs x, DataW.trod enc P w base spare held fuel e cs = some x → ∃ q : Nat, cs = [.int .u64 ((q : Nat) : Int)] ∧ q < 18446744073709551616 := by
  intro fuel cs x h
  obtain ⟨n, rfl, _, hw⟩ := DataW.trod_int he h
  have := bounds_u64 hw
  exact ⟨n.toNat, by rw [show ((n.toNat : Nat) : Int) = n by omega], by omega⟩
theorem open_us {t e : TypeId} {r : Reach} {b0 : Nat} {v : Value} {d : DataW H} {ps : List MemPlace} (ht : P.underlying t = some (.slice e)) (he : P.underlying e = some (.int .u64)) (hc : P.cellsOf e = 1)
    (hval : Value.okWide P w r b0 t v) (hd : DataW.Trod enc P w base spare held t v d ps) : ∃ A n c, ∃ xs : List Nat, v = .slice A n c ∧ (Sl w 1 A n (xs.map fun q => .int .u64 ((q : Nat) : Int)) ∧ ∀ q ∈ xs, q < 18446744073709551616) ∧ n ≤ c ∧ c ≤ 9223372036854775807 := by
  obtain ⟨A, n, c, qs, rfl, h1, h2, h3, h4, h5⟩ := open_rows (α := Nat) (f := fun q => [.int .u64 ((q : Nat) : Int)]) ht hc (read_u64 he) hval hd
  rw [flat1] at h3
  exact ⟨A, n, c, qs, rfl, ⟨h3, fun q hq => (h2 q hq).1⟩, h4, by unfold maxLen at h5; omega⟩
end Go.Sx

namespace Go.Sx
open Go Go.ChangeShapes Go.WideShapes Go.Deep
set_option linter.unusedVariables false
set_option linter.unusedSimpArgs false
variable {H : Type} {enc : TypeId × Value → H} {P : Program} {w : World} {base : Nat} {spare : Nat → Bool} {held : Bool}
def I64b (n : Int) : Prop := -9223372036854775808 ≤ n ∧ n ≤ 9223372036854775807
theorem cut1 {α : Type} (cs : List α) (o s : Nat) : cs.drop o = (cs.drop o).take s ++ cs.drop (o + s) := by
  rw [← List.drop_drop]
  exact (List.take_append_drop s (cs.drop o)).symm
theorem cut0 {α : Type} (cs : List α) : cs = cs.drop 0 := rfl
theorem cutN {α : Type} {cs : List α} {n : Nat} (h : cs.length = n) : cs.drop n = [] := List.drop_eq_nil_of_le (by omega)
theorem trod_fields {t : TypeId} {fs : Array Field} {fuel : Nat} {cs : List Value} {x : DataW H × List MemPlace} (ht : P.underlying t = some (.struct fs)) (h : DataW.trod enc P w base spare held fuel t cs = some x) :
    cs.length = P.cellsOf t ∧ ∃ m, ∀ (i : Nat) (f : Field), fs[i]? = some f → ∃ y, DataW.trod enc P w base spare held m f.type ((cs.drop f.offset).take (P.cellsOf f.type)) = some y := by
  obtain ⟨xs, m, _, _, hl, hxl, hi⟩ := DataW.trod_struct ht h
  refine ⟨hl, m, fun i f hf => ?_⟩
  have hlt : i < xs.length := by rw [hxl]; exact (Array.getElem?_eq_some_iff.1 hf).1
  exact ⟨_, (hi i f hf).trans (List.getElem?_eq_getElem hlt)⟩
theorem read_i64 {e : TypeId} (he : P.underlying e = some (.int .i64)) : ∀ fuel cs x, DataW.trod enc P w base spare held fuel e cs = some x → ∃ q : Int, cs = [.int .i64 q] ∧ I64b q := by
  intro fuel cs x h
  obtain ⟨n, rfl, _, hw⟩ := DataW.trod_int he h
  exact ⟨n, rfl, bounds_i64 hw⟩
/-- A slice of any rows, as a vector. -/
theorem open_vec {α : Type} [Inhabited α] {f : α → List Value} {good : α → Prop} {t e : TypeId} {k : Nat} {r : Reach} {b0 : Nat} {v : Value} {d : DataW H} {ps : List MemPlace} (ht : P.underlying t = some (.slice e)) (hc : P.cellsOf e = k) (hp : ∀ fuel cs x, DataW.trod enc P w base spare held fuel e cs = some x → ∃ q, cs = f q ∧ good q)
    (hval : Value.okWide P w r b0 t v) (hd : DataW.Trod enc P w base spare held t v d ps) : ∃ A n c, ∃ xs : List α, v = .slice A n c ∧ (Vec w f k A n xs ∧ ∀ h ∈ xs, good h) ∧ n ≤ c ∧ c ≤ 9223372036854775807 := by
  obtain ⟨A, n, c, qs, rfl, h1, h2, h3, h4, h5⟩ := open_rows (α := α) (f := f) (good := good) ht hc hp hval hd
  exact ⟨A, n, c, qs, rfl, ⟨⟨h1, h3⟩, fun q hq => (h2 q hq).1⟩, h4, by unfold maxLen at h5; omega⟩
end Go.Sx

namespace Go.Proofs.Ytbpfhenbcgjpcaa
open Go Go.Sx Go.Osp Go.Gsp Go.Asp Go.ChangeShapes Go.WideShapes Go.Deep
set_option linter.unusedVariables false
set_option linter.unusedSimpArgs false
set_option maxRecDepth 20000
variable {H : Type} {enc : TypeId × Value → H} {w : World} {base : Nat} {spare : Nat → Bool} {held : Bool}
abbrev GPol := Pol
abbrev GEdge := Gsp.Edge
abbrev GSig := Asp.Sig
abbrev GAd := Asp.Ad
abbrev GTold := Bsp.Told
theorem pv1_vec' {A : Option Addr} {n : Nat} {xs : List Nat} (h : Sl w 1 A n (xs.map fun q => .int .u64 ((q : Nat) : Int))) : Vec w pv1 1 A n xs := by
  refine Sl.vec (g1 := fun q : Nat => Value.int .u64 ((q : Nat) : Int)) h
def goodGPol (q : GPol) : Prop := I64b q.b ∧ I64b q.p ∧ I64b q.d ∧ I64b q.l ∧ I64b q.m
instance : Inhabited GPol := ⟨noPol⟩
theorem read_GPol : ∀ fuel cs x, DataW.trod enc Try.prog w base spare held fuel 32 cs = some x → ∃ q : GPol, cs = polV q ∧ goodGPol q := by
  intro fuel cs x h
  obtain ⟨hl, m, hi⟩ := trod_fields Try.underlying32 h
  rw [show Try.prog.cellsOf 32 = 5 by kernel_rfl] at hl
  obtain ⟨y0, k0⟩ := hi 0 _ rfl
  have k0 : DataW.trod enc Try.prog w base spare held m 3 ((cs.drop 0).take (Try.prog.cellsOf 3)) = some y0 := k0
  rw [show Try.prog.cellsOf 3 = 1 by kernel_rfl] at k0
  obtain ⟨q0, e0, g0⟩ := read_i64 Try.underlying3 _ _ _ k0
  obtain ⟨y1, k1⟩ := hi 1 _ rfl
  have k1 : DataW.trod enc Try.prog w base spare held m 3 ((cs.drop 1).take (Try.prog.cellsOf 3)) = some y1 := k1
  rw [show Try.prog.cellsOf 3 = 1 by kernel_rfl] at k1
  obtain ⟨q1, e1, g1⟩ := read_i64 Try.underlying3 _ _ _ k1
  obtain ⟨y2, k2⟩ := hi 2 _ rfl
  have k2 : DataW.trod enc Try.prog w base spare held m 3 ((cs.drop 2).take (Try.prog.cellsOf 3)) = some y2 := k2
  rw [show Try.prog.cellsOf 3 = 1 by kernel_rfl] at k2
  obtain ⟨q2, e2, g2⟩ := read_i64 Try.underlying3 _ _ _ k2
  obtain ⟨y3, k3⟩ := hi 3 _ rfl
  have k3 : DataW.trod enc Try.prog w base spare held m 3 ((cs.drop 3).take (Try.prog.cellsOf 3)) = some y3 := k3
  rw [show Try.prog.cellsOf 3 = 1 by kernel_rfl] at k3
  obtain ⟨q3, e3, g3⟩ := read_i64 Try.underlying3 _ _ _ k3
  obtain ⟨y4, k4⟩ := hi 4 _ rfl
  have k4 : DataW.trod enc Try.prog w base spare held m 3 ((cs.drop 4).take (Try.prog.cellsOf 3)) = some y4 := k4
  rw [show Try.prog.cellsOf 3 = 1 by kernel_rfl] at k4
  obtain ⟨q4, e4, g4⟩ := read_i64 Try.underlying3 _ _ _ k4
  have e := (cut0 cs).trans ((cut1 cs 0 1).trans (congrArg (List.take 1 (cs.drop 0) ++ ·) ((cut1 cs 1 1).trans (congrArg (List.take 1 (cs.drop 1) ++ ·) ((cut1 cs 2 1).trans (congrArg (List.take 1 (cs.drop 2) ++ ·) ((cut1 cs 3 1).trans (congrArg (List.take 1 (cs.drop 3) ++ ·) ((cut1 cs 4 1).trans (congrArg (List.take 1 (cs.drop 4) ++ ·) (cutN hl)))))))))))
  simp only [e0, e1, e2, e3, e4] at e
  exact ⟨⟨q0, q1, q2, q3, q4⟩, e, g0, g1, g2, g3, g4⟩
def goodGEdge (q : GEdge) : Prop := I64b q.f ∧ I64b q.t ∧ I64b q.c ∧ I64b q.r ∧ goodGPol q.pol
instance : Inhabited GEdge := ⟨noEdge⟩
theorem read_GEdge : ∀ fuel cs x, DataW.trod enc Try.prog w base spare held fuel 34 cs = some x → ∃ q : GEdge, cs = edgeV q ∧ goodGEdge q := by
  intro fuel cs x h
  obtain ⟨hl, m, hi⟩ := trod_fields Try.underlying34 h
  rw [show Try.prog.cellsOf 34 = 9 by kernel_rfl] at hl
  obtain ⟨y0, k0⟩ := hi 0 _ rfl
  have k0 : DataW.trod enc Try.prog w base spare held m 3 ((cs.drop 0).take (Try.prog.cellsOf 3)) = some y0 := k0
  rw [show Try.prog.cellsOf 3 = 1 by kernel_rfl] at k0
  obtain ⟨q0, e0, g0⟩ := read_i64 Try.underlying3 _ _ _ k0
  obtain ⟨y1, k1⟩ := hi 1 _ rfl
  have k1 : DataW.trod enc Try.prog w base spare held m 3 ((cs.drop 1).take (Try.prog.cellsOf 3)) = some y1 := k1
  rw [show Try.prog.cellsOf 3 = 1 by kernel_rfl] at k1
  obtain ⟨q1, e1, g1⟩ := read_i64 Try.underlying3 _ _ _ k1
  obtain ⟨y2, k2⟩ := hi 2 _ rfl
  have k2 : DataW.trod enc Try.prog w base spare held m 3 ((cs.drop 2).take (Try.prog.cellsOf 3)) = some y2 := k2
  rw [show Try.prog.cellsOf 3 = 1 by kernel_rfl] at k2
  obtain ⟨q2, e2, g2⟩ := read_i64 Try.underlying3 _ _ _ k2
  obtain ⟨y3, k3⟩ := hi 3 _ rfl
  have k3 : DataW.trod enc Try.prog w base spare held m 3 ((cs.drop 3).take (Try.prog.cellsOf 3)) = some y3 := k3
  rw [show Try.prog.cellsOf 3 = 1 by kernel_rfl] at k3
  obtain ⟨q3, e3, g3⟩ := read_i64 Try.underlying3 _ _ _ k3
  obtain ⟨y4, k4⟩ := hi 4 _ rfl
  have k4 : DataW.trod enc Try.prog w base spare held m 32 ((cs.drop 4).take (Try.prog.cellsOf 32)) = some y4 := k4
  rw [show Try.prog.cellsOf 32 = 5 by kernel_rfl] at k4
  obtain ⟨q4, e4, g4⟩ := read_GPol _ _ _ k4
  have e := (cut0 cs).trans ((cut1 cs 0 1).trans (congrArg (List.take 1 (cs.drop 0) ++ ·) ((cut1 cs 1 1).trans (congrArg (List.take 1 (cs.drop 1) ++ ·) ((cut1 cs 2 1).trans (congrArg (List.take 1 (cs.drop 2) ++ ·) ((cut1 cs 3 1).trans (congrArg (List.take 1 (cs.drop 3) ++ ·) ((cut1 cs 4 5).trans (congrArg (List.take 5 (cs.drop 4) ++ ·) (cutN hl)))))))))))
  simp only [e0, e1, e2, e3, e4] at e
  exact ⟨⟨q0, q1, q2, q3, q4⟩, e, g0, g1, g2, g3, g4⟩
instance : Inhabited GSig := ⟨noSig⟩
instance : Inhabited GAd := ⟨noAd⟩
instance : Inhabited GTold := ⟨Bsp.noTold⟩
theorem open_gedges {r : Reach} {b0 : Nat} {v : Value} {d : DataW H} {ps : List MemPlace} (hval : Value.okWide Try.prog w r b0 49 v) (hd : DataW.Trod enc Try.prog w base spare held 49 v d ps) : ∃ A n c, ∃ xs : List GEdge, v = .slice A n c ∧ (Vec w edgeV 9 A n xs ∧ ∀ h ∈ xs, goodGEdge h) ∧ n ≤ c ∧ c ≤ 9223372036854775807 := open_vec Try.underlying49 (show Try.prog.cellsOf 34 = 9 by kernel_rfl) read_GEdge hval hd
theorem open_ints {r : Reach} {b0 : Nat} {v : Value} {d : DataW H} {ps : List MemPlace} (hval : Value.okWide Try.prog w r b0 50 v) (hd : DataW.Trod enc Try.prog w base spare held 50 v d ps) : ∃ A n c, ∃ xs : List Int, v = .slice A n c ∧ (Vec w iv 1 A n xs ∧ ∀ h ∈ xs, I64b h) ∧ n ≤ c ∧ c ≤ 9223372036854775807 := open_vec Try.underlying50 (show Try.prog.cellsOf 3 = 1 by kernel_rfl) (read_i64 Try.underlying3) hval hd
end Go.Proofs.Ytbpfhenbcgjpcaa

namespace Go.Proofs.Ytbpfhenbcgjpcaa
open Go Go.Sx Go.Hsp Go.Num Go.Osp Go.Gsp Go.Asp Go.Bsp
set_option maxRecDepth 20000
set_option linter.unusedSimpArgs false
set_option linter.unusedVariables false

theorem ver_r {p : Nat} {a : Asp.Ad} (h : verifyA p a = true) : a.sg.r < 18446744073709551616 := by
  unfold verifyA verifyB checksB at h
  simp only [Bool.and_eq_true] at h
  have h2 := ((right_iff _).1 h.2.1.1.2).2.1
  have h3 : M < 18446744073709551616 := by decide
  omega
end Go.Proofs.Ytbpfhenbcgjpcaa

namespace Go.Proofs.Ytbpfhenbcgjpcaa
open Go Go.Sx Go.Hsp Go.Num Go.Osp Go.Gsp Go.Asp Go.Bsp
set_option maxRecDepth 20000
set_option linter.unusedSimpArgs false
set_option linter.unusedVariables false

theorem ver_noneO (p k : Nat) {x : Gsp.Edge} {no : Int} {g : Bool} (h : mayA x no = false) : verifyA p (signA k x no g) = false := by
  rw [sg_none h]
  unfold verifyA
  rw [show mayA noAd.e noAd.no = false from by decide]
  rfl
theorem may_ver {p k : Nat} {x : Gsp.Edge} {no : Int} {g : Bool} (h : verifyA p (signA k x no g) = true) : mayA x no = true := by
  cases e : mayA x no
  · rw [ver_noneO p k e] at h; cases h
  · rfl
theorem take_base {ks : List Nat} {i : Nat} (h : i < ks.length) : (ks.take i).map base ++ [base (ks.getD i 0)] = (ks.take (i + 1)).map base := by
  rw [List.take_add_one, getS ks 0 h, List.map_append]
  rfl
set_option maxHeartbeats 4000000 in
theorem GossipOrder_ok {Ak Ae An : Option Addr} {nk m nn ck ce cn : Nat} {ks : List Nat} {es : List Gsp.Edge} {ns : List Int} (w : World) (hK : Vec w pv1 1 Ak nk ks) (hE : Vec w edgeV 9 Ae m es) (hN : Vec w iv 1 An nn ns) : Calls Try.prog 4 #[.slice Ak nk ck, .slice Ae m ce, .slice An nn cn] w fun r w' => r = .returned (.bool true) ∧ Le w w' := by
  have hkl := hK.1
  have hkm : (ks.map base).length = nk := by rw [List.length_map]; omega
  have hel := hE.1
  have hnl := hN.1
  refine enter Try.func4 rfl rfl ?_
  have L0 := Le.refl w
  refine WC.seq ?_
  refine WC.region ?_
  refine W.any (.assign rfl) rfl rfl rfl ?_
  refine W.nil ?_
  refine E.thenN ?_
  refine WC.seq ?_
  refine WC.region ?_
  refine W.ef rfl rfl rfl ?_
  refine Ef.call go7 rfl rfl (small35_ok w) ?_
  rintro _ w1_0 ⟨rfl, h1_0⟩
  refine ⟨_, rfl, ?_⟩
  have L1 := L0.trans h1_0
  refine W.any (.assign rfl) rfl rfl rfl ?_
  refine W.nil ?_
  refine E.thenN ?_
  refine WC.seq ?_
  refine WC.seq ?_
  refine WC.region ?_
  refine W.any (.move rfl) rfl rfl rfl ?_
  refine W.rd (.len Try.underlying49 rfl) rfl rfl rfl ?_
  refine W.any (.gtr rfl rfl) rfl rfl rfl ?_
  by_cases q2_3 : 8 < ((m : Nat) : Int)
  · refine W.any (.dec (.move rfl) (decide_eq_true q2_3)) rfl rfl rfl ?_
    refine W.skip rfl rfl rfl (rfl) rfl rfl ?_
    refine W.skip rfl rfl rfl (rfl) rfl rfl ?_
    refine W.skip rfl rfl rfl (rfl) rfl rfl ?_
    refine W.skip rfl rfl rfl (rfl) rfl rfl ?_
    refine W.skip rfl rfl rfl (rfl) rfl rfl ?_
    refine W.any (.pickT rfl rfl rfl) rfl rfl rfl ?_
    refine W.any (.move rfl) rfl rfl rfl ?_
    refine W.skip rfl rfl rfl (rfl) rfl rfl ?_
    refine W.skip rfl rfl rfl (rfl) rfl rfl ?_
    refine W.skip rfl rfl rfl (rfl) rfl rfl ?_
    refine W.any (.pickT rfl rfl rfl) rfl rfl rfl ?_
    refine W.nil ?_
    refine E.thenN ?_
    refine WC.condT rfl ?_
    refine WC.seq ?_
    refine WC.region ?_
    refine W.any (.move rfl) rfl rfl rfl ?_
    refine W.any (.assign rfl) rfl rfl rfl ?_
    refine W.nil ?_
    refine E.thenN ?_
    refine WC.ret ?_
    refine E.thenR ?_
    refine E.retG1 rfl rfl ?_
    exact ⟨rfl, L1⟩
  · refine W.any (.dec (.move rfl) (decide_eq_false q2_3)) rfl rfl rfl ?_
    refine W.rdg (Any.rd (.move rfl) _) rfl rfl rfl (rfl) rfl rfl ?_
    refine W.rdg (.len Try.underlying50 rfl) rfl rfl rfl (rfl) rfl rfl ?_
    refine W.rdg (Any.rd (.move rfl) _) rfl rfl rfl (rfl) rfl rfl ?_
    refine W.rdg (.len Try.underlying49 rfl) rfl rfl rfl (rfl) rfl rfl ?_
    refine W.rdg (Any.rd (.lss rfl rfl) _) rfl rfl rfl (rfl) rfl rfl ?_
    refine W.any (.pickF rfl rfl rfl) rfl rfl rfl ?_
    by_cases q2_10 : ((nn : Nat) : Int) < ((m : Nat) : Int)
    · refine W.any (.dec (.move rfl) (decide_eq_true q2_10)) rfl rfl rfl ?_
      refine W.skip rfl rfl rfl (rfl) rfl rfl ?_
      refine W.skip rfl rfl rfl (rfl) rfl rfl ?_
      refine W.skip rfl rfl rfl (rfl) rfl rfl ?_
      refine W.any (.pickT rfl rfl rfl) rfl rfl rfl ?_
      refine W.nil ?_
      refine E.thenN ?_
      refine WC.condT rfl ?_
      refine WC.seq ?_
      refine WC.region ?_
      refine W.any (.move rfl) rfl rfl rfl ?_
      refine W.any (.assign rfl) rfl rfl rfl ?_
      refine W.nil ?_
      refine E.thenN ?_
      refine WC.ret ?_
      refine E.thenR ?_
      refine E.retG1 rfl rfl ?_
      exact ⟨rfl, L1⟩
    · refine W.any (.dec (.move rfl) (decide_eq_false q2_10)) rfl rfl rfl ?_
      refine W.rdg (Any.rd (.move rfl) _) rfl rfl rfl (rfl) rfl rfl ?_
      refine W.rdg (.len Try.underlying48 rfl) rfl rfl rfl (rfl) rfl rfl ?_
      refine W.rdg (Any.rd (.gtr rfl rfl) _) rfl rfl rfl (rfl) rfl rfl ?_
      refine W.any (.pickF rfl rfl rfl) rfl rfl rfl ?_
      refine W.nil ?_
      refine E.thenN ?_
      by_cases c0 : 12 < ((nk : Nat) : Int)
      · refine WC.condY rfl (decide_eq_true c0) ?_
        refine WC.seq ?_
        refine WC.region ?_
        refine W.any (.move rfl) rfl rfl rfl ?_
        refine W.any (.assign rfl) rfl rfl rfl ?_
        refine W.nil ?_
        refine E.thenN ?_
        refine WC.ret ?_
        refine E.thenR ?_
        refine E.retG1 rfl rfl ?_
        exact ⟨rfl, L1⟩
      · refine WC.condN rfl (decide_eq_false c0) ?_
        refine WC.skip ?_
        refine E.thenN ?_
        refine WC.seq ?_
        refine WC.region ?_
        refine W.any (.assign rfl) rfl rfl rfl ?_
        refine W.nil ?_
        refine E.thenN ?_
        refine WC.seq ?_
        refine WC.seq ?_
        refine WC.region ?_
        refine W.any (.assign rfl) rfl rfl rfl ?_
        refine W.nil ?_
        refine E.thenN ?_
        refine WC.block ?_
        refine WC.loop (ι := Nat × (Option Addr) × Nat) (fun ⟨u, Ab, cb⟩ => [(0, .slice Ak nk ck), (1, .slice Ae m ce), (2, .slice An nn cn), (7, .bool true), (8, .slice Ab u cb), (9, .int .i64 (((u : Nat) : Int)))]) (fun ⟨u, Ab, cb⟩ wl0 => (u ≤ nk) ∧ Le w wl0 ∧ w1_0.heap.size ≤ wl0.heap.size ∧ OVec wl0 w1_0.heap.size 36 pv1 1 Ab u cb ((ks.take u).map base)) (fun ⟨u, Ab, cb⟩ => nk - u) (0, none, 0) ?_ ?_ ?_
        · exact .cons rfl (.cons rfl (.cons rfl (.cons rfl (.cons rfl (.cons rfl (.nil _))))))
        · exact ⟨Nat.zero_le _, L1, Nat.le_refl _, (OVec.nil w1_0 w1_0.heap.size 36 pv1 1 none)⟩
        · rintro ⟨u, Ab, cb⟩ wl0 ⟨hu, Ll0, zl0, f0_0⟩
          have lb0_4 : w1_0.heap.size ≤ wl0.heap.size := by omega
          refine WC.seq ?_
          refine WC.seq ?_
          refine WC.region ?_
          refine W.any (.move rfl) rfl rfl rfl ?_
          refine W.any (.move rfl) rfl rfl rfl ?_
          refine W.rd (.len Try.underlying48 rfl) rfl rfl rfl ?_
          refine W.any (.lss rfl rfl) rfl rfl rfl ?_
          refine W.nil ?_
          refine E.thenN ?_
          by_cases c1 : ((u : Nat) : Int) < ((nk : Nat) : Int)
          · refine WC.condY rfl (decide_eq_true c1) ?_
            refine WC.skip ?_
            refine E.thenN ?_
            refine WC.seq ?_
            refine WC.block ?_
            refine WC.region ?_
            refine W.any (.move rfl) rfl rfl rfl ?_
            refine W.any (.move rfl) rfl rfl rfl ?_
            refine W.any (.move rfl) rfl rfl rfl ?_
            refine W.any (.idxS (u) Try.underlying48 sz37 rfl rfl (hK.isSome pv1_row (by omega)) (rfl) (by omega)) rfl rfl rfl ?_
            refine W.rd (.vone (v := .int .u64 ((((ks.getD u 0) : Nat) : Int))) na37 rfl (hK.le Ll0) pv1_row (getS ks 0 (by first | omega | (simp only [List.length_cons, List.length_nil]; omega))) rfl) rfl rfl rfl ?_
            refine W.ef rfl rfl rfl ?_
            refine Ef.call go14 rfl rfl (base_ok (ks.getD u 0) wl0) ?_
            rintro _ w8_5 ⟨rfl, h8_5⟩
            refine ⟨_, rfl, ?_⟩
            have L2 := Ll0.trans h8_5
            refine W.ef rfl rfl rfl ?_
            refine Ef.buildSliceV (len := 1) [_] Try.underlying22 el36 rfl (by simp [Value.cells]) rfl (by decide) (by decide) ?_
            intro g8_6 w8_6 hg8_6 b8_6 h8_6
            have L3 := L2.trans h8_6
            have b8_6 : Blk w8_6 g8_6 36 (([base (ks.getD u 0)]).map pv1).flatten.toArray := b8_6
            have o8_6 : OVec w8_6 w8_5.heap.size 36 pv1 1 (some ⟨g8_6, 0, none⟩) 1 1 ([base (ks.getD u 0)]) := b8_6.ovec hg8_6 pv1_row rfl rfl (by decide)
            have f4 := (f0_0.le (h8_5.trans h8_6))
            refine W.ef rfl rfl rfl ?_
            refine Ef.vpush (a := (base (ks.getD u 0))) Try.underlying22 el36 Try.underlying22 pv1_row rfl f4 rfl b8_6 (by omega) (by unfold maxLen; omega) (by have := lb0_4; have := h8_5.size; have := h8_6.size; omega) ?_
            intro A8_7 c8_7 w8_7 o8_7 h8_7 at8_7
            have L5 : Le w w8_7 := L3.then_ h8_7 (fun q hq => Nat.le_trans L1.size (f4.row hq).1)
            refine W.any (.assign rfl) rfl rfl rfl ?_
            refine W.nil ?_
            refine E.blkN ?_
            refine E.thenN ?_
            refine WC.region ?_
            refine W.any (.move rfl) rfl rfl rfl ?_
            refine W.any (.add rfl rfl (by omega)) rfl rfl rfl ?_
            refine W.any (.assign rfl) rfl rfl rfl ?_
            refine W.nil ?_
            refine E.again (u + 1, A8_7, c8_7) (.cons rfl (.cons rfl (.cons rfl (.cons rfl (.cons rfl (.cons rfl (.nil _))))))) ?_ ?_
            · exact ⟨by omega, L5, by have := zl0; have := h8_5.size; have := h8_6.size; have := h8_7.size; omega, (o8_7.cast rfl (take_base (by omega)))⟩
            · first | omega | (simp only []; omega)
          · refine WC.condN rfl (decide_eq_false c1) ?_
            have o6 := f0_0.cast (m' := u) (ys := (ks.map base)) (rfl) (by rw [List.take_of_length_le (by omega)])
            refine WC.exit ?_
            refine E.thenX ?_
            refine E.thenX ?_
            refine E.blkH ?_
            refine E.thenN ?_
            refine WC.seq ?_
            refine WC.region ?_
            refine W.any (.move rfl) rfl rfl rfl ?_
            refine W.ef rfl rfl rfl ?_
            refine Ef.call go8 rfl rfl (new_book wl0 o6.vec (by omega) ((b_lts ks))) ?_
            rintro _ w9_1 ⟨gp9_1, F9_1, rfl, p9_1, h9_1⟩
            refine ⟨_, rfl, ?_⟩
            have L7 := Ll0.trans h9_1
            refine W.any (.assign rfl) rfl rfl rfl ?_
            refine W.nil ?_
            refine E.thenN ?_
            refine WC.seq ?_
            refine WC.region ?_
            refine W.any (.move rfl) rfl rfl rfl ?_
            have f8 := (o6.le h9_1)
            refine W.ef rfl rfl rfl ?_
            refine Ef.call go8 rfl rfl (new_book w9_1 f8.vec (by omega) ((b_lts ks))) ?_
            rintro _ w10_1 ⟨gp10_1, F10_1, rfl, p10_1, h10_1⟩
            refine ⟨_, rfl, ?_⟩
            have L9 := L7.trans h10_1
            refine W.any (.assign rfl) rfl rfl rfl ?_
            refine W.nil ?_
            refine E.thenN ?_
            refine WC.seq ?_
            refine WC.seq ?_
            refine WC.region ?_
            refine W.any (.move rfl) rfl rfl rfl ?_
            refine W.any (.dec (.isNilP (by kernel_rfl) rfl) rfl) rfl rfl rfl ?_
            refine W.any (.move rfl) rfl rfl rfl ?_
            refine W.rdg (Any.rd (.move rfl) _) rfl rfl rfl (rfl) rfl rfl ?_
            refine W.rdg (Any.rd (.dec (.isNilP (by kernel_rfl) rfl) rfl) _) rfl rfl rfl (rfl) rfl rfl ?_
            refine W.any (.pickF rfl rfl rfl) rfl rfl rfl ?_
            refine W.nil ?_
            refine E.thenN ?_
            refine WC.condF rfl ?_
            refine WC.skip ?_
            refine E.thenN ?_
            refine WC.seq ?_
            refine WC.region ?_
            refine W.any (.assign rfl) rfl rfl rfl ?_
            refine W.nil ?_
            refine E.thenN ?_
            refine WC.seq ?_
            refine WC.seq ?_
            refine WC.region ?_
            refine W.any (.assign rfl) rfl rfl rfl ?_
            refine W.nil ?_
            refine E.thenN ?_
            refine WC.block ?_
            have f10 := (f8.le h10_1)
            have f11 := (p9_1.le h10_1)
            refine WC.loop (ι := Nat × (Option Addr) × Nat × (List Asp.Ad)) (fun ⟨i, Al, cl, L⟩ => [(0, .slice Ak nk ck), (1, .slice Ae m ce), (2, .slice An nn cn), (7, .bool true), (8, .slice Ab u cb), (10, .pointer (some ⟨gp9_1, 0, none⟩)), (11, .pointer (some ⟨gp10_1, 0, none⟩)), (12, .slice Al i cl), (13, .int .i64 (((i : Nat) : Int)))]) (fun ⟨i, Al, cl, L⟩ wl1 => (i ≤ m) ∧ (OrdI (ks.map base) L) ∧ (0 < i → (L.getD 0 noAd).e = ech (es.getD 0 noEdge)) ∧ (0 < i → 0 ≤ (es.getD 0 noEdge).f ∧ (es.getD 0 noEdge).f ≤ 11 ∧ 0 ≤ (es.getD 0 noEdge).t ∧ (es.getD 0 noEdge).t ≤ 11) ∧ Le w wl1 ∧ w10_1.heap.size ≤ wl1.heap.size ∧ OVec wl1 w1_0.heap.size 36 pv1 1 Ab u cb (ks.map base) ∧ BPool wl1 wl0.heap.size gp9_1 F9_1 (bookN (ks.map base)) ∧ BPool wl1 w9_1.heap.size gp10_1 F10_1 (bookN (ks.map base)) ∧ OVec wl1 w10_1.heap.size 41 adV 13 Al i cl L) (fun ⟨i, Al, cl, L⟩ => m - i) (0, none, 0, []) ?_ ?_ ?_
            · exact .cons rfl (.cons rfl (.cons rfl (.cons rfl (.cons rfl (.cons rfl (.cons rfl (.cons rfl (.cons rfl (.nil _)))))))))
            · exact ⟨Nat.zero_le _, OrdI.nil _, fun h0 => absurd h0 (Nat.lt_irrefl 0), fun h0 => absurd h0 (Nat.lt_irrefl 0), L9, Nat.le_refl _, f10, f11, p10_1, (OVec.nil w10_1 w10_1.heap.size 41 adV 13 none)⟩
            · rintro ⟨i, Al, cl, L⟩ wl1 ⟨hi, hO, hZ, hR, Ll1, zl1, f1_0, f1_1, f1_2, f1_3⟩
              have lb1_4 : w1_0.heap.size ≤ wl1.heap.size := Nat.le_trans lb0_4 (by have := h9_1.size; have := h10_1.size; omega)
              have lb1_9 : w10_1.heap.size ≤ wl1.heap.size := by omega
              refine WC.seq ?_
              refine WC.seq ?_
              refine WC.region ?_
              refine W.any (.move rfl) rfl rfl rfl ?_
              refine W.any (.move rfl) rfl rfl rfl ?_
              refine W.rd (.len Try.underlying49 rfl) rfl rfl rfl ?_
              refine W.any (.lss rfl rfl) rfl rfl rfl ?_
              refine W.nil ?_
              refine E.thenN ?_
              by_cases c3 : ((i : Nat) : Int) < ((m : Nat) : Int)
              · refine WC.condY rfl (decide_eq_true c3) ?_
                have hLl : L.length = i := f1_3.1
                refine WC.skip ?_
                refine E.thenN ?_
                refine WC.seq ?_
                refine WC.block ?_
                refine WC.seq ?_
                refine WC.region ?_
                refine W.any (.move rfl) rfl rfl rfl ?_
                refine W.any (.move rfl) rfl rfl rfl ?_
                refine W.any (.idxS (i) Try.underlying49 sz34 rfl rfl (hE.isSome edgeV_row (by omega)) (rfl) (by omega)) rfl rfl rfl ?_
                refine W.rd (.vload ag34 rfl (hE.le Ll1) edgeV_row (getS es noEdge (by first | omega | (simp only [List.length_cons, List.length_nil]; omega)))) rfl rfl rfl ?_
                refine W.ef rfl rfl rfl ?_
                refine Ef.allocA z34 ?_
                intro g17_4 w17_4 hg17_4 b17_4 h17_4
                have L12 := Ll1.trans h17_4
                have b17_4 : Blk w17_4 g17_4 34 (edgeV noEdge).toArray := b17_4
                refine W.ef0 rfl rfl ?_
                refine Ef.storeAll sz34 (by rfl) rfl rfl b17_4 (by simp only [List.size_toArray, edgeV_row.len]) (edgeV_row.one (es.getD i noEdge)) ?_
                intro w17_5 b17_5 h17_5
                have b17_5 : Blk w17_5 g17_4 34 (edgeV (es.getD i noEdge)).toArray := b17_5
                have L13 : Le w w17_5 := L12.then_ h17_5 (fun q hq => by cases hq; exact Nat.le_trans Ll1.size hg17_4)
                refine W.nil ?_
                refine E.thenN ?_
                refine WC.seq ?_
                refine WC.region ?_
                refine W.any (.field0 fa34_2 rfl) rfl rfl rfl ?_
                refine W.ef0 rfl rfl ?_
                refine Ef.store sz3 rfl rfl b17_5 (by first | decide | (simp; done) | simp [edgeV_row.len]) (rfl) ?_
                intro w18_1 b18_1 h18_1
                have b18_1 : Blk w18_1 g17_4 34 (edgeV (ech (es.getD i noEdge))).toArray := b18_1
                have L14 : Le w w18_1 := L13.then_ h18_1 (fun q hq => by cases hq; exact Nat.le_trans Ll1.size hg17_4)
                refine W.nil ?_
                refine E.thenN ?_
                refine WC.seq ?_
                refine WC.seq ?_
                refine WC.draw [0, 1, 2, 3, 4, 5, 6, 7, 8, 9, 10, 11, 12, 13, 14, 15, 16, 17, 18, 19, 20, 21, 22, 23, 24, 25, 26, 27, 28, 29, 30, 31, 32, 33, 34, 35, 36, 37, 38, 39, 40, 41, 42, 43, 44, 45, 46, 47, 48, 49, 50, 51, 52, 53, 54, 55, 56, 57, 58, 59, 60, 61, 62, 63, 64, 65, 66, 67, 68, 69, 70, 71, 72, 73, 74] mixed (by kernel_rfl) ?_
                intro w19 d19
                have L15 := L14.trans d19
                refine G.any rfl rfl (.field0 fa34_0 rfl) rfl rfl rfl ?_
                have f16 := (b18_1.le d19)
                refine G.rd rfl rfl (.loadB (v := .int .i64 ((ech (es.getD i noEdge)).f)) na3 rfl f16 rfl) rfl rfl rfl ?_
                refine G.any rfl rfl (.lss rfl rfl) rfl rfl rfl ?_
                by_cases q19_3 : ((ech (es.getD i noEdge)).f) < 0
                · refine G.any rfl rfl (.dec (.move rfl) (decide_eq_true q19_3)) rfl rfl rfl ?_
                  refine G.skip rfl rfl rfl rfl (rfl) rfl rfl ?_
                  refine G.skip rfl rfl rfl rfl (rfl) rfl rfl ?_
                  refine G.skip rfl rfl rfl rfl (rfl) rfl rfl ?_
                  refine G.skip rfl rfl rfl rfl (rfl) rfl rfl ?_
                  refine G.skip rfl rfl rfl rfl (rfl) rfl rfl ?_
                  refine G.any rfl rfl (.pickT rfl rfl rfl) rfl rfl rfl ?_
                  refine G.any rfl rfl (.move rfl) rfl rfl rfl ?_
                  refine G.skip rfl rfl rfl rfl (rfl) rfl rfl ?_
                  refine G.skip rfl rfl rfl rfl (rfl) rfl rfl ?_
                  refine G.skip rfl rfl rfl rfl (rfl) rfl rfl ?_
                  refine G.any rfl rfl (.pickT rfl rfl rfl) rfl rfl rfl ?_
                  refine G.any rfl rfl (.move rfl) rfl rfl rfl ?_
                  refine G.skip rfl rfl rfl rfl (rfl) rfl rfl ?_
                  refine G.skip rfl rfl rfl rfl (rfl) rfl rfl ?_
                  refine G.skip rfl rfl rfl rfl (rfl) rfl rfl ?_
                  refine G.any rfl rfl (.pickT rfl rfl rfl) rfl rfl rfl ?_
                  refine G.any rfl rfl (.move rfl) rfl rfl rfl ?_
                  refine G.skip rfl rfl rfl rfl (rfl) rfl rfl ?_
                  refine G.skip rfl rfl rfl rfl (rfl) rfl rfl ?_
                  refine G.skip rfl rfl rfl rfl (rfl) rfl rfl ?_
                  refine G.skip rfl rfl rfl rfl (rfl) rfl rfl ?_
                  refine G.skip rfl rfl rfl rfl (rfl) rfl rfl ?_
                  refine G.any rfl rfl (.pickT rfl rfl rfl) rfl rfl rfl ?_
                  refine G.any rfl rfl (.move rfl) rfl rfl rfl ?_
                  refine G.skip rfl rfl rfl rfl (rfl) rfl rfl ?_
                  refine G.skip rfl rfl rfl rfl (rfl) rfl rfl ?_
                  refine G.skip rfl rfl rfl rfl (rfl) rfl rfl ?_
                  refine G.skipu rfl rfl rfl rfl rfl rfl ?_
                  refine G.skipu rfl rfl rfl rfl rfl rfl ?_
                  refine G.skipu rfl rfl rfl rfl rfl rfl ?_
                  refine G.skipu rfl rfl rfl rfl rfl rfl ?_
                  refine G.skipu rfl rfl rfl rfl rfl rfl ?_
                  refine G.skipu rfl rfl rfl rfl rfl rfl ?_
                  refine G.skipu rfl rfl rfl rfl rfl rfl ?_
                  refine G.skipu rfl rfl rfl rfl rfl rfl ?_
                  refine G.skipu rfl rfl rfl rfl rfl rfl ?_
                  refine G.skipu rfl rfl rfl rfl rfl rfl ?_
                  refine G.skipu rfl rfl rfl rfl rfl rfl ?_
                  refine G.skipu rfl rfl rfl rfl rfl rfl ?_
                  refine G.skipu rfl rfl rfl rfl rfl rfl ?_
                  refine G.skipu rfl rfl rfl rfl rfl rfl ?_
                  refine G.skipu rfl rfl rfl rfl rfl rfl ?_
                  refine G.skipu rfl rfl rfl rfl rfl rfl ?_
                  refine G.skipu rfl rfl rfl rfl rfl rfl ?_
                  refine G.skipu rfl rfl rfl rfl rfl rfl ?_
                  refine G.skipu rfl rfl rfl rfl rfl rfl ?_
                  refine G.skipu rfl rfl rfl rfl rfl rfl ?_
                  refine G.skipu rfl rfl rfl rfl rfl rfl ?_
                  refine G.skipu rfl rfl rfl rfl rfl rfl ?_
                  refine G.skipu rfl rfl rfl rfl rfl rfl ?_
                  refine G.skipu rfl rfl rfl rfl rfl rfl ?_
                  refine G.skipu rfl rfl rfl rfl rfl rfl ?_
                  refine G.skipu rfl rfl rfl rfl rfl rfl ?_
                  refine G.skipu rfl rfl rfl rfl rfl rfl ?_
                  refine G.skipu rfl rfl rfl rfl rfl rfl ?_
                  refine G.skipu rfl rfl rfl rfl rfl rfl ?_
                  refine G.skipu rfl rfl rfl rfl rfl rfl ?_
                  refine G.skipu rfl rfl rfl rfl rfl rfl ?_
                  refine G.skipu rfl rfl rfl rfl rfl rfl ?_
                  refine G.skipu rfl rfl rfl rfl rfl rfl ?_
                  refine G.skipu rfl rfl rfl rfl rfl rfl ?_
                  refine G.skipu rfl rfl rfl rfl rfl rfl ?_
                  refine G.skipu rfl rfl rfl rfl rfl rfl ?_
                  refine G.skipu rfl rfl rfl rfl rfl rfl ?_
                  refine G.skipu rfl rfl rfl rfl rfl rfl ?_
                  refine G.skipu rfl rfl rfl rfl rfl rfl ?_
                  refine G.skipu rfl rfl rfl rfl rfl rfl ?_
                  refine G.skipu rfl rfl rfl rfl rfl rfl ?_
                  refine G.skipu rfl rfl rfl rfl rfl rfl ?_
                  refine G.skip rfl rfl rfl rfl (rfl) rfl rfl ?_
                  refine G.any rfl rfl (.pickT rfl rfl rfl) rfl rfl rfl ?_
                  refine G.nil ?_
                  refine E.thenN ?_
                  refine WC.condT rfl ?_
                  refine WC.seq ?_
                  refine WC.region ?_
                  refine W.any (.move rfl) rfl rfl rfl ?_
                  refine W.any (.assign rfl) rfl rfl rfl ?_
                  refine W.nil ?_
                  refine E.thenN ?_
                  refine WC.ret ?_
                  refine E.thenR ?_
                  refine E.blkR ?_
                  refine E.thenR ?_
                  refine E.thenR ?_
                  refine E.blkR ?_
                  refine E.thenR ?_
                  refine E.retG1 rfl rfl ?_
                  exact ⟨rfl, L15⟩
                · refine G.any rfl rfl (.dec (.move rfl) (decide_eq_false q19_3)) rfl rfl rfl ?_
                  refine G.anyg rfl rfl (.field0 fa34_0 rfl) rfl rfl rfl (rfl) rfl rfl ?_
                  refine G.rdg rfl rfl (.loadB (v := .int .i64 ((ech (es.getD i noEdge)).f)) na3 rfl f16 rfl) rfl rfl rfl (rfl) rfl rfl ?_
                  refine G.anyg rfl rfl (.move rfl) rfl rfl rfl (rfl) rfl rfl ?_
                  refine G.rdg rfl rfl (.len Try.underlying48 rfl) rfl rfl rfl (rfl) rfl rfl ?_
                  refine G.anyg rfl rfl (.geq rfl rfl) rfl rfl rfl (rfl) rfl rfl ?_
                  refine G.any rfl rfl (.pickF rfl rfl rfl) rfl rfl rfl ?_
                  by_cases q19_10 : ((nk : Nat) : Int) ≤ ((ech (es.getD i noEdge)).f)
                  · refine G.any rfl rfl (.dec (.move rfl) (decide_eq_true q19_10)) rfl rfl rfl ?_
                    refine G.skip rfl rfl rfl rfl (rfl) rfl rfl ?_
                    refine G.skip rfl rfl rfl rfl (rfl) rfl rfl ?_
                    refine G.skip rfl rfl rfl rfl (rfl) rfl rfl ?_
                    refine G.any rfl rfl (.pickT rfl rfl rfl) rfl rfl rfl ?_
                    refine G.any rfl rfl (.move rfl) rfl rfl rfl ?_
                    refine G.skip rfl rfl rfl rfl (rfl) rfl rfl ?_
                    refine G.skip rfl rfl rfl rfl (rfl) rfl rfl ?_
                    refine G.skip rfl rfl rfl rfl (rfl) rfl rfl ?_
                    refine G.any rfl rfl (.pickT rfl rfl rfl) rfl rfl rfl ?_
                    refine G.any rfl rfl (.move rfl) rfl rfl rfl ?_
                    refine G.skip rfl rfl rfl rfl (rfl) rfl rfl ?_
                    refine G.skip rfl rfl rfl rfl (rfl) rfl rfl ?_
                    refine G.skip rfl rfl rfl rfl (rfl) rfl rfl ?_
                    refine G.skip rfl rfl rfl rfl (rfl) rfl rfl ?_
                    refine G.skip rfl rfl rfl rfl (rfl) rfl rfl ?_
                    refine G.any rfl rfl (.pickT rfl rfl rfl) rfl rfl rfl ?_
                    refine G.any rfl rfl (.move rfl) rfl rfl rfl ?_
                    refine G.skip rfl rfl rfl rfl (rfl) rfl rfl ?_
                    refine G.skip rfl rfl rfl rfl (rfl) rfl rfl ?_
                    refine G.skip rfl rfl rfl rfl (rfl) rfl rfl ?_
                    refine G.skipu rfl rfl rfl rfl rfl rfl ?_
                    refine G.skipu rfl rfl rfl rfl rfl rfl ?_
                    refine G.skipu rfl rfl rfl rfl rfl rfl ?_
                    refine G.skipu rfl rfl rfl rfl rfl rfl ?_
                    refine G.skipu rfl rfl rfl rfl rfl rfl ?_
                    refine G.skipu rfl rfl rfl rfl rfl rfl ?_
                    refine G.skipu rfl rfl rfl rfl rfl rfl ?_
                    refine G.skipu rfl rfl rfl rfl rfl rfl ?_
                    refine G.skipu rfl rfl rfl rfl rfl rfl ?_
                    refine G.skipu rfl rfl rfl rfl rfl rfl ?_
                    refine G.skipu rfl rfl rfl rfl rfl rfl ?_
                    refine G.skipu rfl rfl rfl rfl rfl rfl ?_
                    refine G.skipu rfl rfl rfl rfl rfl rfl ?_
                    refine G.skipu rfl rfl rfl rfl rfl rfl ?_
                    refine G.skipu rfl rfl rfl rfl rfl rfl ?_
                    refine G.skipu rfl rfl rfl rfl rfl rfl ?_
                    refine G.skipu rfl rfl rfl rfl rfl rfl ?_
                    refine G.skipu rfl rfl rfl rfl rfl rfl ?_
                    refine G.skipu rfl rfl rfl rfl rfl rfl ?_
                    refine G.skipu rfl rfl rfl rfl rfl rfl ?_
                    refine G.skipu rfl rfl rfl rfl rfl rfl ?_
                    refine G.skipu rfl rfl rfl rfl rfl rfl ?_
                    refine G.skipu rfl rfl rfl rfl rfl rfl ?_
                    refine G.skipu rfl rfl rfl rfl rfl rfl ?_
                    refine G.skipu rfl rfl rfl rfl rfl rfl ?_
                    refine G.skipu rfl rfl rfl rfl rfl rfl ?_
                    refine G.skipu rfl rfl rfl rfl rfl rfl ?_
                    refine G.skipu rfl rfl rfl rfl rfl rfl ?_
                    refine G.skipu rfl rfl rfl rfl rfl rfl ?_
                    refine G.skipu rfl rfl rfl rfl rfl rfl ?_
                    refine G.skipu rfl rfl rfl rfl rfl rfl ?_
                    refine G.skipu rfl rfl rfl rfl rfl rfl ?_
                    refine G.skipu rfl rfl rfl rfl rfl rfl ?_
                    refine G.skipu rfl rfl rfl rfl rfl rfl ?_
                    refine G.skipu rfl rfl rfl rfl rfl rfl ?_
                    refine G.skipu rfl rfl rfl rfl rfl rfl ?_
                    refine G.skipu rfl rfl rfl rfl rfl rfl ?_
                    refine G.skipu rfl rfl rfl rfl rfl rfl ?_
                    refine G.skipu rfl rfl rfl rfl rfl rfl ?_
                    refine G.skipu rfl rfl rfl rfl rfl rfl ?_
                    refine G.skipu rfl rfl rfl rfl rfl rfl ?_
                    refine G.skipu rfl rfl rfl rfl rfl rfl ?_
                    refine G.skip rfl rfl rfl rfl (rfl) rfl rfl ?_
                    refine G.any rfl rfl (.pickT rfl rfl rfl) rfl rfl rfl ?_
                    refine G.nil ?_
                    refine E.thenN ?_
                    refine WC.condT rfl ?_
                    refine WC.seq ?_
                    refine WC.region ?_
                    refine W.any (.move rfl) rfl rfl rfl ?_
                    refine W.any (.assign rfl) rfl rfl rfl ?_
                    refine W.nil ?_
                    refine E.thenN ?_
                    refine WC.ret ?_
                    refine E.thenR ?_
                    refine E.blkR ?_
                    refine E.thenR ?_
                    refine E.thenR ?_
                    refine E.blkR ?_
                    refine E.thenR ?_
                    refine E.retG1 rfl rfl ?_
                    exact ⟨rfl, L15⟩
                  · refine G.any rfl rfl (.dec (.move rfl) (decide_eq_false q19_10)) rfl rfl rfl ?_
                    refine G.anyg rfl rfl (.field0 fa34_1 rfl) rfl rfl rfl (rfl) rfl rfl ?_
                    refine G.rdg rfl rfl (.loadB (v := .int .i64 ((ech (es.getD i noEdge)).t)) na3 rfl f16 rfl) rfl rfl rfl (rfl) rfl rfl ?_
                    refine G.anyg rfl rfl (.lss rfl rfl) rfl rfl rfl (rfl) rfl rfl ?_
                    refine G.any rfl rfl (.pickF rfl rfl rfl) rfl rfl rfl ?_
                    by_cases q19_15 : ((ech (es.getD i noEdge)).t) < 0
                    · refine G.any rfl rfl (.dec (.move rfl) (decide_eq_true q19_15)) rfl rfl rfl ?_
                      refine G.skip rfl rfl rfl rfl (rfl) rfl rfl ?_
                      refine G.skip rfl rfl rfl rfl (rfl) rfl rfl ?_
                      refine G.skip rfl rfl rfl rfl (rfl) rfl rfl ?_
                      refine G.any rfl rfl (.pickT rfl rfl rfl) rfl rfl rfl ?_
                      refine G.any rfl rfl (.move rfl) rfl rfl rfl ?_
                      refine G.skip rfl rfl rfl rfl (rfl) rfl rfl ?_
                      refine G.skip rfl rfl rfl rfl (rfl) rfl rfl ?_
                      refine G.skip rfl rfl rfl rfl (rfl) rfl rfl ?_
                      refine G.skip rfl rfl rfl rfl (rfl) rfl rfl ?_
                      refine G.skip rfl rfl rfl rfl (rfl) rfl rfl ?_
                      refine G.any rfl rfl (.pickT rfl rfl rfl) rfl rfl rfl ?_
                      refine G.any rfl rfl (.move rfl) rfl rfl rfl ?_
                      refine G.skip rfl rfl rfl rfl (rfl) rfl rfl ?_
                      refine G.skip rfl rfl rfl rfl (rfl) rfl rfl ?_
                      refine G.skip rfl rfl rfl rfl (rfl) rfl rfl ?_
                      refine G.skipu rfl rfl rfl rfl rfl rfl ?_
                      refine G.skipu rfl rfl rfl rfl rfl rfl ?_
                      refine G.skipu rfl rfl rfl rfl rfl rfl ?_
                      refine G.skipu rfl rfl rfl rfl rfl rfl ?_
                      refine G.skipu rfl rfl rfl rfl rfl rfl ?_
                      refine G.skipu rfl rfl rfl rfl rfl rfl ?_
                      refine G.skipu rfl rfl rfl rfl rfl rfl ?_
                      refine G.skipu rfl rfl rfl rfl rfl rfl ?_
                      refine G.skipu rfl rfl rfl rfl rfl rfl ?_
                      refine G.skipu rfl rfl rfl rfl rfl rfl ?_
                      refine G.skipu rfl rfl rfl rfl rfl rfl ?_
                      refine G.skipu rfl rfl rfl rfl rfl rfl ?_
                      refine G.skipu rfl rfl rfl rfl rfl rfl ?_
                      refine G.skipu rfl rfl rfl rfl rfl rfl ?_
                      refine G.skipu rfl rfl rfl rfl rfl rfl ?_
                      refine G.skipu rfl rfl rfl rfl rfl rfl ?_
                      refine G.skipu rfl rfl rfl rfl rfl rfl ?_
                      refine G.skipu rfl rfl rfl rfl rfl rfl ?_
                      refine G.skipu rfl rfl rfl rfl rfl rfl ?_
                      refine G.skipu rfl rfl rfl rfl rfl rfl ?_
                      refine G.skipu rfl rfl rfl rfl rfl rfl ?_
                      refine G.skipu rfl rfl rfl rfl rfl rfl ?_
                      refine G.skipu rfl rfl rfl rfl rfl rfl ?_
                      refine G.skipu rfl rfl rfl rfl rfl rfl ?_
                      refine G.skipu rfl rfl rfl rfl rfl rfl ?_
                      refine G.skipu rfl rfl rfl rfl rfl rfl ?_
                      refine G.skipu rfl rfl rfl rfl rfl rfl ?_
                      refine G.skipu rfl rfl rfl rfl rfl rfl ?_
                      refine G.skipu rfl rfl rfl rfl rfl rfl ?_
                      refine G.skipu rfl rfl rfl rfl rfl rfl ?_
                      refine G.skipu rfl rfl rfl rfl rfl rfl ?_
                      refine G.skipu rfl rfl rfl rfl rfl rfl ?_
                      refine G.skipu rfl rfl rfl rfl rfl rfl ?_
                      refine G.skipu rfl rfl rfl rfl rfl rfl ?_
                      refine G.skipu rfl rfl rfl rfl rfl rfl ?_
                      refine G.skipu rfl rfl rfl rfl rfl rfl ?_
                      refine G.skipu rfl rfl rfl rfl rfl rfl ?_
                      refine G.skipu rfl rfl rfl rfl rfl rfl ?_
                      refine G.skipu rfl rfl rfl rfl rfl rfl ?_
                      refine G.skipu rfl rfl rfl rfl rfl rfl ?_
                      refine G.skipu rfl rfl rfl rfl rfl rfl ?_
                      refine G.skipu rfl rfl rfl rfl rfl rfl ?_
                      refine G.skip rfl rfl rfl rfl (rfl) rfl rfl ?_
                      refine G.any rfl rfl (.pickT rfl rfl rfl) rfl rfl rfl ?_
                      refine G.nil ?_
                      refine E.thenN ?_
                      refine WC.condT rfl ?_
                      refine WC.seq ?_
                      refine WC.region ?_
                      refine W.any (.move rfl) rfl rfl rfl ?_
                      refine W.any (.assign rfl) rfl rfl rfl ?_
                      refine W.nil ?_
                      refine E.thenN ?_
                      refine WC.ret ?_
                      refine E.thenR ?_
                      refine E.blkR ?_
                      refine E.thenR ?_
                      refine E.thenR ?_
                      refine E.blkR ?_
                      refine E.thenR ?_
                      refine E.retG1 rfl rfl ?_
                      exact ⟨rfl, L15⟩
                    · refine G.any rfl rfl (.dec (.move rfl) (decide_eq_false q19_15)) rfl rfl rfl ?_
                      refine G.anyg rfl rfl (.field0 fa34_1 rfl) rfl rfl rfl (rfl) rfl rfl ?_
                      refine G.rdg rfl rfl (.loadB (v := .int .i64 ((ech (es.getD i noEdge)).t)) na3 rfl f16 rfl) rfl rfl rfl (rfl) rfl rfl ?_
                      refine G.anyg rfl rfl (.gtr rfl rfl) rfl rfl rfl (rfl) rfl rfl ?_
                      refine G.any rfl rfl (.pickF rfl rfl rfl) rfl rfl rfl ?_
                      by_cases q19_20 : 11 < ((ech (es.getD i noEdge)).t)
                      · refine G.any rfl rfl (.dec (.move rfl) (decide_eq_true q19_20)) rfl rfl rfl ?_
                        refine G.skip rfl rfl rfl rfl (rfl) rfl rfl ?_
                        refine G.skip rfl rfl rfl rfl (rfl) rfl rfl ?_
                        refine G.skip rfl rfl rfl rfl (rfl) rfl rfl ?_
                        refine G.skip rfl rfl rfl rfl (rfl) rfl rfl ?_
                        refine G.skip rfl rfl rfl rfl (rfl) rfl rfl ?_
                        refine G.any rfl rfl (.pickT rfl rfl rfl) rfl rfl rfl ?_
                        refine G.any rfl rfl (.move rfl) rfl rfl rfl ?_
                        refine G.skip rfl rfl rfl rfl (rfl) rfl rfl ?_
                        refine G.skip rfl rfl rfl rfl (rfl) rfl rfl ?_
                        refine G.skip rfl rfl rfl rfl (rfl) rfl rfl ?_
                        refine G.skipu rfl rfl rfl rfl rfl rfl ?_
                        refine G.skipu rfl rfl rfl rfl rfl rfl ?_
                        refine G.skipu rfl rfl rfl rfl rfl rfl ?_
                        refine G.skipu rfl rfl rfl rfl rfl rfl ?_
                        refine G.skipu rfl rfl rfl rfl rfl rfl ?_
                        refine G.skipu rfl rfl rfl rfl rfl rfl ?_
                        refine G.skipu rfl rfl rfl rfl rfl rfl ?_
                        refine G.skipu rfl rfl rfl rfl rfl rfl ?_
                        refine G.skipu rfl rfl rfl rfl rfl rfl ?_
                        refine G.skipu rfl rfl rfl rfl rfl rfl ?_
                        refine G.skipu rfl rfl rfl rfl rfl rfl ?_
                        refine G.skipu rfl rfl rfl rfl rfl rfl ?_
                        refine G.skipu rfl rfl rfl rfl rfl rfl ?_
                        refine G.skipu rfl rfl rfl rfl rfl rfl ?_
                        refine G.skipu rfl rfl rfl rfl rfl rfl ?_
                        refine G.skipu rfl rfl rfl rfl rfl rfl ?_
                        refine G.skipu rfl rfl rfl rfl rfl rfl ?_
                        refine G.skipu rfl rfl rfl rfl rfl rfl ?_
                        refine G.skipu rfl rfl rfl rfl rfl rfl ?_
                        refine G.skipu rfl rfl rfl rfl rfl rfl ?_
                        refine G.skipu rfl rfl rfl rfl rfl rfl ?_
                        refine G.skipu rfl rfl rfl rfl rfl rfl ?_
                        refine G.skipu rfl rfl rfl rfl rfl rfl ?_
                        refine G.skipu rfl rfl rfl rfl rfl rfl ?_
                        refine G.skipu rfl rfl rfl rfl rfl rfl ?_
                        refine G.skipu rfl rfl rfl rfl rfl rfl ?_
                        refine G.skipu rfl rfl rfl rfl rfl rfl ?_
                        refine G.skipu rfl rfl rfl rfl rfl rfl ?_
                        refine G.skipu rfl rfl rfl rfl rfl rfl ?_
                        refine G.skipu rfl rfl rfl rfl rfl rfl ?_
                        refine G.skipu rfl rfl rfl rfl rfl rfl ?_
                        refine G.skipu rfl rfl rfl rfl rfl rfl ?_
                        refine G.skipu rfl rfl rfl rfl rfl rfl ?_
                        refine G.skipu rfl rfl rfl rfl rfl rfl ?_
                        refine G.skipu rfl rfl rfl rfl rfl rfl ?_
                        refine G.skipu rfl rfl rfl rfl rfl rfl ?_
                        refine G.skipu rfl rfl rfl rfl rfl rfl ?_
                        refine G.skipu rfl rfl rfl rfl rfl rfl ?_
                        refine G.skipu rfl rfl rfl rfl rfl rfl ?_
                        refine G.skipu rfl rfl rfl rfl rfl rfl ?_
                        refine G.skipu rfl rfl rfl rfl rfl rfl ?_
                        refine G.skipu rfl rfl rfl rfl rfl rfl ?_
                        refine G.skip rfl rfl rfl rfl (rfl) rfl rfl ?_
                        refine G.any rfl rfl (.pickT rfl rfl rfl) rfl rfl rfl ?_
                        refine G.nil ?_
                        refine E.thenN ?_
                        refine WC.condT rfl ?_
                        refine WC.seq ?_
                        refine WC.region ?_
                        refine W.any (.move rfl) rfl rfl rfl ?_
                        refine W.any (.assign rfl) rfl rfl rfl ?_
                        refine W.nil ?_
                        refine E.thenN ?_
                        refine WC.ret ?_
                        refine E.thenR ?_
                        refine E.blkR ?_
                        refine E.thenR ?_
                        refine E.thenR ?_
                        refine E.blkR ?_
                        refine E.thenR ?_
                        refine E.retG1 rfl rfl ?_
                        exact ⟨rfl, L15⟩
                      · refine G.any rfl rfl (.dec (.move rfl) (decide_eq_false q19_20)) rfl rfl rfl ?_
                        refine G.anyg rfl rfl (.field0 fa34_0 rfl) rfl rfl rfl (rfl) rfl rfl ?_
                        refine G.rdg rfl rfl (.loadB (v := .int .i64 ((ech (es.getD i noEdge)).f)) na3 rfl f16 rfl) rfl rfl rfl (rfl) rfl rfl ?_
                        refine G.anyg rfl rfl (.field0 fa34_1 rfl) rfl rfl rfl (rfl) rfl rfl ?_
                        refine G.rdg rfl rfl (.loadB (v := .int .i64 ((ech (es.getD i noEdge)).t)) na3 rfl f16 rfl) rfl rfl rfl (rfl) rfl rfl ?_
                        refine G.anyg rfl rfl (.eql rfl rfl) rfl rfl rfl (rfl) rfl rfl ?_
                        refine G.any rfl rfl (.pickF rfl rfl rfl) rfl rfl rfl ?_
                        by_cases q19_27 : ((ech (es.getD i noEdge)).f) = ((ech (es.getD i noEdge)).t)
                        · refine G.any rfl rfl (.dec (.move rfl) (decide_eq_true q19_27)) rfl rfl rfl ?_
                          refine G.skip rfl rfl rfl rfl (rfl) rfl rfl ?_
                          refine G.skip rfl rfl rfl rfl (rfl) rfl rfl ?_
                          refine G.skip rfl rfl rfl rfl (rfl) rfl rfl ?_
                          refine G.skipu rfl rfl rfl rfl rfl rfl ?_
                          refine G.skipu rfl rfl rfl rfl rfl rfl ?_
                          refine G.skipu rfl rfl rfl rfl rfl rfl ?_
                          refine G.skipu rfl rfl rfl rfl rfl rfl ?_
                          refine G.skipu rfl rfl rfl rfl rfl rfl ?_
                          refine G.skipu rfl rfl rfl rfl rfl rfl ?_
                          refine G.skipu rfl rfl rfl rfl rfl rfl ?_
                          refine G.skipu rfl rfl rfl rfl rfl rfl ?_
                          refine G.skipu rfl rfl rfl rfl rfl rfl ?_
                          refine G.skipu rfl rfl rfl rfl rfl rfl ?_
                          refine G.skipu rfl rfl rfl rfl rfl rfl ?_
                          refine G.skipu rfl rfl rfl rfl rfl rfl ?_
                          refine G.skipu rfl rfl rfl rfl rfl rfl ?_
                          refine G.skipu rfl rfl rfl rfl rfl rfl ?_
                          refine G.skipu rfl rfl rfl rfl rfl rfl ?_
                          refine G.skipu rfl rfl rfl rfl rfl rfl ?_
                          refine G.skipu rfl rfl rfl rfl rfl rfl ?_
                          refine G.skipu rfl rfl rfl rfl rfl rfl ?_
                          refine G.skipu rfl rfl rfl rfl rfl rfl ?_
                          refine G.skipu rfl rfl rfl rfl rfl rfl ?_
                          refine G.skipu rfl rfl rfl rfl rfl rfl ?_
                          refine G.skipu rfl rfl rfl rfl rfl rfl ?_
                          refine G.skipu rfl rfl rfl rfl rfl rfl ?_
                          refine G.skipu rfl rfl rfl rfl rfl rfl ?_
                          refine G.skipu rfl rfl rfl rfl rfl rfl ?_
                          refine G.skipu rfl rfl rfl rfl rfl rfl ?_
                          refine G.skipu rfl rfl rfl rfl rfl rfl ?_
                          refine G.skipu rfl rfl rfl rfl rfl rfl ?_
                          refine G.skipu rfl rfl rfl rfl rfl rfl ?_
                          refine G.skipu rfl rfl rfl rfl rfl rfl ?_
                          refine G.skipu rfl rfl rfl rfl rfl rfl ?_
                          refine G.skipu rfl rfl rfl rfl rfl rfl ?_
                          refine G.skipu rfl rfl rfl rfl rfl rfl ?_
                          refine G.skipu rfl rfl rfl rfl rfl rfl ?_
                          refine G.skipu rfl rfl rfl rfl rfl rfl ?_
                          refine G.skipu rfl rfl rfl rfl rfl rfl ?_
                          refine G.skipu rfl rfl rfl rfl rfl rfl ?_
                          refine G.skipu rfl rfl rfl rfl rfl rfl ?_
                          refine G.skipu rfl rfl rfl rfl rfl rfl ?_
                          refine G.skipu rfl rfl rfl rfl rfl rfl ?_
                          refine G.skipu rfl rfl rfl rfl rfl rfl ?_
                          refine G.skipu rfl rfl rfl rfl rfl rfl ?_
                          refine G.skip rfl rfl rfl rfl (rfl) rfl rfl ?_
                          refine G.any rfl rfl (.pickT rfl rfl rfl) rfl rfl rfl ?_
                          refine G.nil ?_
                          refine E.thenN ?_
                          refine WC.condT rfl ?_
                          refine WC.seq ?_
                          refine WC.region ?_
                          refine W.any (.move rfl) rfl rfl rfl ?_
                          refine W.any (.assign rfl) rfl rfl rfl ?_
                          refine W.nil ?_
                          refine E.thenN ?_
                          refine WC.ret ?_
                          refine E.thenR ?_
                          refine E.blkR ?_
                          refine E.thenR ?_
                          refine E.thenR ?_
                          refine E.blkR ?_
                          refine E.thenR ?_
                          refine E.retG1 rfl rfl ?_
                          exact ⟨rfl, L15⟩
                        · refine G.any rfl rfl (.dec (.move rfl) (decide_eq_false q19_27)) rfl rfl rfl ?_
                          refine G.anyg rfl rfl (.move rfl) rfl rfl rfl (rfl) rfl rfl ?_
                          refine G.anyg rfl rfl (.gtr rfl rfl) rfl rfl rfl (rfl) rfl rfl ?_
                          by_cases q19_30 : 0 < ((i : Nat) : Int)
                          · refine G.anyg rfl rfl (.dec (.move rfl) (decide_eq_true q19_30)) rfl rfl rfl (rfl) rfl rfl ?_
                            refine G.anyg rfl rfl (.field0 fa34_3 rfl) rfl rfl rfl (rfl) rfl rfl ?_
                            refine G.rdg rfl rfl (.loadB (v := .int .i64 ((ech (es.getD i noEdge)).r)) na3 rfl f16 rfl) rfl rfl rfl (rfl) rfl rfl ?_
                            refine G.anyg rfl rfl (.move rfl) rfl rfl rfl (rfl) rfl rfl ?_
                            refine G.anyg rfl rfl (.idxS (0) Try.underlying49 sz34 rfl rfl (hE.isSome edgeV_row (by omega)) (by omega) (by omega)) rfl rfl rfl (rfl) rfl rfl ?_
                            refine G.anyg rfl rfl (.vfield fa34_3 (hE.isSome edgeV_row (by omega)) rfl) rfl rfl rfl (rfl) rfl rfl ?_
                            refine G.rdg rfl rfl (.vcell (j := 0) (o := 3) (v := .int .i64 ((es.getD 0 noEdge).r)) na3 rfl (hE.le L15) edgeV_row (getS es noEdge (by first | omega | (simp only [List.length_cons, List.length_nil]; omega))) rfl) rfl rfl rfl (rfl) rfl rfl ?_
                            refine G.anyg rfl rfl (.neq rfl rfl) rfl rfl rfl (rfl) rfl rfl ?_
                            by_cases q19_38 : ((ech (es.getD i noEdge)).r) ≠ ((es.getD 0 noEdge).r)
                            · refine G.anyg rfl rfl (.dec (.move rfl) (decide_eq_true q19_38)) rfl rfl rfl (rfl) rfl rfl ?_
                              refine G.skip rfl rfl rfl rfl (rfl) rfl rfl ?_
                              refine G.skip rfl rfl rfl rfl (rfl) rfl rfl ?_
                              refine G.skip rfl rfl rfl rfl (rfl) rfl rfl ?_
                              refine G.skip rfl rfl rfl rfl (rfl) rfl rfl ?_
                              refine G.skip rfl rfl rfl rfl (rfl) rfl rfl ?_
                              refine G.skip rfl rfl rfl rfl (rfl) rfl rfl ?_
                              refine G.skip rfl rfl rfl rfl (rfl) rfl rfl ?_
                              refine G.skip rfl rfl rfl rfl (rfl) rfl rfl ?_
                              refine G.skip rfl rfl rfl rfl (rfl) rfl rfl ?_
                              refine G.skip rfl rfl rfl rfl (rfl) rfl rfl ?_
                              refine G.skip rfl rfl rfl rfl (rfl) rfl rfl ?_
                              refine G.skip rfl rfl rfl rfl (rfl) rfl rfl ?_
                              refine G.skip rfl rfl rfl rfl (rfl) rfl rfl ?_
                              refine G.skip rfl rfl rfl rfl (rfl) rfl rfl ?_
                              refine G.skip rfl rfl rfl rfl (rfl) rfl rfl ?_
                              refine G.anyg rfl rfl (.pickT rfl rfl rfl) rfl rfl rfl (rfl) rfl rfl ?_
                              refine G.anyg rfl rfl (.move rfl) rfl rfl rfl (rfl) rfl rfl ?_
                              refine G.skip rfl rfl rfl rfl (rfl) rfl rfl ?_
                              refine G.skip rfl rfl rfl rfl (rfl) rfl rfl ?_
                              refine G.skip rfl rfl rfl rfl (rfl) rfl rfl ?_
                              refine G.skip rfl rfl rfl rfl (rfl) rfl rfl ?_
                              refine G.skip rfl rfl rfl rfl (rfl) rfl rfl ?_
                              refine G.skip rfl rfl rfl rfl (rfl) rfl rfl ?_
                              refine G.skip rfl rfl rfl rfl (rfl) rfl rfl ?_
                              refine G.skip rfl rfl rfl rfl (rfl) rfl rfl ?_
                              refine G.skipu rfl rfl rfl rfl rfl rfl ?_
                              refine G.skipu rfl rfl rfl rfl rfl rfl ?_
                              refine G.skipu rfl rfl rfl rfl rfl rfl ?_
                              refine G.skipu rfl rfl rfl rfl rfl rfl ?_
                              refine G.skipu rfl rfl rfl rfl rfl rfl ?_
                              refine G.skipu rfl rfl rfl rfl rfl rfl ?_
                              refine G.skipu rfl rfl rfl rfl rfl rfl ?_
                              refine G.skip rfl rfl rfl rfl (rfl) rfl rfl ?_
                              refine G.anyg rfl rfl (.pickT rfl rfl rfl) rfl rfl rfl (rfl) rfl rfl ?_
                              refine G.anyg rfl rfl (.pickT rfl rfl rfl) rfl rfl rfl (rfl) rfl rfl ?_
                              refine G.any rfl rfl (.pickF rfl rfl rfl) rfl rfl rfl ?_
                              refine G.nil ?_
                              refine E.thenN ?_
                              refine WC.condT rfl ?_
                              refine WC.seq ?_
                              refine WC.region ?_
                              refine W.any (.move rfl) rfl rfl rfl ?_
                              refine W.any (.assign rfl) rfl rfl rfl ?_
                              refine W.nil ?_
                              refine E.thenN ?_
                              refine WC.ret ?_
                              refine E.thenR ?_
                              refine E.blkR ?_
                              refine E.thenR ?_
                              refine E.thenR ?_
                              refine E.blkR ?_
                              refine E.thenR ?_
                              refine E.retG1 rfl rfl ?_
                              exact ⟨rfl, L15⟩
                            · refine G.anyg rfl rfl (.dec (.move rfl) (decide_eq_false q19_38)) rfl rfl rfl (rfl) rfl rfl ?_
                              refine G.anyg rfl rfl (.field0 fa34_0 rfl) rfl rfl rfl (rfl) rfl rfl ?_
                              refine G.rdg rfl rfl (.loadB (v := .int .i64 ((ech (es.getD i noEdge)).f)) na3 rfl f16 rfl) rfl rfl rfl (rfl) rfl rfl ?_
                              refine G.anyg rfl rfl (.field0 fa34_1 rfl) rfl rfl rfl (rfl) rfl rfl ?_
                              refine G.rdg rfl rfl (.loadB (v := .int .i64 ((ech (es.getD i noEdge)).t)) na3 rfl f16 rfl) rfl rfl rfl (rfl) rfl rfl ?_
                              refine G.anyg rfl rfl (.add rfl rfl (by have := hR (by omega); omega)) rfl rfl rfl (rfl) rfl rfl ?_
                              refine G.anyg rfl rfl (.move rfl) rfl rfl rfl (rfl) rfl rfl ?_
                              refine G.anyg rfl rfl (.idxS (0) Try.underlying49 sz34 rfl rfl (hE.isSome edgeV_row (by omega)) (by omega) (by omega)) rfl rfl rfl (rfl) rfl rfl ?_
                              refine G.anyg rfl rfl (.vfield fa34_0 (hE.isSome edgeV_row (by omega)) rfl) rfl rfl rfl (rfl) rfl rfl ?_
                              refine G.rdg rfl rfl (.vcell (j := 0) (o := 0) (v := .int .i64 ((es.getD 0 noEdge).f)) na3 rfl (hE.le L15) edgeV_row (getS es noEdge (by first | omega | (simp only [List.length_cons, List.length_nil]; omega))) rfl) rfl rfl rfl (rfl) rfl rfl ?_
                              refine G.anyg rfl rfl (.move rfl) rfl rfl rfl (rfl) rfl rfl ?_
                              refine G.anyg rfl rfl (.idxS (0) Try.underlying49 sz34 rfl rfl (hE.isSome edgeV_row (by omega)) (by omega) (by omega)) rfl rfl rfl (rfl) rfl rfl ?_
                              refine G.anyg rfl rfl (.vfield fa34_1 (hE.isSome edgeV_row (by omega)) rfl) rfl rfl rfl (rfl) rfl rfl ?_
                              refine G.rdg rfl rfl (.vcell (j := 0) (o := 1) (v := .int .i64 ((es.getD 0 noEdge).t)) na3 rfl (hE.le L15) edgeV_row (getS es noEdge (by first | omega | (simp only [List.length_cons, List.length_nil]; omega))) rfl) rfl rfl rfl (rfl) rfl rfl ?_
                              refine G.anyg rfl rfl (.add rfl rfl (by have := hR (by omega); omega)) rfl rfl rfl (rfl) rfl rfl ?_
                              refine G.anyg rfl rfl (.neq rfl rfl) rfl rfl rfl (rfl) rfl rfl ?_
                              refine G.anyg rfl rfl (.pickF rfl rfl rfl) rfl rfl rfl (rfl) rfl rfl ?_
                              by_cases q19_55 : (((ech (es.getD i noEdge)).f) + ((ech (es.getD i noEdge)).t)) ≠ (((es.getD 0 noEdge).f) + ((es.getD 0 noEdge).t))
                              · refine G.anyg rfl rfl (.dec (.move rfl) (decide_eq_true q19_55)) rfl rfl rfl (rfl) rfl rfl ?_
                                refine G.skip rfl rfl rfl rfl (rfl) rfl rfl ?_
                                refine G.skip rfl rfl rfl rfl (rfl) rfl rfl ?_
                                refine G.skip rfl rfl rfl rfl (rfl) rfl rfl ?_
                                refine G.skip rfl rfl rfl rfl (rfl) rfl rfl ?_
                                refine G.skip rfl rfl rfl rfl (rfl) rfl rfl ?_
                                refine G.skip rfl rfl rfl rfl (rfl) rfl rfl ?_
                                refine G.skip rfl rfl rfl rfl (rfl) rfl rfl ?_
                                refine G.skip rfl rfl rfl rfl (rfl) rfl rfl ?_
                                refine G.skipu rfl rfl rfl rfl rfl rfl ?_
                                refine G.skipu rfl rfl rfl rfl rfl rfl ?_
                                refine G.skipu rfl rfl rfl rfl rfl rfl ?_
                                refine G.skipu rfl rfl rfl rfl rfl rfl ?_
                                refine G.skipu rfl rfl rfl rfl rfl rfl ?_
                                refine G.skipu rfl rfl rfl rfl rfl rfl ?_
                                refine G.skipu rfl rfl rfl rfl rfl rfl ?_
                                refine G.skip rfl rfl rfl rfl (rfl) rfl rfl ?_
                                refine G.anyg rfl rfl (.pickT rfl rfl rfl) rfl rfl rfl (rfl) rfl rfl ?_
                                refine G.anyg rfl rfl (.pickT rfl rfl rfl) rfl rfl rfl (rfl) rfl rfl ?_
                                refine G.any rfl rfl (.pickF rfl rfl rfl) rfl rfl rfl ?_
                                refine G.nil ?_
                                refine E.thenN ?_
                                refine WC.condT rfl ?_
                                refine WC.seq ?_
                                refine WC.region ?_
                                refine W.any (.move rfl) rfl rfl rfl ?_
                                refine W.any (.assign rfl) rfl rfl rfl ?_
                                refine W.nil ?_
                                refine E.thenN ?_
                                refine WC.ret ?_
                                refine E.thenR ?_
                                refine E.blkR ?_
                                refine E.thenR ?_
                                refine E.thenR ?_
                                refine E.blkR ?_
                                refine E.thenR ?_
                                refine E.retG1 rfl rfl ?_
                                exact ⟨rfl, L15⟩
                              · refine G.anyg rfl rfl (.dec (.move rfl) (decide_eq_false q19_55)) rfl rfl rfl (rfl) rfl rfl ?_
                                refine G.anyg rfl rfl (.field0 fa34_0 rfl) rfl rfl rfl (rfl) rfl rfl ?_
                                refine G.rdg rfl rfl (.loadB (v := .int .i64 ((ech (es.getD i noEdge)).f)) na3 rfl f16 rfl) rfl rfl rfl (rfl) rfl rfl ?_
                                refine G.anyg rfl rfl (.move rfl) rfl rfl rfl (rfl) rfl rfl ?_
                                refine G.anyg rfl rfl (.idxS (0) Try.underlying49 sz34 rfl rfl (hE.isSome edgeV_row (by omega)) (by omega) (by omega)) rfl rfl rfl (rfl) rfl rfl ?_
                                refine G.anyg rfl rfl (.vfield fa34_0 (hE.isSome edgeV_row (by omega)) rfl) rfl rfl rfl (rfl) rfl rfl ?_
                                refine G.rdg rfl rfl (.vcell (j := 0) (o := 0) (v := .int .i64 ((es.getD 0 noEdge).f)) na3 rfl (hE.le L15) edgeV_row (getS es noEdge (by first | omega | (simp only [List.length_cons, List.length_nil]; omega))) rfl) rfl rfl rfl (rfl) rfl rfl ?_
                                refine G.anyg rfl rfl (.neq rfl rfl) rfl rfl rfl (rfl) rfl rfl ?_
                                by_cases q19_63 : ((ech (es.getD i noEdge)).f) ≠ ((es.getD 0 noEdge).f)
                                · refine G.anyg rfl rfl (.dec (.move rfl) (decide_eq_true q19_63)) rfl rfl rfl (rfl) rfl rfl ?_
                                  refine G.anyg rfl rfl (.field0 fa34_0 rfl) rfl rfl rfl (rfl) rfl rfl ?_
                                  refine G.rdg rfl rfl (.loadB (v := .int .i64 ((ech (es.getD i noEdge)).f)) na3 rfl f16 rfl) rfl rfl rfl (rfl) rfl rfl ?_
                                  refine G.anyg rfl rfl (.move rfl) rfl rfl rfl (rfl) rfl rfl ?_
                                  refine G.anyg rfl rfl (.idxS (0) Try.underlying49 sz34 rfl rfl (hE.isSome edgeV_row (by omega)) (by omega) (by omega)) rfl rfl rfl (rfl) rfl rfl ?_
                                  refine G.anyg rfl rfl (.vfield fa34_1 (hE.isSome edgeV_row (by omega)) rfl) rfl rfl rfl (rfl) rfl rfl ?_
                                  refine G.rdg rfl rfl (.vcell (j := 0) (o := 1) (v := .int .i64 ((es.getD 0 noEdge).t)) na3 rfl (hE.le L15) edgeV_row (getS es noEdge (by first | omega | (simp only [List.length_cons, List.length_nil]; omega))) rfl) rfl rfl rfl (rfl) rfl rfl ?_
                                  refine G.anyg rfl rfl (.neq rfl rfl) rfl rfl rfl (rfl) rfl rfl ?_
                                  refine G.anyg rfl rfl (.pickT rfl rfl rfl) rfl rfl rfl (rfl) rfl rfl ?_
                                  refine G.anyg rfl rfl (.pickF rfl rfl rfl) rfl rfl rfl (rfl) rfl rfl ?_
                                  refine G.anyg rfl rfl (.pickT rfl rfl rfl) rfl rfl rfl (rfl) rfl rfl ?_
                                  refine G.any rfl rfl (.pickF rfl rfl rfl) rfl rfl rfl ?_
                                  refine G.nil ?_
                                  refine E.thenN ?_
                                  by_cases c4 : ((ech (es.getD i noEdge)).f) ≠ ((es.getD 0 noEdge).t)
                                  · refine WC.condY rfl (decide_eq_true c4) ?_
                                    refine WC.seq ?_
                                    refine WC.region ?_
                                    refine W.any (.move rfl) rfl rfl rfl ?_
                                    refine W.any (.assign rfl) rfl rfl rfl ?_
                                    refine W.nil ?_
                                    refine E.thenN ?_
                                    refine WC.ret ?_
                                    refine E.thenR ?_
                                    refine E.blkR ?_
                                    refine E.thenR ?_
                                    refine E.thenR ?_
                                    refine E.blkR ?_
                                    refine E.thenR ?_
                                    refine E.retG1 rfl rfl ?_
                                    exact ⟨rfl, L15⟩
                                  · refine WC.condN rfl (decide_eq_false c4) ?_
                                    have he1 : 0 ≤ (ech (es.getD i noEdge)).f ∧ (ech (es.getD i noEdge)).f < (nk : Int) := by omega
                                    have he2 : 0 ≤ (ech (es.getD i noEdge)).t ∧ (ech (es.getD i noEdge)).t ≤ 11 := by omega
                                    have he3 : 0 ≤ (es.getD i noEdge).f ∧ (es.getD i noEdge).f ≤ 11 ∧ 0 ≤ (es.getD i noEdge).t ∧ (es.getD i noEdge).t ≤ 11 := ⟨he1.1, (by have := he1.2; show (ech (es.getD i noEdge)).f ≤ 11; omega), he2⟩
                                    refine WC.skip ?_
                                    refine E.thenN ?_
                                    refine WC.seq ?_
                                    refine WC.drawT (fun o => (app o [0, 1, 2, 3, 4, 5, 6, 7, 8, 9] (.br (app o [10, 11, 12] .nil) (app o [11, 10, 12] .nil)))) mixed (by kernel_rfl) ?_
                                    intro w21 d21
                                    have L17 := L15.trans d21
                                    refine GT.app ?_
                                    refine G.any rfl rfl (.move rfl) rfl rfl rfl ?_
                                    refine G.any rfl rfl (.field0 fa34_0 rfl) rfl rfl rfl ?_
                                    have f18 := (f16.le d21)
                                    refine G.rd rfl rfl (.loadB (v := .int .i64 ((ech (es.getD i noEdge)).f)) na3 rfl f18 rfl) rfl rfl rfl ?_
                                    refine G.any rfl rfl (.idxS ((ech (es.getD i noEdge)).f.toNat) Try.underlying48 sz37 rfl rfl (hK.isSome pv1_row (by omega)) (by omega) (by omega)) rfl rfl rfl ?_
                                    refine G.rd rfl rfl (.vone (v := .int .u64 ((((ks.getD ((ech (es.getD i noEdge)).f.toNat) 0) : Nat) : Int))) na37 rfl (hK.le L17) pv1_row (getS ks 0 (by first | omega | (simp only [List.length_cons, List.length_nil]; omega))) rfl) rfl rfl rfl ?_
                                    refine G.rd rfl rfl (.loadAll ag34 (by rfl) rfl f18) rfl rfl rfl ?_
                                    refine G.any rfl rfl (.move rfl) rfl rfl rfl ?_
                                    refine G.any rfl rfl (.move rfl) rfl rfl rfl ?_
                                    refine G.any rfl rfl (.idxS (i) Try.underlying50 sz3 rfl rfl (hN.isSome iv_row (by omega)) (rfl) (by omega)) rfl rfl rfl ?_
                                    refine G.rd rfl rfl (.vone (v := .int .i64 ((ns.getD i 0))) na3 rfl (hN.le L17) iv_row (getS ns 0 (by first | omega | (simp only [List.length_cons, List.length_nil]; omega))) rfl) rfl rfl rfl ?_
                                    refine G.nil ?_
                                    refine GT.br ?_ ?_
                                    · refine GT.last ?_
                                      refine G.ef rfl rfl rfl rfl rfl ?_
                                      refine Ef.call go15 rfl rfl (asign_ok (ks.getD ((ech (es.getD i noEdge)).f.toNat) 0) (ech (es.getD i noEdge)) (ns.getD i 0) false w21) ?_
                                      rintro _ w21_10 ⟨rfl, h21_10⟩
                                      refine ⟨_, rfl, ?_⟩
                                      refine ⟨fun _ => h21_10, ?_⟩
                                      have L19 := L17.trans h21_10
                                      refine G.ef rfl rfl rfl rfl rfl ?_
                                      refine Ef.allocA z41 ?_
                                      intro g21_11 w21_11 hg21_11 b21_11 h21_11
                                      refine ⟨fun _ => h21_11, ?_⟩
                                      have L20 := L19.trans h21_11
                                      have b21_11 : Blk w21_11 g21_11 41 (adV noAd).toArray := b21_11
                                      refine G.ef0 rfl rfl rfl rfl ?_
                                      refine Ef.storeAll sz41 (by rfl) rfl rfl b21_11 (by simp only [List.size_toArray, adV_row.len]) (adV_row.one (signA (ks.getD ((ech (es.getD i noEdge)).f.toNat) 0) (ech (es.getD i noEdge)) (ns.getD i 0) false)) ?_
                                      intro w21_12 b21_12 h21_12
                                      refine ⟨fun h => absurd h (ne_true_of_eq_false (by kernel_rfl)), ?_⟩
                                      have b21_12 : Blk w21_12 g21_11 41 (adV (signA (ks.getD ((ech (es.getD i noEdge)).f.toNat) 0) (ech (es.getD i noEdge)) (ns.getD i 0) false)).toArray := b21_12
                                      have L21 : Le w w21_12 := L20.then_ h21_12 (fun q hq => by cases hq; exact Nat.le_trans L19.size hg21_11)
                                      refine G.nil ?_
                                      refine E.thenN ?_
                                      refine WC.seq ?_
                                      refine WC.seq ?_
                                      refine WC.draw [0, 1, 2, 3, 4, 5, 6, 7] mixed (by kernel_rfl) ?_
                                      intro w22 d22
                                      have L22 := L21.trans d22
                                      refine G.any rfl rfl (.move rfl) rfl rfl rfl ?_
                                      refine G.any rfl rfl (.field0 fa34_0 rfl) rfl rfl rfl ?_
                                      have f23 := (((f18.le (h21_10.trans h21_11)).ch h21_12 (fun h => (show g21_11 ≠ g17_4 from by have := f18.lt; have := h21_10.size; omega) (Option.some.inj h))).le d22)
                                      refine G.rd rfl rfl (.loadB (v := .int .i64 ((ech (es.getD i noEdge)).f)) na3 rfl f23 rfl) rfl rfl rfl ?_
                                      refine G.any rfl rfl (.idxS ((ech (es.getD i noEdge)).f.toNat) Try.underlying22 sz36 rfl rfl (f0_0.vec.isSome pv1_row (by omega)) (by omega) (by omega)) rfl rfl rfl ?_
                                      have f24 := ((((((f1_0.le h17_4).ch h17_5 (fun q hq => by cases hq; exact (fun he => by have := (f1_0.row he).2; omega))).ch h18_1 (fun q hq => by cases hq; exact (fun he => by have := (f1_0.row he).2; omega))).le (d19.trans (d21.trans (h21_10.trans h21_11)))).ch h21_12 (fun q hq => by cases hq; exact (fun he => by have := (f1_0.row he).2; have := h17_4.size; have := h17_5.size; have := h18_1.size; have := d19.size; have := d21.size; have := h21_10.size; omega))).le d22)
                                      refine G.rd rfl rfl (.vone (v := .int .u64 (((((ks.map base).getD ((ech (es.getD i noEdge)).f.toNat) 0) : Nat) : Int))) na36 rfl f24.vec pv1_row (getS (ks.map base) 0 (by first | omega | (simp only [List.length_cons, List.length_nil]; omega))) rfl) rfl rfl rfl ?_
                                      have f25 := (b21_12.le d22)
                                      refine G.rd rfl rfl (.loadAll ag41 (by rfl) rfl f25) rfl rfl rfl ?_
                                      refine G.ef rfl rfl rfl rfl rfl ?_
                                      refine Ef.call go13 rfl rfl (averify_ok ((ks.map base).getD ((ech (es.getD i noEdge)).f.toNat) 0) (signA (ks.getD ((ech (es.getD i noEdge)).f.toNat) 0) (ech (es.getD i noEdge)) (ns.getD i 0) false) (b_lts ks _ (getD_mem' (by rw [List.length_map]; omega))) sg_r w22) ?_
                                      rintro _ w22_6 ⟨rfl, h22_6⟩
                                      refine ⟨_, rfl, ?_⟩
                                      refine ⟨fun _ => h22_6, ?_⟩
                                      have L26 := L22.trans h22_6
                                      refine G.any rfl rfl (.not rfl) rfl rfl rfl ?_
                                      refine G.nil ?_
                                      refine E.thenN ?_
                                      by_cases c5 : (verifyA ((ks.map base).getD ((ech (es.getD i noEdge)).f.toNat) 0) (signA (ks.getD ((ech (es.getD i noEdge)).f.toNat) 0) (ech (es.getD i noEdge)) (ns.getD i 0) false)) = true
                                      · refine WC.condN rfl (congrArg not (c5)) ?_
                                        have hm : mayA (ech (es.getD i noEdge)) (ns.getD i 0) = true := may_ver (by assumption)
                                        refine WC.skip ?_
                                        refine E.thenN ?_
                                        refine WC.region ?_
                                        refine W.any (.move rfl) rfl rfl rfl ?_
                                        have f27 := (f25.le h22_6)
                                        refine W.rd (.loadAll ag41 (by rfl) rfl f27) rfl rfl rfl ?_
                                        refine W.ef rfl rfl rfl ?_
                                        refine Ef.buildSliceV (len := 1) [_] Try.underlying27 el41 rfl (by simp [Value.cells, adV_row.len]) rfl (by decide) (by decide) ?_
                                        intro g24_2 w24_2 hg24_2 b24_2 h24_2
                                        have L28 := L26.trans h24_2
                                        have b24_2 : Blk w24_2 g24_2 41 (([signA (ks.getD ((ech (es.getD i noEdge)).f.toNat) 0) (ech (es.getD i noEdge)) (ns.getD i 0) false]).map adV).flatten.toArray := b24_2
                                        have o24_2 : OVec w24_2 w22_6.heap.size 41 adV 13 (some ⟨g24_2, 0, none⟩) 1 1 ([signA (ks.getD ((ech (es.getD i noEdge)).f.toNat) 0) (ech (es.getD i noEdge)) (ns.getD i 0) false]) := b24_2.ovec hg24_2 adV_row rfl rfl (by decide)
                                        have f29 := ((((((f1_3.le h17_4).ch h17_5 (fun q hq => by cases hq; exact (fun he => by have := (f1_3.row he).2; omega))).ch h18_1 (fun q hq => by cases hq; exact (fun he => by have := (f1_3.row he).2; omega))).le (d19.trans (d21.trans (h21_10.trans h21_11)))).ch h21_12 (fun q hq => by cases hq; exact (fun he => by have := (f1_3.row he).2; have := h17_4.size; have := h17_5.size; have := h18_1.size; have := d19.size; have := d21.size; have := h21_10.size; omega))).le (d22.trans (h22_6.trans h24_2)))
                                        refine W.ef rfl rfl rfl ?_
                                        refine Ef.vpush (a := (signA (ks.getD ((ech (es.getD i noEdge)).f.toNat) 0) (ech (es.getD i noEdge)) (ns.getD i 0) false)) Try.underlying27 el41 Try.underlying27 adV_row rfl f29 rfl b24_2 (by omega) (by unfold maxLen; omega) (by have := lb1_9; have := h17_4.size; have := h17_5.size; have := h18_1.size; have := d19.size; have := d21.size; have := h21_10.size; have := h21_11.size; have := h21_12.size; have := d22.size; have := h22_6.size; have := h24_2.size; omega) ?_
                                        intro A24_3 c24_3 w24_3 o24_3 h24_3 at24_3
                                        have L30 : Le w w24_3 := L28.then_ h24_3 (fun q hq => Nat.le_trans L9.size (f29.row hq).1)
                                        refine W.any (.assign rfl) rfl rfl rfl ?_
                                        refine W.nil ?_
                                        refine E.blkN ?_
                                        refine E.thenN ?_
                                        refine WC.region ?_
                                        refine W.any (.move rfl) rfl rfl rfl ?_
                                        refine W.any (.add rfl rfl (by omega)) rfl rfl rfl ?_
                                        refine W.any (.assign rfl) rfl rfl rfl ?_
                                        refine W.nil ?_
                                        have f31 := ((f24.le (h22_6.trans h24_2)).ch h24_3 ((Apart.symm (fun q h1 h2 => by have := (f10.row h1).2; have := (f29.row h2).1; omega))))
                                        have f32 := (((((((f1_1.le h17_4).ch h17_5 (fun q hqq hF => by cases hqq; have := f1_1.lt hF;  have := hg17_4; omega)).ch h18_1 (fun q hqq hF => by cases hqq; have := f1_1.lt hF;  have := hg17_4; omega)).le (d19.trans (d21.trans (h21_10.trans h21_11)))).ch h21_12 (fun q hqq hF => by cases hqq; have := f1_1.lt hF; have := h17_4.size; have := h17_5.size; have := h18_1.size; have := d19.size; have := d21.size; have := h21_10.size; have := hg21_11; omega)).le (d22.trans (h22_6.trans h24_2))).ch h24_3 (fun q hqq hF => by have := (f29.row hqq).1; have := f11.lt hF;  omega))
                                        have f33 := (((((((f1_2.le h17_4).ch h17_5 (fun q hqq hF => by cases hqq; have := f1_2.lt hF;  have := hg17_4; omega)).ch h18_1 (fun q hqq hF => by cases hqq; have := f1_2.lt hF;  have := hg17_4; omega)).le (d19.trans (d21.trans (h21_10.trans h21_11)))).ch h21_12 (fun q hqq hF => by cases hqq; have := f1_2.lt hF; have := h17_4.size; have := h17_5.size; have := h18_1.size; have := d19.size; have := d21.size; have := h21_10.size; have := hg21_11; omega)).le (d22.trans (h22_6.trans h24_2))).ch h24_3 (fun q hqq hF => by have := (f29.row hqq).1; have := p10_1.lt hF;  omega))
                                        refine E.again (i + 1, A24_3, c24_3, (L ++ [signA (ks.getD ((ech (es.getD i noEdge)).f.toNat) 0) (ech (es.getD i noEdge)) (ns.getD i 0) false])) (.cons rfl (.cons rfl (.cons rfl (.cons rfl (.cons rfl (.cons rfl (.cons rfl (.cons rfl (.cons rfl (.nil _)))))))))) ?_ ?_
                                        · exact ⟨by omega, hO.snoc (by rw [sg_e hm]; assumption) (by rw [sg_e hm, List.length_map]; omega) (by rw [sg_e hm]; rfl) (fun h0 => by rw [hZ (by have := hLl; omega), sg_e hm]; show (ech (es.getD i noEdge)).r = (es.getD 0 noEdge).r ∧ (ech (es.getD i noEdge)).f + (ech (es.getD i noEdge)).t = (es.getD 0 noEdge).f + (es.getD 0 noEdge).t ∧ ((ech (es.getD i noEdge)).f = (es.getD 0 noEdge).f ∨ (ech (es.getD i noEdge)).f = (es.getD 0 noEdge).t); refine ⟨?_, ?_, ?_⟩ <;> (have hLl2 := hLl; first | omega)), fun _ => by rcases Nat.eq_zero_or_pos i with h0 | h0; (have hL0 := List.length_eq_zero_iff.1 (hLl.trans h0); subst hL0; subst h0; exact sg_e hm); rw [getD0_append (by omega)]; exact hZ h0, fun _ => by rcases Nat.eq_zero_or_pos i with h0 | h0; (subst h0; exact he3); exact hR h0, L30, by have := zl1; have := h17_4.size; have := h17_5.size; have := h18_1.size; have := d19.size; have := d21.size; have := h21_10.size; have := h21_11.size; have := h21_12.size; have := d22.size; have := h22_6.size; have := h24_2.size; have := h24_3.size; omega, f31, f32, f33, o24_3⟩
                                        · first | omega | (simp only []; omega)
                                      · refine WC.condY rfl (congrArg not ((Bool.eq_false_iff.2 c5))) ?_
                                        refine WC.seq ?_
                                        refine WC.region ?_
                                        refine W.any (.move rfl) rfl rfl rfl ?_
                                        refine W.any (.assign rfl) rfl rfl rfl ?_
                                        refine W.nil ?_
                                        refine E.thenN ?_
                                        refine WC.ret ?_
                                        refine E.thenR ?_
                                        refine E.blkR ?_
                                        refine E.thenR ?_
                                        refine E.thenR ?_
                                        refine E.blkR ?_
                                        refine E.thenR ?_
                                        refine E.retG1 rfl rfl ?_
                                        exact ⟨rfl, L26⟩
                                    · refine GT.last ?_
                                      refine G.ef rfl rfl rfl rfl rfl ?_
                                      refine Ef.allocA z41 ?_
                                      intro g21_11_1 w21_11_1 hg21_11_1 b21_11_1 h21_11_1
                                      refine ⟨fun _ => h21_11_1, ?_⟩
                                      have L34 := L17.trans h21_11_1
                                      have b21_11_1 : Blk w21_11_1 g21_11_1 41 (adV noAd).toArray := b21_11_1
                                      refine G.ef rfl rfl rfl rfl rfl ?_
                                      refine Ef.call go15 rfl rfl (asign_ok (ks.getD ((ech (es.getD i noEdge)).f.toNat) 0) (ech (es.getD i noEdge)) (ns.getD i 0) false w21_11_1) ?_
                                      rintro _ w21_10_1 ⟨rfl, h21_10_1⟩
                                      refine ⟨_, rfl, ?_⟩
                                      refine ⟨fun _ => h21_10_1, ?_⟩
                                      have L35 := L34.trans h21_10_1
                                      have f36 := (b21_11_1.le h21_10_1)
                                      refine G.ef0 rfl rfl rfl rfl ?_
                                      refine Ef.storeAll sz41 (by rfl) rfl rfl f36 (by simp only [List.size_toArray, adV_row.len]) (adV_row.one (signA (ks.getD ((ech (es.getD i noEdge)).f.toNat) 0) (ech (es.getD i noEdge)) (ns.getD i 0) false)) ?_
                                      intro w21_12_1 b21_12_1 h21_12_1
                                      refine ⟨fun h => absurd h (ne_true_of_eq_false (by kernel_rfl)), ?_⟩
                                      have b21_12_1 : Blk w21_12_1 g21_11_1 41 (adV (signA (ks.getD ((ech (es.getD i noEdge)).f.toNat) 0) (ech (es.getD i noEdge)) (ns.getD i 0) false)).toArray := b21_12_1
                                      have L37 : Le w w21_12_1 := L35.then_ h21_12_1 (fun q hq => by cases hq; exact Nat.le_trans L17.size hg21_11_1)
                                      refine G.nil ?_
                                      refine E.thenN ?_
                                      refine WC.seq ?_
                                      refine WC.seq ?_
                                      refine WC.draw [0, 1, 2, 3, 4, 5, 6, 7] mixed (by kernel_rfl) ?_
                                      intro w22 d22
                                      have L38 := L37.trans d22
                                      refine G.any rfl rfl (.move rfl) rfl rfl rfl ?_
                                      refine G.any rfl rfl (.field0 fa34_0 rfl) rfl rfl rfl ?_
                                      have f39 := (((f18.le (h21_11_1.trans h21_10_1)).ch h21_12_1 (fun h => (show g21_11_1 ≠ g17_4 from by have := f18.lt; omega) (Option.some.inj h))).le d22)
                                      refine G.rd rfl rfl (.loadB (v := .int .i64 ((ech (es.getD i noEdge)).f)) na3 rfl f39 rfl) rfl rfl rfl ?_
                                      refine G.any rfl rfl (.idxS ((ech (es.getD i noEdge)).f.toNat) Try.underlying22 sz36 rfl rfl (f0_0.vec.isSome pv1_row (by omega)) (by omega) (by omega)) rfl rfl rfl ?_
                                      have f40 := ((((((f1_0.le h17_4).ch h17_5 (fun q hq => by cases hq; exact (fun he => by have := (f1_0.row he).2; omega))).ch h18_1 (fun q hq => by cases hq; exact (fun he => by have := (f1_0.row he).2; omega))).le (d19.trans (d21.trans (h21_11_1.trans h21_10_1)))).ch h21_12_1 (fun q hq => by cases hq; exact (fun he => by have := (f1_0.row he).2; have := h17_4.size; have := h17_5.size; have := h18_1.size; have := d19.size; have := d21.size; omega))).le d22)
                                      refine G.rd rfl rfl (.vone (v := .int .u64 (((((ks.map base).getD ((ech (es.getD i noEdge)).f.toNat) 0) : Nat) : Int))) na36 rfl f40.vec pv1_row (getS (ks.map base) 0 (by first | omega | (simp only [List.length_cons, List.length_nil]; omega))) rfl) rfl rfl rfl ?_
                                      have f41 := (b21_12_1.le d22)
                                      refine G.rd rfl rfl (.loadAll ag41 (by rfl) rfl f41) rfl rfl rfl ?_
                                      refine G.ef rfl rfl rfl rfl rfl ?_
                                      refine Ef.call go13 rfl rfl (averify_ok ((ks.map base).getD ((ech (es.getD i noEdge)).f.toNat) 0) (signA (ks.getD ((ech (es.getD i noEdge)).f.toNat) 0) (ech (es.getD i noEdge)) (ns.getD i 0) false) (b_lts ks _ (getD_mem' (by rw [List.length_map]; omega))) sg_r w22) ?_
                                      rintro _ w22_6_1 ⟨rfl, h22_6_1⟩
                                      refine ⟨_, rfl, ?_⟩
                                      refine ⟨fun _ => h22_6_1, ?_⟩
                                      have L42 := L38.trans h22_6_1
                                      refine G.any rfl rfl (.not rfl) rfl rfl rfl ?_
                                      refine G.nil ?_
                                      refine E.thenN ?_
                                      by_cases c5 : (verifyA ((ks.map base).getD ((ech (es.getD i noEdge)).f.toNat) 0) (signA (ks.getD ((ech (es.getD i noEdge)).f.toNat) 0) (ech (es.getD i noEdge)) (ns.getD i 0) false)) = true
                                      · refine WC.condN rfl (congrArg not (c5)) ?_
                                        have hm : mayA (ech (es.getD i noEdge)) (ns.getD i 0) = true := may_ver (by assumption)
                                        refine WC.skip ?_
                                        refine E.thenN ?_
                                        refine WC.region ?_
                                        refine W.any (.move rfl) rfl rfl rfl ?_
                                        have f43 := (f41.le h22_6_1)
                                        refine W.rd (.loadAll ag41 (by rfl) rfl f43) rfl rfl rfl ?_
                                        refine W.ef rfl rfl rfl ?_
                                        refine Ef.buildSliceV (len := 1) [_] Try.underlying27 el41 rfl (by simp [Value.cells, adV_row.len]) rfl (by decide) (by decide) ?_
                                        intro g24_2_1 w24_2_1 hg24_2_1 b24_2_1 h24_2_1
                                        have L44 := L42.trans h24_2_1
                                        have b24_2_1 : Blk w24_2_1 g24_2_1 41 (([signA (ks.getD ((ech (es.getD i noEdge)).f.toNat) 0) (ech (es.getD i noEdge)) (ns.getD i 0) false]).map adV).flatten.toArray := b24_2_1
                                        have o24_2_1 : OVec w24_2_1 w22_6_1.heap.size 41 adV 13 (some ⟨g24_2_1, 0, none⟩) 1 1 ([signA (ks.getD ((ech (es.getD i noEdge)).f.toNat) 0) (ech (es.getD i noEdge)) (ns.getD i 0) false]) := b24_2_1.ovec hg24_2_1 adV_row rfl rfl (by decide)
                                        have f45 := ((((((f1_3.le h17_4).ch h17_5 (fun q hq => by cases hq; exact (fun he => by have := (f1_3.row he).2; omega))).ch h18_1 (fun q hq => by cases hq; exact (fun he => by have := (f1_3.row he).2; omega))).le (d19.trans (d21.trans (h21_11_1.trans h21_10_1)))).ch h21_12_1 (fun q hq => by cases hq; exact (fun he => by have := (f1_3.row he).2; have := h17_4.size; have := h17_5.size; have := h18_1.size; have := d19.size; have := d21.size; omega))).le (d22.trans (h22_6_1.trans h24_2_1)))
                                        refine W.ef rfl rfl rfl ?_
                                        refine Ef.vpush (a := (signA (ks.getD ((ech (es.getD i noEdge)).f.toNat) 0) (ech (es.getD i noEdge)) (ns.getD i 0) false)) Try.underlying27 el41 Try.underlying27 adV_row rfl f45 rfl b24_2_1 (by omega) (by unfold maxLen; omega) (by have := lb1_9; have := h17_4.size; have := h17_5.size; have := h18_1.size; have := d19.size; have := d21.size; have := h21_11_1.size; have := h21_10_1.size; have := h21_12_1.size; have := d22.size; have := h22_6_1.size; have := h24_2_1.size; omega) ?_
                                        intro A24_3_1 c24_3_1 w24_3_1 o24_3_1 h24_3_1 at24_3_1
                                        have L46 : Le w w24_3_1 := L44.then_ h24_3_1 (fun q hq => Nat.le_trans L9.size (f45.row hq).1)
                                        refine W.any (.assign rfl) rfl rfl rfl ?_
                                        refine W.nil ?_
                                        refine E.blkN ?_
                                        refine E.thenN ?_
                                        refine WC.region ?_
                                        refine W.any (.move rfl) rfl rfl rfl ?_
                                        refine W.any (.add rfl rfl (by omega)) rfl rfl rfl ?_
                                        refine W.any (.assign rfl) rfl rfl rfl ?_
                                        refine W.nil ?_
                                        have f47 := ((f40.le (h22_6_1.trans h24_2_1)).ch h24_3_1 ((Apart.symm (fun q h1 h2 => by have := (f10.row h1).2; have := (f45.row h2).1; omega))))
                                        have f48 := (((((((f1_1.le h17_4).ch h17_5 (fun q hqq hF => by cases hqq; have := f1_1.lt hF;  have := hg17_4; omega)).ch h18_1 (fun q hqq hF => by cases hqq; have := f1_1.lt hF;  have := hg17_4; omega)).le (d19.trans (d21.trans (h21_11_1.trans h21_10_1)))).ch h21_12_1 (fun q hqq hF => by cases hqq; have := f1_1.lt hF; have := h17_4.size; have := h17_5.size; have := h18_1.size; have := d19.size; have := d21.size; have := hg21_11_1; omega)).le (d22.trans (h22_6_1.trans h24_2_1))).ch h24_3_1 (fun q hqq hF => by have := (f45.row hqq).1; have := f11.lt hF;  omega))
                                        have f49 := (((((((f1_2.le h17_4).ch h17_5 (fun q hqq hF => by cases hqq; have := f1_2.lt hF;  have := hg17_4; omega)).ch h18_1 (fun q hqq hF => by cases hqq; have := f1_2.lt hF;  have := hg17_4; omega)).le (d19.trans (d21.trans (h21_11_1.trans h21_10_1)))).ch h21_12_1 (fun q hqq hF => by cases hqq; have := f1_2.lt hF; have := h17_4.size; have := h17_5.size; have := h18_1.size; have := d19.size; have := d21.size; have := hg21_11_1; omega)).le (d22.trans (h22_6_1.trans h24_2_1))).ch h24_3_1 (fun q hqq hF => by have := (f45.row hqq).1; have := p10_1.lt hF;  omega))
                                        refine E.again (i + 1, A24_3_1, c24_3_1, (L ++ [signA (ks.getD ((ech (es.getD i noEdge)).f.toNat) 0) (ech (es.getD i noEdge)) (ns.getD i 0) false])) (.cons rfl (.cons rfl (.cons rfl (.cons rfl (.cons rfl (.cons rfl (.cons rfl (.cons rfl (.cons rfl (.nil _)))))))))) ?_ ?_
                                        · exact ⟨by omega, hO.snoc (by rw [sg_e hm]; assumption) (by rw [sg_e hm, List.length_map]; omega) (by rw [sg_e hm]; rfl) (fun h0 => by rw [hZ (by have := hLl; omega), sg_e hm]; show (ech (es.getD i noEdge)).r = (es.getD 0 noEdge).r ∧ (ech (es.getD i noEdge)).f + (ech (es.getD i noEdge)).t = (es.getD 0 noEdge).f + (es.getD 0 noEdge).t ∧ ((ech (es.getD i noEdge)).f = (es.getD 0 noEdge).f ∨ (ech (es.getD i noEdge)).f = (es.getD 0 noEdge).t); refine ⟨?_, ?_, ?_⟩ <;> (have hLl2 := hLl; first | omega)), fun _ => by rcases Nat.eq_zero_or_pos i with h0 | h0; (have hL0 := List.length_eq_zero_iff.1 (hLl.trans h0); subst hL0; subst h0; exact sg_e hm); rw [getD0_append (by omega)]; exact hZ h0, fun _ => by rcases Nat.eq_zero_or_pos i with h0 | h0; (subst h0; exact he3); exact hR h0, L46, by have := zl1; have := h17_4.size; have := h17_5.size; have := h18_1.size; have := d19.size; have := d21.size; have := h21_11_1.size; have := h21_10_1.size; have := h21_12_1.size; have := d22.size; have := h22_6_1.size; have := h24_2_1.size; have := h24_3_1.size; omega, f47, f48, f49, o24_3_1⟩
                                        · first | omega | (simp only []; omega)
                                      · refine WC.condY rfl (congrArg not ((Bool.eq_false_iff.2 c5))) ?_
                                        refine WC.seq ?_
                                        refine WC.region ?_
                                        refine W.any (.move rfl) rfl rfl rfl ?_
                                        refine W.any (.assign rfl) rfl rfl rfl ?_
                                        refine W.nil ?_
                                        refine E.thenN ?_
                                        refine WC.ret ?_
                                        refine E.thenR ?_
                                        refine E.blkR ?_
                                        refine E.thenR ?_
                                        refine E.thenR ?_
                                        refine E.blkR ?_
                                        refine E.thenR ?_
                                        refine E.retG1 rfl rfl ?_
                                        exact ⟨rfl, L42⟩
                                · refine G.anyg rfl rfl (.dec (.move rfl) (decide_eq_false q19_63)) rfl rfl rfl (rfl) rfl rfl ?_
                                  refine G.skip rfl rfl rfl rfl (rfl) rfl rfl ?_
                                  refine G.skip rfl rfl rfl rfl (rfl) rfl rfl ?_
                                  refine G.skip rfl rfl rfl rfl (rfl) rfl rfl ?_
                                  refine G.skip rfl rfl rfl rfl (rfl) rfl rfl ?_
                                  refine G.skip rfl rfl rfl rfl (rfl) rfl rfl ?_
                                  refine G.skip rfl rfl rfl rfl (rfl) rfl rfl ?_
                                  refine G.skip rfl rfl rfl rfl (rfl) rfl rfl ?_
                                  refine G.anyg rfl rfl (.pickF rfl rfl rfl) rfl rfl rfl (rfl) rfl rfl ?_
                                  refine G.anyg rfl rfl (.pickF rfl rfl rfl) rfl rfl rfl (rfl) rfl rfl ?_
                                  refine G.anyg rfl rfl (.pickT rfl rfl rfl) rfl rfl rfl (rfl) rfl rfl ?_
                                  refine G.any rfl rfl (.pickF rfl rfl rfl) rfl rfl rfl ?_
                                  refine G.nil ?_
                                  refine E.thenN ?_
                                  refine WC.condF rfl ?_
                                  have he1 : 0 ≤ (ech (es.getD i noEdge)).f ∧ (ech (es.getD i noEdge)).f < (nk : Int) := by omega
                                  have he2 : 0 ≤ (ech (es.getD i noEdge)).t ∧ (ech (es.getD i noEdge)).t ≤ 11 := by omega
                                  have he3 : 0 ≤ (es.getD i noEdge).f ∧ (es.getD i noEdge).f ≤ 11 ∧ 0 ≤ (es.getD i noEdge).t ∧ (es.getD i noEdge).t ≤ 11 := ⟨he1.1, (by have := he1.2; show (ech (es.getD i noEdge)).f ≤ 11; omega), he2⟩
                                  refine WC.skip ?_
                                  refine E.thenN ?_
                                  refine WC.seq ?_
                                  refine WC.drawT (fun o => (app o [0, 1, 2, 3, 4, 5, 6, 7, 8, 9] (.br (app o [10, 11, 12] .nil) (app o [11, 10, 12] .nil)))) mixed (by kernel_rfl) ?_
                                  intro w21 d21
                                  have L50 := L15.trans d21
                                  refine GT.app ?_
                                  refine G.any rfl rfl (.move rfl) rfl rfl rfl ?_
                                  refine G.any rfl rfl (.field0 fa34_0 rfl) rfl rfl rfl ?_
                                  have f51 := (f16.le d21)
                                  refine G.rd rfl rfl (.loadB (v := .int .i64 ((ech (es.getD i noEdge)).f)) na3 rfl f51 rfl) rfl rfl rfl ?_
                                  refine G.any rfl rfl (.idxS ((ech (es.getD i noEdge)).f.toNat) Try.underlying48 sz37 rfl rfl (hK.isSome pv1_row (by omega)) (by omega) (by omega)) rfl rfl rfl ?_
                                  refine G.rd rfl rfl (.vone (v := .int .u64 ((((ks.getD ((ech (es.getD i noEdge)).f.toNat) 0) : Nat) : Int))) na37 rfl (hK.le L50) pv1_row (getS ks 0 (by first | omega | (simp only [List.length_cons, List.length_nil]; omega))) rfl) rfl rfl rfl ?_
                                  refine G.rd rfl rfl (.loadAll ag34 (by rfl) rfl f51) rfl rfl rfl ?_
                                  refine G.any rfl rfl (.move rfl) rfl rfl rfl ?_
                                  refine G.any rfl rfl (.move rfl) rfl rfl rfl ?_
                                  refine G.any rfl rfl (.idxS (i) Try.underlying50 sz3 rfl rfl (hN.isSome iv_row (by omega)) (rfl) (by omega)) rfl rfl rfl ?_
                                  refine G.rd rfl rfl (.vone (v := .int .i64 ((ns.getD i 0))) na3 rfl (hN.le L50) iv_row (getS ns 0 (by first | omega | (simp only [List.length_cons, List.length_nil]; omega))) rfl) rfl rfl rfl ?_
                                  refine G.nil ?_
                                  refine GT.br ?_ ?_
                                  · refine GT.last ?_
                                    refine G.ef rfl rfl rfl rfl rfl ?_
                                    refine Ef.call go15 rfl rfl (asign_ok (ks.getD ((ech (es.getD i noEdge)).f.toNat) 0) (ech (es.getD i noEdge)) (ns.getD i 0) false w21) ?_
                                    rintro _ w21_10_2 ⟨rfl, h21_10_2⟩
                                    refine ⟨_, rfl, ?_⟩
                                    refine ⟨fun _ => h21_10_2, ?_⟩
                                    have L52 := L50.trans h21_10_2
                                    refine G.ef rfl rfl rfl rfl rfl ?_
                                    refine Ef.allocA z41 ?_
                                    intro g21_11_2 w21_11_2 hg21_11_2 b21_11_2 h21_11_2
                                    refine ⟨fun _ => h21_11_2, ?_⟩
                                    have L53 := L52.trans h21_11_2
                                    have b21_11_2 : Blk w21_11_2 g21_11_2 41 (adV noAd).toArray := b21_11_2
                                    refine G.ef0 rfl rfl rfl rfl ?_
                                    refine Ef.storeAll sz41 (by rfl) rfl rfl b21_11_2 (by simp only [List.size_toArray, adV_row.len]) (adV_row.one (signA (ks.getD ((ech (es.getD i noEdge)).f.toNat) 0) (ech (es.getD i noEdge)) (ns.getD i 0) false)) ?_
                                    intro w21_12_2 b21_12_2 h21_12_2
                                    refine ⟨fun h => absurd h (ne_true_of_eq_false (by kernel_rfl)), ?_⟩
                                    have b21_12_2 : Blk w21_12_2 g21_11_2 41 (adV (signA (ks.getD ((ech (es.getD i noEdge)).f.toNat) 0) (ech (es.getD i noEdge)) (ns.getD i 0) false)).toArray := b21_12_2
                                    have L54 : Le w w21_12_2 := L53.then_ h21_12_2 (fun q hq => by cases hq; exact Nat.le_trans L52.size hg21_11_2)
                                    refine G.nil ?_
                                    refine E.thenN ?_
                                    refine WC.seq ?_
                                    refine WC.seq ?_
                                    refine WC.draw [0, 1, 2, 3, 4, 5, 6, 7] mixed (by kernel_rfl) ?_
                                    intro w22 d22
                                    have L55 := L54.trans d22
                                    refine G.any rfl rfl (.move rfl) rfl rfl rfl ?_
                                    refine G.any rfl rfl (.field0 fa34_0 rfl) rfl rfl rfl ?_
                                    have f56 := (((f51.le (h21_10_2.trans h21_11_2)).ch h21_12_2 (fun h => (show g21_11_2 ≠ g17_4 from by have := f51.lt; have := h21_10_2.size; omega) (Option.some.inj h))).le d22)
                                    refine G.rd rfl rfl (.loadB (v := .int .i64 ((ech (es.getD i noEdge)).f)) na3 rfl f56 rfl) rfl rfl rfl ?_
                                    refine G.any rfl rfl (.idxS ((ech (es.getD i noEdge)).f.toNat) Try.underlying22 sz36 rfl rfl (f0_0.vec.isSome pv1_row (by omega)) (by omega) (by omega)) rfl rfl rfl ?_
                                    have f57 := ((((((f1_0.le h17_4).ch h17_5 (fun q hq => by cases hq; exact (fun he => by have := (f1_0.row he).2; omega))).ch h18_1 (fun q hq => by cases hq; exact (fun he => by have := (f1_0.row he).2; omega))).le (d19.trans (d21.trans (h21_10_2.trans h21_11_2)))).ch h21_12_2 (fun q hq => by cases hq; exact (fun he => by have := (f1_0.row he).2; have := h17_4.size; have := h17_5.size; have := h18_1.size; have := d19.size; have := d21.size; have := h21_10_2.size; omega))).le d22)
                                    refine G.rd rfl rfl (.vone (v := .int .u64 (((((ks.map base).getD ((ech (es.getD i noEdge)).f.toNat) 0) : Nat) : Int))) na36 rfl f57.vec pv1_row (getS (ks.map base) 0 (by first | omega | (simp only [List.length_cons, List.length_nil]; omega))) rfl) rfl rfl rfl ?_
                                    have f58 := (b21_12_2.le d22)
                                    refine G.rd rfl rfl (.loadAll ag41 (by rfl) rfl f58) rfl rfl rfl ?_
                                    refine G.ef rfl rfl rfl rfl rfl ?_
                                    refine Ef.call go13 rfl rfl (averify_ok ((ks.map base).getD ((ech (es.getD i noEdge)).f.toNat) 0) (signA (ks.getD ((ech (es.getD i noEdge)).f.toNat) 0) (ech (es.getD i noEdge)) (ns.getD i 0) false) (b_lts ks _ (getD_mem' (by rw [List.length_map]; omega))) sg_r w22) ?_
                                    rintro _ w22_6_2 ⟨rfl, h22_6_2⟩
                                    refine ⟨_, rfl, ?_⟩
                                    refine ⟨fun _ => h22_6_2, ?_⟩
                                    have L59 := L55.trans h22_6_2
                                    refine G.any rfl rfl (.not rfl) rfl rfl rfl ?_
                                    refine G.nil ?_
                                    refine E.thenN ?_
                                    by_cases c5 : (verifyA ((ks.map base).getD ((ech (es.getD i noEdge)).f.toNat) 0) (signA (ks.getD ((ech (es.getD i noEdge)).f.toNat) 0) (ech (es.getD i noEdge)) (ns.getD i 0) false)) = true
                                    · refine WC.condN rfl (congrArg not (c5)) ?_
                                      have hm : mayA (ech (es.getD i noEdge)) (ns.getD i 0) = true := may_ver (by assumption)
                                      refine WC.skip ?_
                                      refine E.thenN ?_
                                      refine WC.region ?_
                                      refine W.any (.move rfl) rfl rfl rfl ?_
                                      have f60 := (f58.le h22_6_2)
                                      refine W.rd (.loadAll ag41 (by rfl) rfl f60) rfl rfl rfl ?_
                                      refine W.ef rfl rfl rfl ?_
                                      refine Ef.buildSliceV (len := 1) [_] Try.underlying27 el41 rfl (by simp [Value.cells, adV_row.len]) rfl (by decide) (by decide) ?_
                                      intro g24_2_2 w24_2_2 hg24_2_2 b24_2_2 h24_2_2
                                      have L61 := L59.trans h24_2_2
                                      have b24_2_2 : Blk w24_2_2 g24_2_2 41 (([signA (ks.getD ((ech (es.getD i noEdge)).f.toNat) 0) (ech (es.getD i noEdge)) (ns.getD i 0) false]).map adV).flatten.toArray := b24_2_2
                                      have o24_2_2 : OVec w24_2_2 w22_6_2.heap.size 41 adV 13 (some ⟨g24_2_2, 0, none⟩) 1 1 ([signA (ks.getD ((ech (es.getD i noEdge)).f.toNat) 0) (ech (es.getD i noEdge)) (ns.getD i 0) false]) := b24_2_2.ovec hg24_2_2 adV_row rfl rfl (by decide)
                                      have f62 := ((((((f1_3.le h17_4).ch h17_5 (fun q hq => by cases hq; exact (fun he => by have := (f1_3.row he).2; omega))).ch h18_1 (fun q hq => by cases hq; exact (fun he => by have := (f1_3.row he).2; omega))).le (d19.trans (d21.trans (h21_10_2.trans h21_11_2)))).ch h21_12_2 (fun q hq => by cases hq; exact (fun he => by have := (f1_3.row he).2; have := h17_4.size; have := h17_5.size; have := h18_1.size; have := d19.size; have := d21.size; have := h21_10_2.size; omega))).le (d22.trans (h22_6_2.trans h24_2_2)))
                                      refine W.ef rfl rfl rfl ?_
                                      refine Ef.vpush (a := (signA (ks.getD ((ech (es.getD i noEdge)).f.toNat) 0) (ech (es.getD i noEdge)) (ns.getD i 0) false)) Try.underlying27 el41 Try.underlying27 adV_row rfl f62 rfl b24_2_2 (by omega) (by unfold maxLen; omega) (by have := lb1_9; have := h17_4.size; have := h17_5.size; have := h18_1.size; have := d19.size; have := d21.size; have := h21_10_2.size; have := h21_11_2.size; have := h21_12_2.size; have := d22.size; have := h22_6_2.size; have := h24_2_2.size; omega) ?_
                                      intro A24_3_2 c24_3_2 w24_3_2 o24_3_2 h24_3_2 at24_3_2
                                      have L63 : Le w w24_3_2 := L61.then_ h24_3_2 (fun q hq => Nat.le_trans L9.size (f62.row hq).1)
                                      refine W.any (.assign rfl) rfl rfl rfl ?_
                                      refine W.nil ?_
                                      refine E.blkN ?_
                                      refine E.thenN ?_
                                      refine WC.region ?_
                                      refine W.any (.move rfl) rfl rfl rfl ?_
                                      refine W.any (.add rfl rfl (by omega)) rfl rfl rfl ?_
                                      refine W.any (.assign rfl) rfl rfl rfl ?_
                                      refine W.nil ?_
                                      have f64 := ((f57.le (h22_6_2.trans h24_2_2)).ch h24_3_2 ((Apart.symm (fun q h1 h2 => by have := (f10.row h1).2; have := (f62.row h2).1; omega))))
                                      have f65 := (((((((f1_1.le h17_4).ch h17_5 (fun q hqq hF => by cases hqq; have := f1_1.lt hF;  have := hg17_4; omega)).ch h18_1 (fun q hqq hF => by cases hqq; have := f1_1.lt hF;  have := hg17_4; omega)).le (d19.trans (d21.trans (h21_10_2.trans h21_11_2)))).ch h21_12_2 (fun q hqq hF => by cases hqq; have := f1_1.lt hF; have := h17_4.size; have := h17_5.size; have := h18_1.size; have := d19.size; have := d21.size; have := h21_10_2.size; have := hg21_11_2; omega)).le (d22.trans (h22_6_2.trans h24_2_2))).ch h24_3_2 (fun q hqq hF => by have := (f62.row hqq).1; have := f11.lt hF;  omega))
                                      have f66 := (((((((f1_2.le h17_4).ch h17_5 (fun q hqq hF => by cases hqq; have := f1_2.lt hF;  have := hg17_4; omega)).ch h18_1 (fun q hqq hF => by cases hqq; have := f1_2.lt hF;  have := hg17_4; omega)).le (d19.trans (d21.trans (h21_10_2.trans h21_11_2)))).ch h21_12_2 (fun q hqq hF => by cases hqq; have := f1_2.lt hF; have := h17_4.size; have := h17_5.size; have := h18_1.size; have := d19.size; have := d21.size; have := h21_10_2.size; have := hg21_11_2; omega)).le (d22.trans (h22_6_2.trans h24_2_2))).ch h24_3_2 (fun q hqq hF => by have := (f62.row hqq).1; have := p10_1.lt hF;  omega))
                                      refine E.again (i + 1, A24_3_2, c24_3_2, (L ++ [signA (ks.getD ((ech (es.getD i noEdge)).f.toNat) 0) (ech (es.getD i noEdge)) (ns.getD i 0) false])) (.cons rfl (.cons rfl (.cons rfl (.cons rfl (.cons rfl (.cons rfl (.cons rfl (.cons rfl (.cons rfl (.nil _)))))))))) ?_ ?_
                                      · exact ⟨by omega, hO.snoc (by rw [sg_e hm]; assumption) (by rw [sg_e hm, List.length_map]; omega) (by rw [sg_e hm]; rfl) (fun h0 => by rw [hZ (by have := hLl; omega), sg_e hm]; show (ech (es.getD i noEdge)).r = (es.getD 0 noEdge).r ∧ (ech (es.getD i noEdge)).f + (ech (es.getD i noEdge)).t = (es.getD 0 noEdge).f + (es.getD 0 noEdge).t ∧ ((ech (es.getD i noEdge)).f = (es.getD 0 noEdge).f ∨ (ech (es.getD i noEdge)).f = (es.getD 0 noEdge).t); refine ⟨?_, ?_, ?_⟩ <;> (have hLl2 := hLl; first | omega)), fun _ => by rcases Nat.eq_zero_or_pos i with h0 | h0; (have hL0 := List.length_eq_zero_iff.1 (hLl.trans h0); subst hL0; subst h0; exact sg_e hm); rw [getD0_append (by omega)]; exact hZ h0, fun _ => by rcases Nat.eq_zero_or_pos i with h0 | h0; (subst h0; exact he3); exact hR h0, L63, by have := zl1; have := h17_4.size; have := h17_5.size; have := h18_1.size; have := d19.size; have := d21.size; have := h21_10_2.size; have := h21_11_2.size; have := h21_12_2.size; have := d22.size; have := h22_6_2.size; have := h24_2_2.size; have := h24_3_2.size; omega, f64, f65, f66, o24_3_2⟩
                                      · first | omega | (simp only []; omega)
                                    · refine WC.condY rfl (congrArg not ((Bool.eq_false_iff.2 c5))) ?_
                                      refine WC.seq ?_
                                      refine WC.region ?_
                                      refine W.any (.move rfl) rfl rfl rfl ?_
                                      refine W.any (.assign rfl) rfl rfl rfl ?_
                                      refine W.nil ?_
                                      refine E.thenN ?_
                                      refine WC.ret ?_
                                      refine E.thenR ?_
                                      refine E.blkR ?_
                                      refine E.thenR ?_
                                      refine E.thenR ?_
                                      refine E.blkR ?_
                                      refine E.thenR ?_
                                      refine E.retG1 rfl rfl ?_
                                      exact ⟨rfl, L59⟩
                                  · refine GT.last ?_
                                    refine G.ef rfl rfl rfl rfl rfl ?_
                                    refine Ef.allocA z41 ?_
                                    intro g21_11_3 w21_11_3 hg21_11_3 b21_11_3 h21_11_3
                                    refine ⟨fun _ => h21_11_3, ?_⟩
                                    have L67 := L50.trans h21_11_3
                                    have b21_11_3 : Blk w21_11_3 g21_11_3 41 (adV noAd).toArray := b21_11_3
                                    refine G.ef rfl rfl rfl rfl rfl ?_
                                    refine Ef.call go15 rfl rfl (asign_ok (ks.getD ((ech (es.getD i noEdge)).f.toNat) 0) (ech (es.getD i noEdge)) (ns.getD i 0) false w21_11_3) ?_
                                    rintro _ w21_10_3 ⟨rfl, h21_10_3⟩
                                    refine ⟨_, rfl, ?_⟩
                                    refine ⟨fun _ => h21_10_3, ?_⟩
                                    have L68 := L67.trans h21_10_3
                                    have f69 := (b21_11_3.le h21_10_3)
                                    refine G.ef0 rfl rfl rfl rfl ?_
                                    refine Ef.storeAll sz41 (by rfl) rfl rfl f69 (by simp only [List.size_toArray, adV_row.len]) (adV_row.one (signA (ks.getD ((ech (es.getD i noEdge)).f.toNat) 0) (ech (es.getD i noEdge)) (ns.getD i 0) false)) ?_
                                    intro w21_12_3 b21_12_3 h21_12_3
                                    refine ⟨fun h => absurd h (ne_true_of_eq_false (by kernel_rfl)), ?_⟩
                                    have b21_12_3 : Blk w21_12_3 g21_11_3 41 (adV (signA (ks.getD ((ech (es.getD i noEdge)).f.toNat) 0) (ech (es.getD i noEdge)) (ns.getD i 0) false)).toArray := b21_12_3
                                    have L70 : Le w w21_12_3 := L68.then_ h21_12_3 (fun q hq => by cases hq; exact Nat.le_trans L50.size hg21_11_3)
                                    refine G.nil ?_
                                    refine E.thenN ?_
                                    refine WC.seq ?_
                                    refine WC.seq ?_
                                    refine WC.draw [0, 1, 2, 3, 4, 5, 6, 7] mixed (by kernel_rfl) ?_
                                    intro w22 d22
                                    have L71 := L70.trans d22
                                    refine G.any rfl rfl (.move rfl) rfl rfl rfl ?_
                                    refine G.any rfl rfl (.field0 fa34_0 rfl) rfl rfl rfl ?_
                                    have f72 := (((f51.le (h21_11_3.trans h21_10_3)).ch h21_12_3 (fun h => (show g21_11_3 ≠ g17_4 from by have := f51.lt; omega) (Option.some.inj h))).le d22)
                                    refine G.rd rfl rfl (.loadB (v := .int .i64 ((ech (es.getD i noEdge)).f)) na3 rfl f72 rfl) rfl rfl rfl ?_
                                    refine G.any rfl rfl (.idxS ((ech (es.getD i noEdge)).f.toNat) Try.underlying22 sz36 rfl rfl (f0_0.vec.isSome pv1_row (by omega)) (by omega) (by omega)) rfl rfl rfl ?_
                                    have f73 := ((((((f1_0.le h17_4).ch h17_5 (fun q hq => by cases hq; exact (fun he => by have := (f1_0.row he).2; omega))).ch h18_1 (fun q hq => by cases hq; exact (fun he => by have := (f1_0.row he).2; omega))).le (d19.trans (d21.trans (h21_11_3.trans h21_10_3)))).ch h21_12_3 (fun q hq => by cases hq; exact (fun he => by have := (f1_0.row he).2; have := h17_4.size; have := h17_5.size; have := h18_1.size; have := d19.size; have := d21.size; omega))).le d22)
                                    refine G.rd rfl rfl (.vone (v := .int .u64 (((((ks.map base).getD ((ech (es.getD i noEdge)).f.toNat) 0) : Nat) : Int))) na36 rfl f73.vec pv1_row (getS (ks.map base) 0 (by first | omega | (simp only [List.length_cons, List.length_nil]; omega))) rfl) rfl rfl rfl ?_
                                    have f74 := (b21_12_3.le d22)
                                    refine G.rd rfl rfl (.loadAll ag41 (by rfl) rfl f74) rfl rfl rfl ?_
                                    refine G.ef rfl rfl rfl rfl rfl ?_
                                    refine Ef.call go13 rfl rfl (averify_ok ((ks.map base).getD ((ech (es.getD i noEdge)).f.toNat) 0) (signA (ks.getD ((ech (es.getD i noEdge)).f.toNat) 0) (ech (es.getD i noEdge)) (ns.getD i 0) false) (b_lts ks _ (getD_mem' (by rw [List.length_map]; omega))) sg_r w22) ?_
                                    rintro _ w22_6_3 ⟨rfl, h22_6_3⟩
                                    refine ⟨_, rfl, ?_⟩
                                    refine ⟨fun _ => h22_6_3, ?_⟩
                                    have L75 := L71.trans h22_6_3
                                    refine G.any rfl rfl (.not rfl) rfl rfl rfl ?_
                                    refine G.nil ?_
                                    refine E.thenN ?_
                                    by_cases c5 : (verifyA ((ks.map base).getD ((ech (es.getD i noEdge)).f.toNat) 0) (signA (ks.getD ((ech (es.getD i noEdge)).f.toNat) 0) (ech (es.getD i noEdge)) (ns.getD i 0) false)) = true
                                    · refine WC.condN rfl (congrArg not (c5)) ?_
                                      have hm : mayA (ech (es.getD i noEdge)) (ns.getD i 0) = true := may_ver (by assumption)
                                      refine WC.skip ?_
                                      refine E.thenN ?_
                                      refine WC.region ?_
                                      refine W.any (.move rfl) rfl rfl rfl ?_
                                      have f76 := (f74.le h22_6_3)
                                      refine W.rd (.loadAll ag41 (by rfl) rfl f76) rfl rfl rfl ?_
                                      refine W.ef rfl rfl rfl ?_
                                      refine Ef.buildSliceV (len := 1) [_] Try.underlying27 el41 rfl (by simp [Value.cells, adV_row.len]) rfl (by decide) (by decide) ?_
                                      intro g24_2_3 w24_2_3 hg24_2_3 b24_2_3 h24_2_3
                                      have L77 := L75.trans h24_2_3
                                      have b24_2_3 : Blk w24_2_3 g24_2_3 41 (([signA (ks.getD ((ech (es.getD i noEdge)).f.toNat) 0) (ech (es.getD i noEdge)) (ns.getD i 0) false]).map adV).flatten.toArray := b24_2_3
                                      have o24_2_3 : OVec w24_2_3 w22_6_3.heap.size 41 adV 13 (some ⟨g24_2_3, 0, none⟩) 1 1 ([signA (ks.getD ((ech (es.getD i noEdge)).f.toNat) 0) (ech (es.getD i noEdge)) (ns.getD i 0) false]) := b24_2_3.ovec hg24_2_3 adV_row rfl rfl (by decide)
                                      have f78 := ((((((f1_3.le h17_4).ch h17_5 (fun q hq => by cases hq; exact (fun he => by have := (f1_3.row he).2; omega))).ch h18_1 (fun q hq => by cases hq; exact (fun he => by have := (f1_3.row he).2; omega))).le (d19.trans (d21.trans (h21_11_3.trans h21_10_3)))).ch h21_12_3 (fun q hq => by cases hq; exact (fun he => by have := (f1_3.row he).2; have := h17_4.size; have := h17_5.size; have := h18_1.size; have := d19.size; have := d21.size; omega))).le (d22.trans (h22_6_3.trans h24_2_3)))
                                      refine W.ef rfl rfl rfl ?_
                                      refine Ef.vpush (a := (signA (ks.getD ((ech (es.getD i noEdge)).f.toNat) 0) (ech (es.getD i noEdge)) (ns.getD i 0) false)) Try.underlying27 el41 Try.underlying27 adV_row rfl f78 rfl b24_2_3 (by omega) (by unfold maxLen; omega) (by have := lb1_9; have := h17_4.size; have := h17_5.size; have := h18_1.size; have := d19.size; have := d21.size; have := h21_11_3.size; have := h21_10_3.size; have := h21_12_3.size; have := d22.size; have := h22_6_3.size; have := h24_2_3.size; omega) ?_
                                      intro A24_3_3 c24_3_3 w24_3_3 o24_3_3 h24_3_3 at24_3_3
                                      have L79 : Le w w24_3_3 := L77.then_ h24_3_3 (fun q hq => Nat.le_trans L9.size (f78.row hq).1)
                                      refine W.any (.assign rfl) rfl rfl rfl ?_
                                      refine W.nil ?_
                                      refine E.blkN ?_
                                      refine E.thenN ?_
                                      refine WC.region ?_
                                      refine W.any (.move rfl) rfl rfl rfl ?_
                                      refine W.any (.add rfl rfl (by omega)) rfl rfl rfl ?_
                                      refine W.any (.assign rfl) rfl rfl rfl ?_
                                      refine W.nil ?_
                                      have f80 := ((f73.le (h22_6_3.trans h24_2_3)).ch h24_3_3 ((Apart.symm (fun q h1 h2 => by have := (f10.row h1).2; have := (f78.row h2).1; omega))))
                                      have f81 := (((((((f1_1.le h17_4).ch h17_5 (fun q hqq hF => by cases hqq; have := f1_1.lt hF;  have := hg17_4; omega)).ch h18_1 (fun q hqq hF => by cases hqq; have := f1_1.lt hF;  have := hg17_4; omega)).le (d19.trans (d21.trans (h21_11_3.trans h21_10_3)))).ch h21_12_3 (fun q hqq hF => by cases hqq; have := f1_1.lt hF; have := h17_4.size; have := h17_5.size; have := h18_1.size; have := d19.size; have := d21.size; have := hg21_11_3; omega)).le (d22.trans (h22_6_3.trans h24_2_3))).ch h24_3_3 (fun q hqq hF => by have := (f78.row hqq).1; have := f11.lt hF;  omega))
                                      have f82 := (((((((f1_2.le h17_4).ch h17_5 (fun q hqq hF => by cases hqq; have := f1_2.lt hF;  have := hg17_4; omega)).ch h18_1 (fun q hqq hF => by cases hqq; have := f1_2.lt hF;  have := hg17_4; omega)).le (d19.trans (d21.trans (h21_11_3.trans h21_10_3)))).ch h21_12_3 (fun q hqq hF => by cases hqq; have := f1_2.lt hF; have := h17_4.size; have := h17_5.size; have := h18_1.size; have := d19.size; have := d21.size; have := hg21_11_3; omega)).le (d22.trans (h22_6_3.trans h24_2_3))).ch h24_3_3 (fun q hqq hF => by have := (f78.row hqq).1; have := p10_1.lt hF;  omega))
                                      refine E.again (i + 1, A24_3_3, c24_3_3, (L ++ [signA (ks.getD ((ech (es.getD i noEdge)).f.toNat) 0) (ech (es.getD i noEdge)) (ns.getD i 0) false])) (.cons rfl (.cons rfl (.cons rfl (.cons rfl (.cons rfl (.cons rfl (.cons rfl (.cons rfl (.cons rfl (.nil _)))))))))) ?_ ?_
                                      · exact ⟨by omega, hO.snoc (by rw [sg_e hm]; assumption) (by rw [sg_e hm, List.length_map]; omega) (by rw [sg_e hm]; rfl) (fun h0 => by rw [hZ (by have := hLl; omega), sg_e hm]; show (ech (es.getD i noEdge)).r = (es.getD 0 noEdge).r ∧ (ech (es.getD i noEdge)).f + (ech (es.getD i noEdge)).t = (es.getD 0 noEdge).f + (es.getD 0 noEdge).t ∧ ((ech (es.getD i noEdge)).f = (es.getD 0 noEdge).f ∨ (ech (es.getD i noEdge)).f = (es.getD 0 noEdge).t); refine ⟨?_, ?_, ?_⟩ <;> (have hLl2 := hLl; first | omega)), fun _ => by rcases Nat.eq_zero_or_pos i with h0 | h0; (have hL0 := List.length_eq_zero_iff.1 (hLl.trans h0); subst hL0; subst h0; exact sg_e hm); rw [getD0_append (by omega)]; exact hZ h0, fun _ => by rcases Nat.eq_zero_or_pos i with h0 | h0; (subst h0; exact he3); exact hR h0, L79, by have := zl1; have := h17_4.size; have := h17_5.size; have := h18_1.size; have := d19.size; have := d21.size; have := h21_11_3.size; have := h21_10_3.size; have := h21_12_3.size; have := d22.size; have := h22_6_3.size; have := h24_2_3.size; have := h24_3_3.size; omega, f80, f81, f82, o24_3_3⟩
                                      · first | omega | (simp only []; omega)
                                    · refine WC.condY rfl (congrArg not ((Bool.eq_false_iff.2 c5))) ?_
                                      refine WC.seq ?_
                                      refine WC.region ?_
                                      refine W.any (.move rfl) rfl rfl rfl ?_
                                      refine W.any (.assign rfl) rfl rfl rfl ?_
                                      refine W.nil ?_
                                      refine E.thenN ?_
                                      refine WC.ret ?_
                                      refine E.thenR ?_
                                      refine E.blkR ?_
                                      refine E.thenR ?_
                                      refine E.thenR ?_
                                      refine E.blkR ?_
                                      refine E.thenR ?_
                                      refine E.retG1 rfl rfl ?_
                                      exact ⟨rfl, L75⟩
                          · refine G.anyg rfl rfl (.dec (.move rfl) (decide_eq_false q19_30)) rfl rfl rfl (rfl) rfl rfl ?_
                            refine G.skip rfl rfl rfl rfl (rfl) rfl rfl ?_
                            refine G.skip rfl rfl rfl rfl (rfl) rfl rfl ?_
                            refine G.skip rfl rfl rfl rfl (rfl) rfl rfl ?_
                            refine G.skip rfl rfl rfl rfl (rfl) rfl rfl ?_
                            refine G.skip rfl rfl rfl rfl (rfl) rfl rfl ?_
                            refine G.skip rfl rfl rfl rfl (rfl) rfl rfl ?_
                            refine G.skip rfl rfl rfl rfl (rfl) rfl rfl ?_
                            refine G.skip rfl rfl rfl rfl (rfl) rfl rfl ?_
                            refine G.skipu rfl rfl rfl rfl rfl rfl ?_
                            refine G.skipu rfl rfl rfl rfl rfl rfl ?_
                            refine G.skipu rfl rfl rfl rfl rfl rfl ?_
                            refine G.skipu rfl rfl rfl rfl rfl rfl ?_
                            refine G.skipu rfl rfl rfl rfl rfl rfl ?_
                            refine G.skipu rfl rfl rfl rfl rfl rfl ?_
                            refine G.skipu rfl rfl rfl rfl rfl rfl ?_
                            refine G.skipu rfl rfl rfl rfl rfl rfl ?_
                            refine G.skipu rfl rfl rfl rfl rfl rfl ?_
                            refine G.skipu rfl rfl rfl rfl rfl rfl ?_
                            refine G.skipu rfl rfl rfl rfl rfl rfl ?_
                            refine G.skipu rfl rfl rfl rfl rfl rfl ?_
                            refine G.skipu rfl rfl rfl rfl rfl rfl ?_
                            refine G.skipu rfl rfl rfl rfl rfl rfl ?_
                            refine G.skipu rfl rfl rfl rfl rfl rfl ?_
                            refine G.skip rfl rfl rfl rfl (rfl) rfl rfl ?_
                            refine G.skip rfl rfl rfl rfl (rfl) rfl rfl ?_
                            refine G.skipu rfl rfl rfl rfl rfl rfl ?_
                            refine G.skipu rfl rfl rfl rfl rfl rfl ?_
                            refine G.skipu rfl rfl rfl rfl rfl rfl ?_
                            refine G.skipu rfl rfl rfl rfl rfl rfl ?_
                            refine G.skipu rfl rfl rfl rfl rfl rfl ?_
                            refine G.skipu rfl rfl rfl rfl rfl rfl ?_
                            refine G.skipu rfl rfl rfl rfl rfl rfl ?_
                            refine G.skipu rfl rfl rfl rfl rfl rfl ?_
                            refine G.skipu rfl rfl rfl rfl rfl rfl ?_
                            refine G.skipu rfl rfl rfl rfl rfl rfl ?_
                            refine G.skipu rfl rfl rfl rfl rfl rfl ?_
                            refine G.skipu rfl rfl rfl rfl rfl rfl ?_
                            refine G.skipu rfl rfl rfl rfl rfl rfl ?_
                            refine G.skipu rfl rfl rfl rfl rfl rfl ?_
                            refine G.skipu rfl rfl rfl rfl rfl rfl ?_
                            refine G.skipu rfl rfl rfl rfl rfl rfl ?_
                            refine G.skip rfl rfl rfl rfl (rfl) rfl rfl ?_
                            refine G.anyg rfl rfl (.pickF rfl rfl rfl) rfl rfl rfl (rfl) rfl rfl ?_
                            refine G.any rfl rfl (.pickF rfl rfl rfl) rfl rfl rfl ?_
                            refine G.nil ?_
                            refine E.thenN ?_
                            refine WC.condF rfl ?_
                            have he1 : 0 ≤ (ech (es.getD i noEdge)).f ∧ (ech (es.getD i noEdge)).f < (nk : Int) := by omega
                            have he2 : 0 ≤ (ech (es.getD i noEdge)).t ∧ (ech (es.getD i noEdge)).t ≤ 11 := by omega
                            have he3 : 0 ≤ (es.getD i noEdge).f ∧ (es.getD i noEdge).f ≤ 11 ∧ 0 ≤ (es.getD i noEdge).t ∧ (es.getD i noEdge).t ≤ 11 := ⟨he1.1, (by have := he1.2; show (ech (es.getD i noEdge)).f ≤ 11; omega), he2⟩
                            refine WC.skip ?_
                            refine E.thenN ?_
                            refine WC.seq ?_
                            refine WC.drawT (fun o => (app o [0, 1, 2, 3, 4, 5, 6, 7, 8, 9] (.br (app o [10, 11, 12] .nil) (app o [11, 10, 12] .nil)))) mixed (by kernel_rfl) ?_
                            intro w21 d21
                            have L83 := L15.trans d21
                            refine GT.app ?_
                            refine G.any rfl rfl (.move rfl) rfl rfl rfl ?_
                            refine G.any rfl rfl (.field0 fa34_0 rfl) rfl rfl rfl ?_
                            have f84 := (f16.le d21)
                            refine G.rd rfl rfl (.loadB (v := .int .i64 ((ech (es.getD i noEdge)).f)) na3 rfl f84 rfl) rfl rfl rfl ?_
                            refine G.any rfl rfl (.idxS ((ech (es.getD i noEdge)).f.toNat) Try.underlying48 sz37 rfl rfl (hK.isSome pv1_row (by omega)) (by omega) (by omega)) rfl rfl rfl ?_
                            refine G.rd rfl rfl (.vone (v := .int .u64 ((((ks.getD ((ech (es.getD i noEdge)).f.toNat) 0) : Nat) : Int))) na37 rfl (hK.le L83) pv1_row (getS ks 0 (by first | omega | (simp only [List.length_cons, List.length_nil]; omega))) rfl) rfl rfl rfl ?_
                            refine G.rd rfl rfl (.loadAll ag34 (by rfl) rfl f84) rfl rfl rfl ?_
                            refine G.any rfl rfl (.move rfl) rfl rfl rfl ?_
                            refine G.any rfl rfl (.move rfl) rfl rfl rfl ?_
                            refine G.any rfl rfl (.idxS (i) Try.underlying50 sz3 rfl rfl (hN.isSome iv_row (by omega)) (rfl) (by omega)) rfl rfl rfl ?_
                            refine G.rd rfl rfl (.vone (v := .int .i64 ((ns.getD i 0))) na3 rfl (hN.le L83) iv_row (getS ns 0 (by first | omega | (simp only [List.length_cons, List.length_nil]; omega))) rfl) rfl rfl rfl ?_
                            refine G.nil ?_
                            refine GT.br ?_ ?_
                            · refine GT.last ?_
                              refine G.ef rfl rfl rfl rfl rfl ?_
                              refine Ef.call go15 rfl rfl (asign_ok (ks.getD ((ech (es.getD i noEdge)).f.toNat) 0) (ech (es.getD i noEdge)) (ns.getD i 0) false w21) ?_
                              rintro _ w21_10_4 ⟨rfl, h21_10_4⟩
                              refine ⟨_, rfl, ?_⟩
                              refine ⟨fun _ => h21_10_4, ?_⟩
                              have L85 := L83.trans h21_10_4
                              refine G.ef rfl rfl rfl rfl rfl ?_
                              refine Ef.allocA z41 ?_
                              intro g21_11_4 w21_11_4 hg21_11_4 b21_11_4 h21_11_4
                              refine ⟨fun _ => h21_11_4, ?_⟩
                              have L86 := L85.trans h21_11_4
                              have b21_11_4 : Blk w21_11_4 g21_11_4 41 (adV noAd).toArray := b21_11_4
                              refine G.ef0 rfl rfl rfl rfl ?_
                              refine Ef.storeAll sz41 (by rfl) rfl rfl b21_11_4 (by simp only [List.size_toArray, adV_row.len]) (adV_row.one (signA (ks.getD ((ech (es.getD i noEdge)).f.toNat) 0) (ech (es.getD i noEdge)) (ns.getD i 0) false)) ?_
                              intro w21_12_4 b21_12_4 h21_12_4
                              refine ⟨fun h => absurd h (ne_true_of_eq_false (by kernel_rfl)), ?_⟩
                              have b21_12_4 : Blk w21_12_4 g21_11_4 41 (adV (signA (ks.getD ((ech (es.getD i noEdge)).f.toNat) 0) (ech (es.getD i noEdge)) (ns.getD i 0) false)).toArray := b21_12_4
                              have L87 : Le w w21_12_4 := L86.then_ h21_12_4 (fun q hq => by cases hq; exact Nat.le_trans L85.size hg21_11_4)
                              refine G.nil ?_
                              refine E.thenN ?_
                              refine WC.seq ?_
                              refine WC.seq ?_
                              refine WC.draw [0, 1, 2, 3, 4, 5, 6, 7] mixed (by kernel_rfl) ?_
                              intro w22 d22
                              have L88 := L87.trans d22
                              refine G.any rfl rfl (.move rfl) rfl rfl rfl ?_
                              refine G.any rfl rfl (.field0 fa34_0 rfl) rfl rfl rfl ?_
                              have f89 := (((f84.le (h21_10_4.trans h21_11_4)).ch h21_12_4 (fun h => (show g21_11_4 ≠ g17_4 from by have := f84.lt; have := h21_10_4.size; omega) (Option.some.inj h))).le d22)
                              refine G.rd rfl rfl (.loadB (v := .int .i64 ((ech (es.getD i noEdge)).f)) na3 rfl f89 rfl) rfl rfl rfl ?_
                              refine G.any rfl rfl (.idxS ((ech (es.getD i noEdge)).f.toNat) Try.underlying22 sz36 rfl rfl (f0_0.vec.isSome pv1_row (by omega)) (by omega) (by omega)) rfl rfl rfl ?_
                              have f90 := ((((((f1_0.le h17_4).ch h17_5 (fun q hq => by cases hq; exact (fun he => by have := (f1_0.row he).2; omega))).ch h18_1 (fun q hq => by cases hq; exact (fun he => by have := (f1_0.row he).2; omega))).le (d19.trans (d21.trans (h21_10_4.trans h21_11_4)))).ch h21_12_4 (fun q hq => by cases hq; exact (fun he => by have := (f1_0.row he).2; have := h17_4.size; have := h17_5.size; have := h18_1.size; have := d19.size; have := d21.size; have := h21_10_4.size; omega))).le d22)
                              refine G.rd rfl rfl (.vone (v := .int .u64 (((((ks.map base).getD ((ech (es.getD i noEdge)).f.toNat) 0) : Nat) : Int))) na36 rfl f90.vec pv1_row (getS (ks.map base) 0 (by first | omega | (simp only [List.length_cons, List.length_nil]; omega))) rfl) rfl rfl rfl ?_
                              have f91 := (b21_12_4.le d22)
                              refine G.rd rfl rfl (.loadAll ag41 (by rfl) rfl f91) rfl rfl rfl ?_
                              refine G.ef rfl rfl rfl rfl rfl ?_
                              refine Ef.call go13 rfl rfl (averify_ok ((ks.map base).getD ((ech (es.getD i noEdge)).f.toNat) 0) (signA (ks.getD ((ech (es.getD i noEdge)).f.toNat) 0) (ech (es.getD i noEdge)) (ns.getD i 0) false) (b_lts ks _ (getD_mem' (by rw [List.length_map]; omega))) sg_r w22) ?_
                              rintro _ w22_6_4 ⟨rfl, h22_6_4⟩
                              refine ⟨_, rfl, ?_⟩
                              refine ⟨fun _ => h22_6_4, ?_⟩
                              have L92 := L88.trans h22_6_4
                              refine G.any rfl rfl (.not rfl) rfl rfl rfl ?_
                              refine G.nil ?_
                              refine E.thenN ?_
                              by_cases c5 : (verifyA ((ks.map base).getD ((ech (es.getD i noEdge)).f.toNat) 0) (signA (ks.getD ((ech (es.getD i noEdge)).f.toNat) 0) (ech (es.getD i noEdge)) (ns.getD i 0) false)) = true
                              · refine WC.condN rfl (congrArg not (c5)) ?_
                                have hm : mayA (ech (es.getD i noEdge)) (ns.getD i 0) = true := may_ver (by assumption)
                                refine WC.skip ?_
                                refine E.thenN ?_
                                refine WC.region ?_
                                refine W.any (.move rfl) rfl rfl rfl ?_
                                have f93 := (f91.le h22_6_4)
                                refine W.rd (.loadAll ag41 (by rfl) rfl f93) rfl rfl rfl ?_
                                refine W.ef rfl rfl rfl ?_
                                refine Ef.buildSliceV (len := 1) [_] Try.underlying27 el41 rfl (by simp [Value.cells, adV_row.len]) rfl (by decide) (by decide) ?_
                                intro g24_2_4 w24_2_4 hg24_2_4 b24_2_4 h24_2_4
                                have L94 := L92.trans h24_2_4
                                have b24_2_4 : Blk w24_2_4 g24_2_4 41 (([signA (ks.getD ((ech (es.getD i noEdge)).f.toNat) 0) (ech (es.getD i noEdge)) (ns.getD i 0) false]).map adV).flatten.toArray := b24_2_4
                                have o24_2_4 : OVec w24_2_4 w22_6_4.heap.size 41 adV 13 (some ⟨g24_2_4, 0, none⟩) 1 1 ([signA (ks.getD ((ech (es.getD i noEdge)).f.toNat) 0) (ech (es.getD i noEdge)) (ns.getD i 0) false]) := b24_2_4.ovec hg24_2_4 adV_row rfl rfl (by decide)
                                have f95 := ((((((f1_3.le h17_4).ch h17_5 (fun q hq => by cases hq; exact (fun he => by have := (f1_3.row he).2; omega))).ch h18_1 (fun q hq => by cases hq; exact (fun he => by have := (f1_3.row he).2; omega))).le (d19.trans (d21.trans (h21_10_4.trans h21_11_4)))).ch h21_12_4 (fun q hq => by cases hq; exact (fun he => by have := (f1_3.row he).2; have := h17_4.size; have := h17_5.size; have := h18_1.size; have := d19.size; have := d21.size; have := h21_10_4.size; omega))).le (d22.trans (h22_6_4.trans h24_2_4)))
                                refine W.ef rfl rfl rfl ?_
                                refine Ef.vpush (a := (signA (ks.getD ((ech (es.getD i noEdge)).f.toNat) 0) (ech (es.getD i noEdge)) (ns.getD i 0) false)) Try.underlying27 el41 Try.underlying27 adV_row rfl f95 rfl b24_2_4 (by omega) (by unfold maxLen; omega) (by have := lb1_9; have := h17_4.size; have := h17_5.size; have := h18_1.size; have := d19.size; have := d21.size; have := h21_10_4.size; have := h21_11_4.size; have := h21_12_4.size; have := d22.size; have := h22_6_4.size; have := h24_2_4.size; omega) ?_
                                intro A24_3_4 c24_3_4 w24_3_4 o24_3_4 h24_3_4 at24_3_4
                                have L96 : Le w w24_3_4 := L94.then_ h24_3_4 (fun q hq => Nat.le_trans L9.size (f95.row hq).1)
                                refine W.any (.assign rfl) rfl rfl rfl ?_
                                refine W.nil ?_
                                refine E.blkN ?_
                                refine E.thenN ?_
                                refine WC.region ?_
                                refine W.any (.move rfl) rfl rfl rfl ?_
                                refine W.any (.add rfl rfl (by omega)) rfl rfl rfl ?_
                                refine W.any (.assign rfl) rfl rfl rfl ?_
                                refine W.nil ?_
                                have f97 := ((f90.le (h22_6_4.trans h24_2_4)).ch h24_3_4 ((Apart.symm (fun q h1 h2 => by have := (f10.row h1).2; have := (f95.row h2).1; omega))))
                                have f98 := (((((((f1_1.le h17_4).ch h17_5 (fun q hqq hF => by cases hqq; have := f1_1.lt hF;  have := hg17_4; omega)).ch h18_1 (fun q hqq hF => by cases hqq; have := f1_1.lt hF;  have := hg17_4; omega)).le (d19.trans (d21.trans (h21_10_4.trans h21_11_4)))).ch h21_12_4 (fun q hqq hF => by cases hqq; have := f1_1.lt hF; have := h17_4.size; have := h17_5.size; have := h18_1.size; have := d19.size; have := d21.size; have := h21_10_4.size; have := hg21_11_4; omega)).le (d22.trans (h22_6_4.trans h24_2_4))).ch h24_3_4 (fun q hqq hF => by have := (f95.row hqq).1; have := f11.lt hF;  omega))
                                have f99 := (((((((f1_2.le h17_4).ch h17_5 (fun q hqq hF => by cases hqq; have := f1_2.lt hF;  have := hg17_4; omega)).ch h18_1 (fun q hqq hF => by cases hqq; have := f1_2.lt hF;  have := hg17_4; omega)).le (d19.trans (d21.trans (h21_10_4.trans h21_11_4)))).ch h21_12_4 (fun q hqq hF => by cases hqq; have := f1_2.lt hF; have := h17_4.size; have := h17_5.size; have := h18_1.size; have := d19.size; have := d21.size; have := h21_10_4.size; have := hg21_11_4; omega)).le (d22.trans (h22_6_4.trans h24_2_4))).ch h24_3_4 (fun q hqq hF => by have := (f95.row hqq).1; have := p10_1.lt hF;  omega))
                                refine E.again (i + 1, A24_3_4, c24_3_4, (L ++ [signA (ks.getD ((ech (es.getD i noEdge)).f.toNat) 0) (ech (es.getD i noEdge)) (ns.getD i 0) false])) (.cons rfl (.cons rfl (.cons rfl (.cons rfl (.cons rfl (.cons rfl (.cons rfl (.cons rfl (.cons rfl (.nil _)))))))))) ?_ ?_
                                · exact ⟨by omega, hO.snoc (by rw [sg_e hm]; assumption) (by rw [sg_e hm, List.length_map]; omega) (by rw [sg_e hm]; rfl) (fun h0 => by rw [hZ (by have := hLl; omega), sg_e hm]; show (ech (es.getD i noEdge)).r = (es.getD 0 noEdge).r ∧ (ech (es.getD i noEdge)).f + (ech (es.getD i noEdge)).t = (es.getD 0 noEdge).f + (es.getD 0 noEdge).t ∧ ((ech (es.getD i noEdge)).f = (es.getD 0 noEdge).f ∨ (ech (es.getD i noEdge)).f = (es.getD 0 noEdge).t); refine ⟨?_, ?_, ?_⟩ <;> (have hLl2 := hLl; first | omega)), fun _ => by rcases Nat.eq_zero_or_pos i with h0 | h0; (have hL0 := List.length_eq_zero_iff.1 (hLl.trans h0); subst hL0; subst h0; exact sg_e hm); rw [getD0_append (by omega)]; exact hZ h0, fun _ => by rcases Nat.eq_zero_or_pos i with h0 | h0; (subst h0; exact he3); exact hR h0, L96, by have := zl1; have := h17_4.size; have := h17_5.size; have := h18_1.size; have := d19.size; have := d21.size; have := h21_10_4.size; have := h21_11_4.size; have := h21_12_4.size; have := d22.size; have := h22_6_4.size; have := h24_2_4.size; have := h24_3_4.size; omega, f97, f98, f99, o24_3_4⟩
                                · first | omega | (simp only []; omega)
                              · refine WC.condY rfl (congrArg not ((Bool.eq_false_iff.2 c5))) ?_
                                refine WC.seq ?_
                                refine WC.region ?_
                                refine W.any (.move rfl) rfl rfl rfl ?_
                                refine W.any (.assign rfl) rfl rfl rfl ?_
                                refine W.nil ?_
                                refine E.thenN ?_
                                refine WC.ret ?_
                                refine E.thenR ?_
                                refine E.blkR ?_
                                refine E.thenR ?_
                                refine E.thenR ?_
                                refine E.blkR ?_
                                refine E.thenR ?_
                                refine E.retG1 rfl rfl ?_
                                exact ⟨rfl, L92⟩
                            · refine GT.last ?_
                              refine G.ef rfl rfl rfl rfl rfl ?_
                              refine Ef.allocA z41 ?_
                              intro g21_11_5 w21_11_5 hg21_11_5 b21_11_5 h21_11_5
                              refine ⟨fun _ => h21_11_5, ?_⟩
                              have L100 := L83.trans h21_11_5
                              have b21_11_5 : Blk w21_11_5 g21_11_5 41 (adV noAd).toArray := b21_11_5
                              refine G.ef rfl rfl rfl rfl rfl ?_
                              refine Ef.call go15 rfl rfl (asign_ok (ks.getD ((ech (es.getD i noEdge)).f.toNat) 0) (ech (es.getD i noEdge)) (ns.getD i 0) false w21_11_5) ?_
                              rintro _ w21_10_5 ⟨rfl, h21_10_5⟩
                              refine ⟨_, rfl, ?_⟩
                              refine ⟨fun _ => h21_10_5, ?_⟩
                              have L101 := L100.trans h21_10_5
                              have f102 := (b21_11_5.le h21_10_5)
                              refine G.ef0 rfl rfl rfl rfl ?_
                              refine Ef.storeAll sz41 (by rfl) rfl rfl f102 (by simp only [List.size_toArray, adV_row.len]) (adV_row.one (signA (ks.getD ((ech (es.getD i noEdge)).f.toNat) 0) (ech (es.getD i noEdge)) (ns.getD i 0) false)) ?_
                              intro w21_12_5 b21_12_5 h21_12_5
                              refine ⟨fun h => absurd h (ne_true_of_eq_false (by kernel_rfl)), ?_⟩
                              have b21_12_5 : Blk w21_12_5 g21_11_5 41 (adV (signA (ks.getD ((ech (es.getD i noEdge)).f.toNat) 0) (ech (es.getD i noEdge)) (ns.getD i 0) false)).toArray := b21_12_5
                              have L103 : Le w w21_12_5 := L101.then_ h21_12_5 (fun q hq => by cases hq; exact Nat.le_trans L83.size hg21_11_5)
                              refine G.nil ?_
                              refine E.thenN ?_
                              refine WC.seq ?_
                              refine WC.seq ?_
                              refine WC.draw [0, 1, 2, 3, 4, 5, 6, 7] mixed (by kernel_rfl) ?_
                              intro w22 d22
                              have L104 := L103.trans d22
                              refine G.any rfl rfl (.move rfl) rfl rfl rfl ?_
                              refine G.any rfl rfl (.field0 fa34_0 rfl) rfl rfl rfl ?_
                              have f105 := (((f84.le (h21_11_5.trans h21_10_5)).ch h21_12_5 (fun h => (show g21_11_5 ≠ g17_4 from by have := f84.lt; omega) (Option.some.inj h))).le d22)
                              refine G.rd rfl rfl (.loadB (v := .int .i64 ((ech (es.getD i noEdge)).f)) na3 rfl f105 rfl) rfl rfl rfl ?_
                              refine G.any rfl rfl (.idxS ((ech (es.getD i noEdge)).f.toNat) Try.underlying22 sz36 rfl rfl (f0_0.vec.isSome pv1_row (by omega)) (by omega) (by omega)) rfl rfl rfl ?_
                              have f106 := ((((((f1_0.le h17_4).ch h17_5 (fun q hq => by cases hq; exact (fun he => by have := (f1_0.row he).2; omega))).ch h18_1 (fun q hq => by cases hq; exact (fun he => by have := (f1_0.row he).2; omega))).le (d19.trans (d21.trans (h21_11_5.trans h21_10_5)))).ch h21_12_5 (fun q hq => by cases hq; exact (fun he => by have := (f1_0.row he).2; have := h17_4.size; have := h17_5.size; have := h18_1.size; have := d19.size; have := d21.size; omega))).le d22)
                              refine G.rd rfl rfl (.vone (v := .int .u64 (((((ks.map base).getD ((ech (es.getD i noEdge)).f.toNat) 0) : Nat) : Int))) na36 rfl f106.vec pv1_row (getS (ks.map base) 0 (by first | omega | (simp only [List.length_cons, List.length_nil]; omega))) rfl) rfl rfl rfl ?_
                              have f107 := (b21_12_5.le d22)
                              refine G.rd rfl rfl (.loadAll ag41 (by rfl) rfl f107) rfl rfl rfl ?_
                              refine G.ef rfl rfl rfl rfl rfl ?_
                              refine Ef.call go13 rfl rfl (averify_ok ((ks.map base).getD ((ech (es.getD i noEdge)).f.toNat) 0) (signA (ks.getD ((ech (es.getD i noEdge)).f.toNat) 0) (ech (es.getD i noEdge)) (ns.getD i 0) false) (b_lts ks _ (getD_mem' (by rw [List.length_map]; omega))) sg_r w22) ?_
                              rintro _ w22_6_5 ⟨rfl, h22_6_5⟩
                              refine ⟨_, rfl, ?_⟩
                              refine ⟨fun _ => h22_6_5, ?_⟩
                              have L108 := L104.trans h22_6_5
                              refine G.any rfl rfl (.not rfl) rfl rfl rfl ?_
                              refine G.nil ?_
                              refine E.thenN ?_
                              by_cases c5 : (verifyA ((ks.map base).getD ((ech (es.getD i noEdge)).f.toNat) 0) (signA (ks.getD ((ech (es.getD i noEdge)).f.toNat) 0) (ech (es.getD i noEdge)) (ns.getD i 0) false)) = true
                              · refine WC.condN rfl (congrArg not (c5)) ?_
                                have hm : mayA (ech (es.getD i noEdge)) (ns.getD i 0) = true := may_ver (by assumption)
                                refine WC.skip ?_
                                refine E.thenN ?_
                                refine WC.region ?_
                                refine W.any (.move rfl) rfl rfl rfl ?_
                                have f109 := (f107.le h22_6_5)
                                refine W.rd (.loadAll ag41 (by rfl) rfl f109) rfl rfl rfl ?_
                                refine W.ef rfl rfl rfl ?_
                                refine Ef.buildSliceV (len := 1) [_] Try.underlying27 el41 rfl (by simp [Value.cells, adV_row.len]) rfl (by decide) (by decide) ?_
                                intro g24_2_5 w24_2_5 hg24_2_5 b24_2_5 h24_2_5
                                have L110 := L108.trans h24_2_5
                                have b24_2_5 : Blk w24_2_5 g24_2_5 41 (([signA (ks.getD ((ech (es.getD i noEdge)).f.toNat) 0) (ech (es.getD i noEdge)) (ns.getD i 0) false]).map adV).flatten.toArray := b24_2_5
                                have o24_2_5 : OVec w24_2_5 w22_6_5.heap.size 41 adV 13 (some ⟨g24_2_5, 0, none⟩) 1 1 ([signA (ks.getD ((ech (es.getD i noEdge)).f.toNat) 0) (ech (es.getD i noEdge)) (ns.getD i 0) false]) := b24_2_5.ovec hg24_2_5 adV_row rfl rfl (by decide)
                                have f111 := ((((((f1_3.le h17_4).ch h17_5 (fun q hq => by cases hq; exact (fun he => by have := (f1_3.row he).2; omega))).ch h18_1 (fun q hq => by cases hq; exact (fun he => by have := (f1_3.row he).2; omega))).le (d19.trans (d21.trans (h21_11_5.trans h21_10_5)))).ch h21_12_5 (fun q hq => by cases hq; exact (fun he => by have := (f1_3.row he).2; have := h17_4.size; have := h17_5.size; have := h18_1.size; have := d19.size; have := d21.size; omega))).le (d22.trans (h22_6_5.trans h24_2_5)))
                                refine W.ef rfl rfl rfl ?_
                                refine Ef.vpush (a := (signA (ks.getD ((ech (es.getD i noEdge)).f.toNat) 0) (ech (es.getD i noEdge)) (ns.getD i 0) false)) Try.underlying27 el41 Try.underlying27 adV_row rfl f111 rfl b24_2_5 (by omega) (by unfold maxLen; omega) (by have := lb1_9; have := h17_4.size; have := h17_5.size; have := h18_1.size; have := d19.size; have := d21.size; have := h21_11_5.size; have := h21_10_5.size; have := h21_12_5.size; have := d22.size; have := h22_6_5.size; have := h24_2_5.size; omega) ?_
                                intro A24_3_5 c24_3_5 w24_3_5 o24_3_5 h24_3_5 at24_3_5
                                have L112 : Le w w24_3_5 := L110.then_ h24_3_5 (fun q hq => Nat.le_trans L9.size (f111.row hq).1)
                                refine W.any (.assign rfl) rfl rfl rfl ?_
                                refine W.nil ?_
                                refine E.blkN ?_
                                refine E.thenN ?_
                                refine WC.region ?_
                                refine W.any (.move rfl) rfl rfl rfl ?_
                                refine W.any (.add rfl rfl (by omega)) rfl rfl rfl ?_
                                refine W.any (.assign rfl) rfl rfl rfl ?_
                                refine W.nil ?_
                                have f113 := ((f106.le (h22_6_5.trans h24_2_5)).ch h24_3_5 ((Apart.symm (fun q h1 h2 => by have := (f10.row h1).2; have := (f111.row h2).1; omega))))
                                have f114 := (((((((f1_1.le h17_4).ch h17_5 (fun q hqq hF => by cases hqq; have := f1_1.lt hF;  have := hg17_4; omega)).ch h18_1 (fun q hqq hF => by cases hqq; have := f1_1.lt hF;  have := hg17_4; omega)).le (d19.trans (d21.trans (h21_11_5.trans h21_10_5)))).ch h21_12_5 (fun q hqq hF => by cases hqq; have := f1_1.lt hF; have := h17_4.size; have := h17_5.size; have := h18_1.size; have := d19.size; have := d21.size; have := hg21_11_5; omega)).le (d22.trans (h22_6_5.trans h24_2_5))).ch h24_3_5 (fun q hqq hF => by have := (f111.row hqq).1; have := f11.lt hF;  omega))
                                have f115 := (((((((f1_2.le h17_4).ch h17_5 (fun q hqq hF => by cases hqq; have := f1_2.lt hF;  have := hg17_4; omega)).ch h18_1 (fun q hqq hF => by cases hqq; have := f1_2.lt hF;  have := hg17_4; omega)).le (d19.trans (d21.trans (h21_11_5.trans h21_10_5)))).ch h21_12_5 (fun q hqq hF => by cases hqq; have := f1_2.lt hF; have := h17_4.size; have := h17_5.size; have := h18_1.size; have := d19.size; have := d21.size; have := hg21_11_5; omega)).le (d22.trans (h22_6_5.trans h24_2_5))).ch h24_3_5 (fun q hqq hF => by have := (f111.row hqq).1; have := p10_1.lt hF;  omega))
                                refine E.again (i + 1, A24_3_5, c24_3_5, (L ++ [signA (ks.getD ((ech (es.getD i noEdge)).f.toNat) 0) (ech (es.getD i noEdge)) (ns.getD i 0) false])) (.cons rfl (.cons rfl (.cons rfl (.cons rfl (.cons rfl (.cons rfl (.cons rfl (.cons rfl (.cons rfl (.nil _)))))))))) ?_ ?_
                                · exact ⟨by omega, hO.snoc (by rw [sg_e hm]; assumption) (by rw [sg_e hm, List.length_map]; omega) (by rw [sg_e hm]; rfl) (fun h0 => by rw [hZ (by have := hLl; omega), sg_e hm]; show (ech (es.getD i noEdge)).r = (es.getD 0 noEdge).r ∧ (ech (es.getD i noEdge)).f + (ech (es.getD i noEdge)).t = (es.getD 0 noEdge).f + (es.getD 0 noEdge).t ∧ ((ech (es.getD i noEdge)).f = (es.getD 0 noEdge).f ∨ (ech (es.getD i noEdge)).f = (es.getD 0 noEdge).t); refine ⟨?_, ?_, ?_⟩ <;> (have hLl2 := hLl; first | omega)), fun _ => by rcases Nat.eq_zero_or_pos i with h0 | h0; (have hL0 := List.length_eq_zero_iff.1 (hLl.trans h0); subst hL0; subst h0; exact sg_e hm); rw [getD0_append (by omega)]; exact hZ h0, fun _ => by rcases Nat.eq_zero_or_pos i with h0 | h0; (subst h0; exact he3); exact hR h0, L112, by have := zl1; have := h17_4.size; have := h17_5.size; have := h18_1.size; have := d19.size; have := d21.size; have := h21_11_5.size; have := h21_10_5.size; have := h21_12_5.size; have := d22.size; have := h22_6_5.size; have := h24_2_5.size; have := h24_3_5.size; omega, f113, f114, f115, o24_3_5⟩
                                · first | omega | (simp only []; omega)
                              · refine WC.condY rfl (congrArg not ((Bool.eq_false_iff.2 c5))) ?_
                                refine WC.seq ?_
                                refine WC.region ?_
                                refine W.any (.move rfl) rfl rfl rfl ?_
                                refine W.any (.assign rfl) rfl rfl rfl ?_
                                refine W.nil ?_
                                refine E.thenN ?_
                                refine WC.ret ?_
                                refine E.thenR ?_
                                refine E.blkR ?_
                                refine E.thenR ?_
                                refine E.thenR ?_
                                refine E.blkR ?_
                                refine E.thenR ?_
                                refine E.retG1 rfl rfl ?_
                                exact ⟨rfl, L108⟩
              · refine WC.condN rfl (decide_eq_false c3) ?_
                have hLl : L.length = i := f1_3.1
                have him : i = m := by omega
                refine WC.exit ?_
                refine E.thenX ?_
                refine E.thenX ?_
                refine E.blkH ?_
                refine E.thenN ?_
                refine WC.seq ?_
                refine WC.region ?_
                refine W.any (.assign rfl) rfl rfl rfl ?_
                refine W.nil ?_
                refine E.thenN ?_
                refine WC.seq ?_
                refine WC.seq ?_
                refine WC.region ?_
                refine W.any (.assign rfl) rfl rfl rfl ?_
                refine W.nil ?_
                refine E.thenN ?_
                refine WC.block ?_
                refine WC.loop (ι := Nat) (fun j => [(7, .bool true), (10, .pointer (some ⟨gp9_1, 0, none⟩)), (11, .pointer (some ⟨gp10_1, 0, none⟩)), (12, .slice Al i cl), (16, .int .i64 ((((cF L j) : Nat) : Int))), (17, .int .i64 (((j : Nat) : Int)))]) (fun j wl2 => (j ≤ i) ∧ Le w wl2 ∧ wl1.heap.size ≤ wl2.heap.size ∧ BPool wl2 wl0.heap.size gp9_1 F9_1 (bookN (ks.map base)) ∧ BPool wl2 w9_1.heap.size gp10_1 F10_1 (bookN (ks.map base)) ∧ OVec wl2 w10_1.heap.size 41 adV 13 Al i cl L) (fun j => i - j) 0 ?_ ?_ ?_
                · exact .cons rfl (.cons rfl (.cons rfl (.cons rfl (.cons rfl (.cons rfl (.nil _))))))
                · exact ⟨Nat.zero_le _, Ll1, Nat.le_refl _, f1_1, f1_2, f1_3⟩
                · rintro j wl2 ⟨hj, Ll2, zl2, f2_0, f2_1, f2_2⟩
                  have lb2_9 : w10_1.heap.size ≤ wl2.heap.size := Nat.le_trans lb1_9 (by omega)
                  have hcl := cF_le L j
                  refine WC.seq ?_
                  refine WC.seq ?_
                  refine WC.region ?_
                  refine W.any (.move rfl) rfl rfl rfl ?_
                  refine W.any (.move rfl) rfl rfl rfl ?_
                  refine W.rd (.len Try.underlying27 rfl) rfl rfl rfl ?_
                  refine W.any (.lss rfl rfl) rfl rfl rfl ?_
                  refine W.nil ?_
                  refine E.thenN ?_
                  by_cases c6 : ((j : Nat) : Int) < ((i : Nat) : Int)
                  · refine WC.condY rfl (decide_eq_true c6) ?_
                    refine WC.skip ?_
                    refine E.thenN ?_
                    refine WC.seq ?_
                    refine WC.block ?_
                    refine WC.seq ?_
                    refine WC.draw [0, 1, 2, 3, 4, 5, 6, 7, 8, 9, 10, 11] mixed (by kernel_rfl) ?_
                    intro w29 d29
                    have L116 := Ll2.trans d29
                    refine G.any rfl rfl (.move rfl) rfl rfl rfl ?_
                    refine G.any rfl rfl (.move rfl) rfl rfl rfl ?_
                    refine G.any rfl rfl (.idxS (j) Try.underlying27 sz41 rfl rfl (f1_3.vec.isSome adV_row (by omega)) (rfl) (by omega)) rfl rfl rfl ?_
                    refine G.any rfl rfl (.vfield fa41_0 (f1_3.vec.isSome adV_row (by omega)) rfl) rfl rfl rfl ?_
                    refine G.any rfl rfl (.vfield fa34_0 (f1_3.vec.isSome adV_row (by omega)) rfl) rfl rfl rfl ?_
                    have f117 := (f2_2.le d29)
                    refine G.rd rfl rfl (.vcell (j := j) (o := 0) (v := .int .i64 ((L.getD j noAd).e.f)) na3 rfl f117.vec adV_row (getS L noAd (by first | omega | (simp only [List.length_cons, List.length_nil]; omega))) rfl) rfl rfl rfl ?_
                    refine G.any rfl rfl (.move rfl) rfl rfl rfl ?_
                    refine G.any rfl rfl (.idxS (0) Try.underlying27 sz41 rfl rfl (f1_3.vec.isSome adV_row (by omega)) (by omega) (by omega)) rfl rfl rfl ?_
                    refine G.any rfl rfl (.vfield fa41_0 (f1_3.vec.isSome adV_row (by omega)) rfl) rfl rfl rfl ?_
                    refine G.any rfl rfl (.vfield fa34_0 (f1_3.vec.isSome adV_row (by omega)) rfl) rfl rfl rfl ?_
                    refine G.rd rfl rfl (.vcell (j := 0) (o := 0) (v := .int .i64 ((L.getD 0 noAd).e.f)) na3 rfl f117.vec adV_row (getS L noAd (by first | omega | (simp only [List.length_cons, List.length_nil]; omega))) rfl) rfl rfl rfl ?_
                    refine G.any rfl rfl (.eql rfl rfl) rfl rfl rfl ?_
                    refine G.nil ?_
                    refine E.thenN ?_
                    by_cases c7 : ((L.getD j noAd).e.f) = ((L.getD 0 noAd).e.f)
                    · refine WC.condY rfl (decide_eq_true c7) ?_
                      refine WC.region ?_
                      refine W.any (.move rfl) rfl rfl rfl ?_
                      refine W.any (.add rfl rfl (by omega)) rfl rfl rfl ?_
                      refine W.any (.assign rfl) rfl rfl rfl ?_
                      refine W.nil ?_
                      refine E.blkN ?_
                      refine E.thenN ?_
                      refine WC.region ?_
                      refine W.any (.move rfl) rfl rfl rfl ?_
                      refine W.any (.add rfl rfl (by omega)) rfl rfl rfl ?_
                      refine W.any (.assign rfl) rfl rfl rfl ?_
                      refine W.nil ?_
                      have f118 := (f2_0.le d29)
                      have f119 := (f2_1.le d29)
                      refine E.again (j + 1) (.cons rfl (.cons rfl (.cons rfl (.cons rfl (.cons' rfl (int_eq (by rw [cF_next (by omega)]; rw [if_pos (by assumption)]; omega)) (.cons rfl (.nil _))))))) ?_ ?_
                      · exact ⟨by omega, L116, by have := zl2; have := d29.size; omega, f118, f119, f117⟩
                      · first | omega | (simp only []; omega)
                    · refine WC.condN rfl (decide_eq_false c7) ?_
                      refine WC.skip ?_
                      refine E.blkN ?_
                      refine E.thenN ?_
                      refine WC.region ?_
                      refine W.any (.move rfl) rfl rfl rfl ?_
                      refine W.any (.add rfl rfl (by omega)) rfl rfl rfl ?_
                      refine W.any (.assign rfl) rfl rfl rfl ?_
                      refine W.nil ?_
                      have f120 := (f2_0.le d29)
                      have f121 := (f2_1.le d29)
                      refine E.again (j + 1) (.cons rfl (.cons rfl (.cons rfl (.cons rfl (.cons' rfl (int_eq (by rw [cF_next (by omega)]; rw [if_neg (by assumption)]; omega)) (.cons rfl (.nil _))))))) ?_ ?_
                      · exact ⟨by omega, L116, by have := zl2; have := d29.size; omega, f120, f121, f117⟩
                      · first | omega | (simp only []; omega)
                  · refine WC.condN rfl (decide_eq_false c6) ?_
                    have hji : j = i := by omega
                    refine WC.exit ?_
                    refine E.thenX ?_
                    refine E.thenX ?_
                    refine E.blkH ?_
                    refine E.thenN ?_
                    refine WC.seq ?_
                    refine WC.seq ?_
                    refine WC.region ?_
                    refine W.any (.move rfl) rfl rfl rfl ?_
                    refine W.rd (.len Try.underlying27 rfl) rfl rfl rfl ?_
                    refine W.any (.gtr rfl rfl) rfl rfl rfl ?_
                    by_cases q31_3 : 0 < ((i : Nat) : Int)
                    · refine W.any (.dec (.move rfl) (decide_eq_true q31_3)) rfl rfl rfl ?_
                      refine W.rdg (Any.rd (.move rfl) _) rfl rfl rfl (rfl) rfl rfl ?_
                      refine W.rdg (Any.rd (.gtr rfl rfl) _) rfl rfl rfl (rfl) rfl rfl ?_
                      by_cases q31_6 : 4 < (((cF L j) : Nat) : Int)
                      · refine W.rdg (Any.rd (.dec (.move rfl) (decide_eq_true q31_6)) _) rfl rfl rfl (rfl) rfl rfl ?_
                        refine W.skip rfl rfl rfl (rfl) rfl rfl ?_
                        refine W.skip rfl rfl rfl (rfl) rfl rfl ?_
                        refine W.skip rfl rfl rfl (rfl) rfl rfl ?_
                        refine W.skip rfl rfl rfl (rfl) rfl rfl ?_
                        refine W.skip rfl rfl rfl (rfl) rfl rfl ?_
                        refine W.rdg (Any.rd (.pickT rfl rfl rfl) _) rfl rfl rfl (rfl) rfl rfl ?_
                        refine W.any (.pickT rfl rfl rfl) rfl rfl rfl ?_
                        refine W.nil ?_
                        refine E.thenN ?_
                        refine WC.condT rfl ?_
                        refine WC.seq ?_
                        refine WC.region ?_
                        refine W.any (.move rfl) rfl rfl rfl ?_
                        refine W.any (.assign rfl) rfl rfl rfl ?_
                        refine W.nil ?_
                        refine E.thenN ?_
                        refine WC.ret ?_
                        refine E.thenR ?_
                        refine E.retG1 rfl rfl ?_
                        exact ⟨rfl, Ll2⟩
                      · refine W.rdg (Any.rd (.dec (.move rfl) (decide_eq_false q31_6)) _) rfl rfl rfl (rfl) rfl rfl ?_
                        refine W.rdg (Any.rd (.move rfl) _) rfl rfl rfl (rfl) rfl rfl ?_
                        refine W.rdg (.len Try.underlying27 rfl) rfl rfl rfl (rfl) rfl rfl ?_
                        refine W.rdg (Any.rd (.move rfl) _) rfl rfl rfl (rfl) rfl rfl ?_
                        refine W.rdg (Any.rd (.sub rfl rfl (by omega)) _) rfl rfl rfl (rfl) rfl rfl ?_
                        refine W.rdg (Any.rd (.gtr rfl rfl) _) rfl rfl rfl (rfl) rfl rfl ?_
                        refine W.rdg (Any.rd (.pickF rfl rfl rfl) _) rfl rfl rfl (rfl) rfl rfl ?_
                        refine W.any (.pickT rfl rfl rfl) rfl rfl rfl ?_
                        refine W.nil ?_
                        refine E.thenN ?_
                        by_cases c8 : 4 < (((i : Nat) : Int) - (((cF L j) : Nat) : Int))
                        · refine WC.condY rfl (decide_eq_true c8) ?_
                          refine WC.seq ?_
                          refine WC.region ?_
                          refine W.any (.move rfl) rfl rfl rfl ?_
                          refine W.any (.assign rfl) rfl rfl rfl ?_
                          refine W.nil ?_
                          refine E.thenN ?_
                          refine WC.ret ?_
                          refine E.thenR ?_
                          refine E.retG1 rfl rfl ?_
                          exact ⟨rfl, Ll2⟩
                        · refine WC.condN rfl (decide_eq_false c8) ?_
                          have hfin : FineL (ks.map base) L := ord_fine hO (by rw [hLl]; by_cases h0 : i = 0; exact .inl h0; exact .inr (by rw [← hji]; omega))
                          refine WC.skip ?_
                          refine E.thenN ?_
                          refine WC.seq ?_
                          refine WC.seq ?_
                          refine WC.region ?_
                          refine W.any (.assign rfl) rfl rfl rfl ?_
                          refine W.nil ?_
                          refine E.thenN ?_
                          refine WC.block ?_
                          refine WC.loop (ι := Nat × (Nat → Prop) × (Nat → Prop)) (fun ⟨q, F1, F2⟩ => [(7, .bool true), (10, .pointer (some ⟨gp9_1, 0, none⟩)), (11, .pointer (some ⟨gp10_1, 0, none⟩)), (12, .slice Al i cl), (18, .int .i64 (((q : Nat) : Int)))]) (fun ⟨q, F1, F2⟩ wl3 => (q ≤ i) ∧ Le w wl3 ∧ wl2.heap.size ≤ wl3.heap.size ∧ BPool wl3 wl0.heap.size gp9_1 F1 (runO (bookN (ks.map base)) (L.take q)) ∧ BPool wl3 w9_1.heap.size gp10_1 F2 (runO (bookN (ks.map base)) (L.reverse.take q)) ∧ OVec wl3 w10_1.heap.size 41 adV 13 Al i cl L ∧ (∀ k, F1 k → ¬ F2 k) ∧ (∀ q, rowOf Al cl = some q → ¬ F1 q) ∧ (∀ q, rowOf Al cl = some q → ¬ F2 q)) (fun ⟨q, F1, F2⟩ => i - q) (0, F9_1, F10_1) ?_ ?_ ?_
                          · exact .cons rfl (.cons rfl (.cons rfl (.cons rfl (.cons rfl (.nil _)))))
                          · exact ⟨Nat.zero_le _, Ll2, Nat.le_refl _, f2_0, f2_1, f2_2, (fun k h1 h2 => by have := f2_1.old h2;  have := p9_1.lt h1; omega), (fun g hg hF => by have := f11.lt hF;  have := (f2_2.row hg).1; omega), (fun g hg hF => by have := p10_1.lt hF;  have := (f2_2.row hg).1; omega)⟩
                          · rintro ⟨q, F1, F2⟩ wl3 ⟨hq, Ll3, zl3, f3_0, f3_1, f3_2, pn3_0, po3_0, po3_1⟩
                            have lb3_9 : w10_1.heap.size ≤ wl3.heap.size := Nat.le_trans lb2_9 (by omega)
                            refine WC.seq ?_
                            refine WC.seq ?_
                            refine WC.region ?_
                            refine W.any (.move rfl) rfl rfl rfl ?_
                            refine W.any (.move rfl) rfl rfl rfl ?_
                            refine W.rd (.len Try.underlying27 rfl) rfl rfl rfl ?_
                            refine W.any (.lss rfl rfl) rfl rfl rfl ?_
                            refine W.nil ?_
                            refine E.thenN ?_
                            by_cases c9 : ((q : Nat) : Int) < ((i : Nat) : Int)
                            · refine WC.condY rfl (decide_eq_true c9) ?_
                              refine WC.skip ?_
                              refine E.thenN ?_
                              refine WC.seq ?_
                              refine WC.block ?_
                              refine WC.seq ?_
                              refine WC.region ?_
                              refine W.any (.move rfl) rfl rfl rfl ?_
                              refine W.any (.move rfl) rfl rfl rfl ?_
                              refine W.any (.move rfl) rfl rfl rfl ?_
                              refine W.any (.idxS (q) Try.underlying27 sz41 rfl rfl (f1_3.vec.isSome adV_row (by omega)) (rfl) (by omega)) rfl rfl rfl ?_
                              refine W.rd (.vload ag41 rfl f3_2.vec adV_row (getS L noAd (by first | omega | (simp only [List.length_cons, List.length_nil]; omega)))) rfl rfl rfl ?_
                              refine W.ef rfl rfl rfl ?_
                              refine Ef.call go10 rfl rfl ((by have h := take_book (L.getD q noAd) 50 ((ver_r (hO.fine _ (getD_mem' (by omega))).1)) f3_0; rw [runO_next _ (by omega)] at h; exact h)) ?_
                              rintro _ w36_5 ⟨F36_5, rfl, p36_5, g36_5, h36_5⟩
                              refine ⟨_, rfl, ?_⟩
                              have L122 := Ll3.chP_then h36_5 (fun i hi => Nat.le_trans Ll0.size (f3_0.old hi))
                              have zq123n := (show ∀ k, F2 k → ¬ F1 k from (fun k h1 h2 => pn3_0 k h2 h1))
                              have zq123 := f3_1.chP h36_5 zq123n
                              have zq123g : ∀ k, F2 k → ¬ F36_5 k := fun k hk hF => (g36_5 _ hF).elim (zq123n k hk) (fun hz => by have := f3_1.lt hk; omega)
                              have zq124n := (show ∀ g, rowOf Al cl = some g → ¬ F1 g from po3_0)
                              have zq124 := f3_2.chP h36_5 zq124n
                              have zq124g : ∀ g, rowOf Al cl = some g → ¬ F36_5 g := fun g hg hF => (g36_5 _ hF).elim (zq124n g hg) (fun hz => by have := (f3_2.row hg).2; omega)
                              refine W.nil ?_
                              refine E.thenN ?_
                              refine WC.region ?_
                              refine W.any (.move rfl) rfl rfl rfl ?_
                              refine W.any (.move rfl) rfl rfl rfl ?_
                              refine W.any (.move rfl) rfl rfl rfl ?_
                              refine W.rd (.len Try.underlying27 rfl) rfl rfl rfl ?_
                              refine W.any (.sub rfl rfl (by omega)) rfl rfl rfl ?_
                              refine W.any (.move rfl) rfl rfl rfl ?_
                              refine W.any (.sub rfl rfl (by omega)) rfl rfl rfl ?_
                              refine W.any (.idxS ((i - 1 - q)) Try.underlying27 sz41 rfl rfl (f1_3.vec.isSome adV_row (by omega)) (by omega) (by omega)) rfl rfl rfl ?_
                              refine W.rd (.vload ag41 rfl zq124.vec adV_row (getS L noAd (by first | omega | (simp only [List.length_cons, List.length_nil]; omega)))) rfl rfl rfl ?_
                              refine W.ef rfl rfl rfl ?_
                              refine Ef.call go10 rfl rfl ((by have h := take_book (L.getD (i - 1 - q) noAd) 50 ((ver_r (hO.fine _ (getD_mem' (by omega))).1)) zq123; rw [runO_back _ hLl (by omega)] at h; exact h)) ?_
                              rintro _ w37_9 ⟨F37_9, rfl, p37_9, g37_9, h37_9⟩
                              refine ⟨_, rfl, ?_⟩
                              have L125 := L122.chP_then h37_9 (fun i hi => Nat.le_trans L7.size (zq123.old hi))
                              have zq126n := (show ∀ k, F36_5 k → ¬ F2 k from (fun k h1 h2 => zq123g k h2 h1))
                              have zq126 := p36_5.chP h37_9 zq126n
                              have zq126g : ∀ k, F36_5 k → ¬ F37_9 k := fun k hk hF => (g37_9 _ hF).elim (zq126n k hk) (fun hz => by have := p36_5.lt hk; omega)
                              have zq127n := (show ∀ g, rowOf Al cl = some g → ¬ F2 g from po3_1)
                              have zq127 := zq124.chP h37_9 zq127n
                              have zq127g : ∀ g, rowOf Al cl = some g → ¬ F37_9 g := fun g hg hF => (g37_9 _ hF).elim (zq127n g hg) (fun hz => by have := (zq124.row hg).2; omega)
                              refine W.nil ?_
                              refine E.blkN ?_
                              refine E.thenN ?_
                              refine WC.region ?_
                              refine W.any (.move rfl) rfl rfl rfl ?_
                              refine W.any (.add rfl rfl (by omega)) rfl rfl rfl ?_
                              refine W.any (.assign rfl) rfl rfl rfl ?_
                              refine W.nil ?_
                              refine E.again (q + 1, F36_5, F37_9) (.cons rfl (.cons rfl (.cons rfl (.cons rfl (.cons rfl (.nil _)))))) ?_ ?_
                              · exact ⟨by omega, L125, by have := zl3; have := h36_5.size; have := h37_9.size; omega, zq126, p37_9, zq127, zq126g, zq124g, zq127g⟩
                              · first | omega | (simp only []; omega)
                            · refine WC.condN rfl (decide_eq_false c9) ?_
                              have hqi : q = i := by omega
                              have hX := map_at (xs := (adsB (runO (bookN (ks.map base)) (L.take q)))) (ys := (adsB (runO (bookN (ks.map base)) (L.reverse.take q)))) (by rw [List.take_of_length_le (by omega), List.take_of_length_le (by rw [List.length_reverse]; omega)]; exact order_same hfin (by rw [List.length_map]; omega) (b_lts ks))
                              have hal := adsB_len (runO (bookN (ks.map base)) (L.take q))
                              have hx1 := hX.1
                              refine WC.exit ?_
                              refine E.thenX ?_
                              refine E.thenX ?_
                              refine E.blkH ?_
                              refine E.thenN ?_
                              refine WC.seq ?_
                              refine WC.region ?_
                              refine W.any (.move rfl) rfl rfl rfl ?_
                              refine W.ef rfl rfl rfl ?_
                              refine Ef.call go9 rfl rfl (ads_book (s := (runO (bookN (ks.map base)) (L.take q))) f3_0) ?_
                              rintro _ w38_1 ⟨A38_1, c38_1, rfl, o38_1, h38_1⟩
                              refine ⟨_, rfl, ?_⟩
                              have L128 := Ll3.trans h38_1
                              refine W.any (.assign rfl) rfl rfl rfl ?_
                              refine W.nil ?_
                              refine E.thenN ?_
                              refine WC.seq ?_
                              refine WC.region ?_
                              refine W.any (.move rfl) rfl rfl rfl ?_
                              have f129 := (f3_1.le h38_1)
                              refine W.ef rfl rfl rfl ?_
                              refine Ef.call go9 rfl rfl (ads_book (s := (runO (bookN (ks.map base)) (L.reverse.take q))) f129) ?_
                              rintro _ w39_1 ⟨A39_1, c39_1, rfl, o39_1, h39_1⟩
                              refine ⟨_, rfl, ?_⟩
                              have L130 := L128.trans h39_1
                              refine W.any (.assign rfl) rfl rfl rfl ?_
                              refine W.nil ?_
                              refine E.thenN ?_
                              refine WC.seq ?_
                              refine WC.seq ?_
                              refine WC.region ?_
                              refine W.any (.move rfl) rfl rfl rfl ?_
                              refine W.rd (.len Try.underlying27 rfl) rfl rfl rfl ?_
                              refine W.any (.move rfl) rfl rfl rfl ?_
                              refine W.rd (.len Try.underlying27 rfl) rfl rfl rfl ?_
                              refine W.any (.dec (.neq rfl rfl) (decide_eq_false (fun hh => hh (by rw [hX.1])))) rfl rfl rfl ?_
                              refine W.nil ?_
                              refine E.thenN ?_
                              refine WC.condF rfl ?_
                              refine WC.skip ?_
                              refine E.thenN ?_
                              refine WC.seq ?_
                              refine WC.seq ?_
                              refine WC.region ?_
                              refine W.any (.assign rfl) rfl rfl rfl ?_
                              refine W.nil ?_
                              refine E.thenN ?_
                              refine WC.block ?_
                              have f131 := (o38_1.le h39_1)
                              refine WC.loop (ι := Nat) (fun p => [(7, .bool true), (19, .slice A38_1 ((adsB (runO (bookN (ks.map base)) (L.take q))).length) c38_1), (20, .slice A39_1 ((adsB (runO (bookN (ks.map base)) (L.reverse.take q))).length) c39_1), (21, .int .i64 (((p : Nat) : Int)))]) (fun p wl4 => (p ≤ (adsB (runO (bookN (ks.map base)) (L.take q))).length) ∧ Le w wl4 ∧ w39_1.heap.size ≤ wl4.heap.size ∧ OVec wl4 wl3.heap.size 41 adV 13 A38_1 ((adsB (runO (bookN (ks.map base)) (L.take q))).length) c38_1 (adsB (runO (bookN (ks.map base)) (L.take q))) ∧ OVec wl4 w38_1.heap.size 41 adV 13 A39_1 ((adsB (runO (bookN (ks.map base)) (L.reverse.take q))).length) c39_1 (adsB (runO (bookN (ks.map base)) (L.reverse.take q)))) (fun p => (adsB (runO (bookN (ks.map base)) (L.take q))).length - p) 0 ?_ ?_ ?_
                              · exact .cons rfl (.cons rfl (.cons rfl (.cons rfl (.nil _))))
                              · exact ⟨Nat.zero_le _, L130, Nat.le_refl _, f131, o39_1⟩
                              · rintro p wl4 ⟨hp, Ll4, zl4, f4_0, f4_1⟩
                                have lb4_29 : wl3.heap.size ≤ wl4.heap.size := by have := h38_1.size; have := h39_1.size; omega
                                have lb4_30 : w38_1.heap.size ≤ wl4.heap.size := by have := h39_1.size; omega
                                refine WC.seq ?_
                                refine WC.seq ?_
                                refine WC.region ?_
                                refine W.any (.move rfl) rfl rfl rfl ?_
                                refine W.any (.move rfl) rfl rfl rfl ?_
                                refine W.rd (.len Try.underlying27 rfl) rfl rfl rfl ?_
                                refine W.any (.lss rfl rfl) rfl rfl rfl ?_
                                refine W.nil ?_
                                refine E.thenN ?_
                                by_cases c11 : ((p : Nat) : Int) < (((adsB (runO (bookN (ks.map base)) (L.take q))).length : Nat) : Int)
                                · refine WC.condY rfl (decide_eq_true c11) ?_
                                  refine WC.skip ?_
                                  refine E.thenN ?_
                                  refine WC.seq ?_
                                  refine WC.block ?_
                                  refine WC.seq ?_
                                  refine WC.draw [0, 1, 2, 3, 4, 5, 6, 7, 8, 9, 10, 11, 12, 13, 14, 15, 16, 17, 18, 19, 20, 21, 22, 23, 24, 25] mixed (by kernel_rfl) ?_
                                  intro w45 d45
                                  have L132 := Ll4.trans d45
                                  refine G.any rfl rfl (.move rfl) rfl rfl rfl ?_
                                  refine G.any rfl rfl (.move rfl) rfl rfl rfl ?_
                                  refine G.any rfl rfl (.idxS (p) Try.underlying27 sz41 rfl rfl (o38_1.vec.isSome adV_row (by omega)) (rfl) (by omega)) rfl rfl rfl ?_
                                  refine G.any rfl rfl (.vfield fa41_1 (o38_1.vec.isSome adV_row (by omega)) rfl) rfl rfl rfl ?_
                                  have f133 := (f4_0.le d45)
                                  refine G.rd rfl rfl (.vcell (j := p) (o := 9) (v := .int .i64 (((adsB (runO (bookN (ks.map base)) (L.take q))).getD p noAd).no)) na3 rfl f133.vec adV_row (getS (adsB (runO (bookN (ks.map base)) (L.take q))) noAd (by first | omega | (simp only [List.length_cons, List.length_nil]; omega))) rfl) rfl rfl rfl ?_
                                  refine G.any rfl rfl (.move rfl) rfl rfl rfl ?_
                                  refine G.any rfl rfl (.move rfl) rfl rfl rfl ?_
                                  refine G.any rfl rfl (.idxS (p) Try.underlying27 sz41 rfl rfl (o39_1.vec.isSome adV_row (by omega)) (rfl) (by omega)) rfl rfl rfl ?_
                                  refine G.any rfl rfl (.vfield fa41_1 (o39_1.vec.isSome adV_row (by omega)) rfl) rfl rfl rfl ?_
                                  have f134 := (f4_1.le d45)
                                  refine G.rd rfl rfl (.vcell (j := p) (o := 9) (v := .int .i64 (((adsB (runO (bookN (ks.map base)) (L.reverse.take q))).getD p noAd).no)) na3 rfl f134.vec adV_row (getS (adsB (runO (bookN (ks.map base)) (L.reverse.take q))) noAd (by first | omega | (simp only [List.length_cons, List.length_nil]; omega))) rfl) rfl rfl rfl ?_
                                  refine G.any rfl rfl (.neq rfl rfl) rfl rfl rfl ?_
                                  refine G.any rfl rfl (.dec (.move rfl) (decide_eq_false (fun hh => hh (hX.2 p (by omega)).1))) rfl rfl rfl ?_
                                  refine G.anyg rfl rfl (.move rfl) rfl rfl rfl (rfl) rfl rfl ?_
                                  refine G.anyg rfl rfl (.move rfl) rfl rfl rfl (rfl) rfl rfl ?_
                                  refine G.anyg rfl rfl (.idxS (p) Try.underlying27 sz41 rfl rfl (o38_1.vec.isSome adV_row (by omega)) (rfl) (by omega)) rfl rfl rfl (rfl) rfl rfl ?_
                                  refine G.anyg rfl rfl (.vfield fa41_0 (o38_1.vec.isSome adV_row (by omega)) rfl) rfl rfl rfl (rfl) rfl rfl ?_
                                  refine G.anyg rfl rfl (.vfield fa34_0 (o38_1.vec.isSome adV_row (by omega)) rfl) rfl rfl rfl (rfl) rfl rfl ?_
                                  refine G.rdg rfl rfl (.vcell (j := p) (o := 0) (v := .int .i64 (((adsB (runO (bookN (ks.map base)) (L.take q))).getD p noAd).e.f)) na3 rfl f133.vec adV_row (getS (adsB (runO (bookN (ks.map base)) (L.take q))) noAd (by first | omega | (simp only [List.length_cons, List.length_nil]; omega))) rfl) rfl rfl rfl (rfl) rfl rfl ?_
                                  refine G.anyg rfl rfl (.move rfl) rfl rfl rfl (rfl) rfl rfl ?_
                                  refine G.anyg rfl rfl (.move rfl) rfl rfl rfl (rfl) rfl rfl ?_
                                  refine G.anyg rfl rfl (.idxS (p) Try.underlying27 sz41 rfl rfl (o39_1.vec.isSome adV_row (by omega)) (rfl) (by omega)) rfl rfl rfl (rfl) rfl rfl ?_
                                  refine G.anyg rfl rfl (.vfield fa41_0 (o39_1.vec.isSome adV_row (by omega)) rfl) rfl rfl rfl (rfl) rfl rfl ?_
                                  refine G.anyg rfl rfl (.vfield fa34_0 (o39_1.vec.isSome adV_row (by omega)) rfl) rfl rfl rfl (rfl) rfl rfl ?_
                                  refine G.rdg rfl rfl (.vcell (j := p) (o := 0) (v := .int .i64 (((adsB (runO (bookN (ks.map base)) (L.reverse.take q))).getD p noAd).e.f)) na3 rfl f134.vec adV_row (getS (adsB (runO (bookN (ks.map base)) (L.reverse.take q))) noAd (by first | omega | (simp only [List.length_cons, List.length_nil]; omega))) rfl) rfl rfl rfl (rfl) rfl rfl ?_
                                  refine G.anyg rfl rfl (.dec (.neq rfl rfl) (decide_eq_false (fun hh => hh (hX.2 p (by omega)).2))) rfl rfl rfl (rfl) rfl rfl ?_
                                  refine G.any rfl rfl (.pickF rfl rfl rfl) rfl rfl rfl ?_
                                  refine G.nil ?_
                                  refine E.thenN ?_
                                  refine WC.condF rfl ?_
                                  refine WC.skip ?_
                                  refine E.blkN ?_
                                  refine E.thenN ?_
                                  refine WC.region ?_
                                  refine W.any (.move rfl) rfl rfl rfl ?_
                                  refine W.any (.add rfl rfl (by omega)) rfl rfl rfl ?_
                                  refine W.any (.assign rfl) rfl rfl rfl ?_
                                  refine W.nil ?_
                                  refine E.again (p + 1) (.cons rfl (.cons rfl (.cons rfl (.cons rfl (.nil _))))) ?_ ?_
                                  · exact ⟨by omega, L132, by have := zl4; have := d45.size; omega, f133, f134⟩
                                  · first | omega | (simp only []; omega)
                                · refine WC.condN rfl (decide_eq_false c11) ?_
                                  refine WC.exit ?_
                                  refine E.thenX ?_
                                  refine E.thenX ?_
                                  refine E.blkH ?_
                                  refine E.thenN ?_
                                  refine WC.seq ?_
                                  refine WC.region ?_
                                  refine W.any (.move rfl) rfl rfl rfl ?_
                                  refine W.any (.assign rfl) rfl rfl rfl ?_
                                  refine W.nil ?_
                                  refine E.thenN ?_
                                  refine WC.ret ?_
                                  refine E.retG1 rfl rfl ?_
                                  exact ⟨rfl, Ll4⟩
                    · refine W.any (.dec (.move rfl) (decide_eq_false q31_3)) rfl rfl rfl ?_
                      refine W.skip rfl rfl rfl (rfl) rfl rfl ?_
                      refine W.skip rfl rfl rfl (rfl) rfl rfl ?_
                      refine W.skip rfl rfl rfl (rfl) rfl rfl ?_
                      refine W.skipu rfl rfl rfl rfl rfl ?_
                      refine W.skipu rfl rfl rfl rfl rfl ?_
                      refine W.skipu rfl rfl rfl rfl rfl ?_
                      refine W.skipu rfl rfl rfl rfl rfl ?_
                      refine W.skipu rfl rfl rfl rfl rfl ?_
                      refine W.skip rfl rfl rfl (rfl) rfl rfl ?_
                      refine W.any (.pickF rfl rfl rfl) rfl rfl rfl ?_
                      refine W.nil ?_
                      refine E.thenN ?_
                      refine WC.condF rfl ?_
                      have hfin : FineL (ks.map base) L := ord_fine hO (by rw [hLl]; by_cases h0 : i = 0; exact .inl h0; exact .inr (by rw [← hji]; omega))
                      refine WC.skip ?_
                      refine E.thenN ?_
                      refine WC.seq ?_
                      refine WC.seq ?_
                      refine WC.region ?_
                      refine W.any (.assign rfl) rfl rfl rfl ?_
                      refine W.nil ?_
                      refine E.thenN ?_
                      refine WC.block ?_
                      refine WC.loop (ι := Nat × (Nat → Prop) × (Nat → Prop)) (fun ⟨q, F1, F2⟩ => [(7, .bool true), (10, .pointer (some ⟨gp9_1, 0, none⟩)), (11, .pointer (some ⟨gp10_1, 0, none⟩)), (12, .slice Al i cl), (18, .int .i64 (((q : Nat) : Int)))]) (fun ⟨q, F1, F2⟩ wl3 => (q ≤ i) ∧ Le w wl3 ∧ wl2.heap.size ≤ wl3.heap.size ∧ BPool wl3 wl0.heap.size gp9_1 F1 (runO (bookN (ks.map base)) (L.take q)) ∧ BPool wl3 w9_1.heap.size gp10_1 F2 (runO (bookN (ks.map base)) (L.reverse.take q)) ∧ OVec wl3 w10_1.heap.size 41 adV 13 Al i cl L ∧ (∀ k, F1 k → ¬ F2 k) ∧ (∀ q, rowOf Al cl = some q → ¬ F1 q) ∧ (∀ q, rowOf Al cl = some q → ¬ F2 q)) (fun ⟨q, F1, F2⟩ => i - q) (0, F9_1, F10_1) ?_ ?_ ?_
                      · exact .cons rfl (.cons rfl (.cons rfl (.cons rfl (.cons rfl (.nil _)))))
                      · exact ⟨Nat.zero_le _, Ll2, Nat.le_refl _, f2_0, f2_1, f2_2, (fun k h1 h2 => by have := f2_1.old h2;  have := p9_1.lt h1; omega), (fun g hg hF => by have := f11.lt hF;  have := (f2_2.row hg).1; omega), (fun g hg hF => by have := p10_1.lt hF;  have := (f2_2.row hg).1; omega)⟩
                      · rintro ⟨q, F1, F2⟩ wl3 ⟨hq, Ll3, zl3, f3_0, f3_1, f3_2, pn3_0, po3_0, po3_1⟩
                        have lb3_9 : w10_1.heap.size ≤ wl3.heap.size := Nat.le_trans lb2_9 (by omega)
                        refine WC.seq ?_
                        refine WC.seq ?_
                        refine WC.region ?_
                        refine W.any (.move rfl) rfl rfl rfl ?_
                        refine W.any (.move rfl) rfl rfl rfl ?_
                        refine W.rd (.len Try.underlying27 rfl) rfl rfl rfl ?_
                        refine W.any (.lss rfl rfl) rfl rfl rfl ?_
                        refine W.nil ?_
                        refine E.thenN ?_
                        by_cases c9 : ((q : Nat) : Int) < ((i : Nat) : Int)
                        · refine WC.condY rfl (decide_eq_true c9) ?_
                          refine WC.skip ?_
                          refine E.thenN ?_
                          refine WC.seq ?_
                          refine WC.block ?_
                          refine WC.seq ?_
                          refine WC.region ?_
                          refine W.any (.move rfl) rfl rfl rfl ?_
                          refine W.any (.move rfl) rfl rfl rfl ?_
                          refine W.any (.move rfl) rfl rfl rfl ?_
                          refine W.any (.idxS (q) Try.underlying27 sz41 rfl rfl (f1_3.vec.isSome adV_row (by omega)) (rfl) (by omega)) rfl rfl rfl ?_
                          refine W.rd (.vload ag41 rfl f3_2.vec adV_row (getS L noAd (by first | omega | (simp only [List.length_cons, List.length_nil]; omega)))) rfl rfl rfl ?_
                          refine W.ef rfl rfl rfl ?_
                          refine Ef.call go10 rfl rfl ((by have h := take_book (L.getD q noAd) 50 ((ver_r (hO.fine _ (getD_mem' (by omega))).1)) f3_0; rw [runO_next _ (by omega)] at h; exact h)) ?_
                          rintro _ w36_5_1 ⟨F36_5_1, rfl, p36_5_1, g36_5_1, h36_5_1⟩
                          refine ⟨_, rfl, ?_⟩
                          have L135 := Ll3.chP_then h36_5_1 (fun i hi => Nat.le_trans Ll0.size (f3_0.old hi))
                          have zq136n := (show ∀ k, F2 k → ¬ F1 k from (fun k h1 h2 => pn3_0 k h2 h1))
                          have zq136 := f3_1.chP h36_5_1 zq136n
                          have zq136g : ∀ k, F2 k → ¬ F36_5_1 k := fun k hk hF => (g36_5_1 _ hF).elim (zq136n k hk) (fun hz => by have := f3_1.lt hk; omega)
                          have zq137n := (show ∀ g, rowOf Al cl = some g → ¬ F1 g from po3_0)
                          have zq137 := f3_2.chP h36_5_1 zq137n
                          have zq137g : ∀ g, rowOf Al cl = some g → ¬ F36_5_1 g := fun g hg hF => (g36_5_1 _ hF).elim (zq137n g hg) (fun hz => by have := (f3_2.row hg).2; omega)
                          refine W.nil ?_
                          refine E.thenN ?_
                          refine WC.region ?_
                          refine W.any (.move rfl) rfl rfl rfl ?_
                          refine W.any (.move rfl) rfl rfl rfl ?_
                          refine W.any (.move rfl) rfl rfl rfl ?_
                          refine W.rd (.len Try.underlying27 rfl) rfl rfl rfl ?_
                          refine W.any (.sub rfl rfl (by omega)) rfl rfl rfl ?_
                          refine W.any (.move rfl) rfl rfl rfl ?_
                          refine W.any (.sub rfl rfl (by omega)) rfl rfl rfl ?_
                          refine W.any (.idxS ((i - 1 - q)) Try.underlying27 sz41 rfl rfl (f1_3.vec.isSome adV_row (by omega)) (by omega) (by omega)) rfl rfl rfl ?_
                          refine W.rd (.vload ag41 rfl zq137.vec adV_row (getS L noAd (by first | omega | (simp only [List.length_cons, List.length_nil]; omega)))) rfl rfl rfl ?_
                          refine W.ef rfl rfl rfl ?_
                          refine Ef.call go10 rfl rfl ((by have h := take_book (L.getD (i - 1 - q) noAd) 50 ((ver_r (hO.fine _ (getD_mem' (by omega))).1)) zq136; rw [runO_back _ hLl (by omega)] at h; exact h)) ?_
                          rintro _ w37_9_1 ⟨F37_9_1, rfl, p37_9_1, g37_9_1, h37_9_1⟩
                          refine ⟨_, rfl, ?_⟩
                          have L138 := L135.chP_then h37_9_1 (fun i hi => Nat.le_trans L7.size (zq136.old hi))
                          have zq139n := (show ∀ k, F36_5_1 k → ¬ F2 k from (fun k h1 h2 => zq136g k h2 h1))
                          have zq139 := p36_5_1.chP h37_9_1 zq139n
                          have zq139g : ∀ k, F36_5_1 k → ¬ F37_9_1 k := fun k hk hF => (g37_9_1 _ hF).elim (zq139n k hk) (fun hz => by have := p36_5_1.lt hk; omega)
                          have zq140n := (show ∀ g, rowOf Al cl = some g → ¬ F2 g from po3_1)
                          have zq140 := zq137.chP h37_9_1 zq140n
                          have zq140g : ∀ g, rowOf Al cl = some g → ¬ F37_9_1 g := fun g hg hF => (g37_9_1 _ hF).elim (zq140n g hg) (fun hz => by have := (zq137.row hg).2; omega)
                          refine W.nil ?_
                          refine E.blkN ?_
                          refine E.thenN ?_
                          refine WC.region ?_
                          refine W.any (.move rfl) rfl rfl rfl ?_
                          refine W.any (.add rfl rfl (by omega)) rfl rfl rfl ?_
                          refine W.any (.assign rfl) rfl rfl rfl ?_
                          refine W.nil ?_
                          refine E.again (q + 1, F36_5_1, F37_9_1) (.cons rfl (.cons rfl (.cons rfl (.cons rfl (.cons rfl (.nil _)))))) ?_ ?_
                          · exact ⟨by omega, L138, by have := zl3; have := h36_5_1.size; have := h37_9_1.size; omega, zq139, p37_9_1, zq140, zq139g, zq137g, zq140g⟩
                          · first | omega | (simp only []; omega)
                        · refine WC.condN rfl (decide_eq_false c9) ?_
                          have hqi : q = i := by omega
                          have hX := map_at (xs := (adsB (runO (bookN (ks.map base)) (L.take q)))) (ys := (adsB (runO (bookN (ks.map base)) (L.reverse.take q)))) (by rw [List.take_of_length_le (by omega), List.take_of_length_le (by rw [List.length_reverse]; omega)]; exact order_same hfin (by rw [List.length_map]; omega) (b_lts ks))
                          have hal := adsB_len (runO (bookN (ks.map base)) (L.take q))
                          have hx1 := hX.1
                          refine WC.exit ?_
                          refine E.thenX ?_
                          refine E.thenX ?_
                          refine E.blkH ?_
                          refine E.thenN ?_
                          refine WC.seq ?_
                          refine WC.region ?_
                          refine W.any (.move rfl) rfl rfl rfl ?_
                          refine W.ef rfl rfl rfl ?_
                          refine Ef.call go9 rfl rfl (ads_book (s := (runO (bookN (ks.map base)) (L.take q))) f3_0) ?_
                          rintro _ w38_1_1 ⟨A38_1_1, c38_1_1, rfl, o38_1_1, h38_1_1⟩
                          refine ⟨_, rfl, ?_⟩
                          have L141 := Ll3.trans h38_1_1
                          refine W.any (.assign rfl) rfl rfl rfl ?_
                          refine W.nil ?_
                          refine E.thenN ?_
                          refine WC.seq ?_
                          refine WC.region ?_
                          refine W.any (.move rfl) rfl rfl rfl ?_
                          have f142 := (f3_1.le h38_1_1)
                          refine W.ef rfl rfl rfl ?_
                          refine Ef.call go9 rfl rfl (ads_book (s := (runO (bookN (ks.map base)) (L.reverse.take q))) f142) ?_
                          rintro _ w39_1_1 ⟨A39_1_1, c39_1_1, rfl, o39_1_1, h39_1_1⟩
                          refine ⟨_, rfl, ?_⟩
                          have L143 := L141.trans h39_1_1
                          refine W.any (.assign rfl) rfl rfl rfl ?_
                          refine W.nil ?_
                          refine E.thenN ?_
                          refine WC.seq ?_
                          refine WC.seq ?_
                          refine WC.region ?_
                          refine W.any (.move rfl) rfl rfl rfl ?_
                          refine W.rd (.len Try.underlying27 rfl) rfl rfl rfl ?_
                          refine W.any (.move rfl) rfl rfl rfl ?_
                          refine W.rd (.len Try.underlying27 rfl) rfl rfl rfl ?_
                          refine W.any (.dec (.neq rfl rfl) (decide_eq_false (fun hh => hh (by rw [hX.1])))) rfl rfl rfl ?_
                          refine W.nil ?_
                          refine E.thenN ?_
                          refine WC.condF rfl ?_
                          refine WC.skip ?_
                          refine E.thenN ?_
                          refine WC.seq ?_
                          refine WC.seq ?_
                          refine WC.region ?_
                          refine W.any (.assign rfl) rfl rfl rfl ?_
                          refine W.nil ?_
                          refine E.thenN ?_
                          refine WC.block ?_
                          have f144 := (o38_1_1.le h39_1_1)
                          refine WC.loop (ι := Nat) (fun p => [(7, .bool true), (19, .slice A38_1_1 ((adsB (runO (bookN (ks.map base)) (L.take q))).length) c38_1_1), (20, .slice A39_1_1 ((adsB (runO (bookN (ks.map base)) (L.reverse.take q))).length) c39_1_1), (21, .int .i64 (((p : Nat) : Int)))]) (fun p wl4 => (p ≤ (adsB (runO (bookN (ks.map base)) (L.take q))).length) ∧ Le w wl4 ∧ w39_1_1.heap.size ≤ wl4.heap.size ∧ OVec wl4 wl3.heap.size 41 adV 13 A38_1_1 ((adsB (runO (bookN (ks.map base)) (L.take q))).length) c38_1_1 (adsB (runO (bookN (ks.map base)) (L.take q))) ∧ OVec wl4 w38_1_1.heap.size 41 adV 13 A39_1_1 ((adsB (runO (bookN (ks.map base)) (L.reverse.take q))).length) c39_1_1 (adsB (runO (bookN (ks.map base)) (L.reverse.take q)))) (fun p => (adsB (runO (bookN (ks.map base)) (L.take q))).length - p) 0 ?_ ?_ ?_
                          · exact .cons rfl (.cons rfl (.cons rfl (.cons rfl (.nil _))))
                          · exact ⟨Nat.zero_le _, L143, Nat.le_refl _, f144, o39_1_1⟩
                          · rintro p wl4 ⟨hp, Ll4, zl4, f4_0, f4_1⟩
                            have lb4_31 : wl3.heap.size ≤ wl4.heap.size := by have := h38_1_1.size; have := h39_1_1.size; omega
                            have lb4_32 : w38_1_1.heap.size ≤ wl4.heap.size := by have := h39_1_1.size; omega
                            refine WC.seq ?_
                            refine WC.seq ?_
                            refine WC.region ?_
                            refine W.any (.move rfl) rfl rfl rfl ?_
                            refine W.any (.move rfl) rfl rfl rfl ?_
                            refine W.rd (.len Try.underlying27 rfl) rfl rfl rfl ?_
                            refine W.any (.lss rfl rfl) rfl rfl rfl ?_
                            refine W.nil ?_
                            refine E.thenN ?_
                            by_cases c11 : ((p : Nat) : Int) < (((adsB (runO (bookN (ks.map base)) (L.take q))).length : Nat) : Int)
                            · refine WC.condY rfl (decide_eq_true c11) ?_
                              refine WC.skip ?_
                              refine E.thenN ?_
                              refine WC.seq ?_
                              refine WC.block ?_
                              refine WC.seq ?_
                              refine WC.draw [0, 1, 2, 3, 4, 5, 6, 7, 8, 9, 10, 11, 12, 13, 14, 15, 16, 17, 18, 19, 20, 21, 22, 23, 24, 25] mixed (by kernel_rfl) ?_
                              intro w45 d45
                              have L145 := Ll4.trans d45
                              refine G.any rfl rfl (.move rfl) rfl rfl rfl ?_
                              refine G.any rfl rfl (.move rfl) rfl rfl rfl ?_
                              refine G.any rfl rfl (.idxS (p) Try.underlying27 sz41 rfl rfl (o38_1_1.vec.isSome adV_row (by omega)) (rfl) (by omega)) rfl rfl rfl ?_
                              refine G.any rfl rfl (.vfield fa41_1 (o38_1_1.vec.isSome adV_row (by omega)) rfl) rfl rfl rfl ?_
                              have f146 := (f4_0.le d45)
                              refine G.rd rfl rfl (.vcell (j := p) (o := 9) (v := .int .i64 (((adsB (runO (bookN (ks.map base)) (L.take q))).getD p noAd).no)) na3 rfl f146.vec adV_row (getS (adsB (runO (bookN (ks.map base)) (L.take q))) noAd (by first | omega | (simp only [List.length_cons, List.length_nil]; omega))) rfl) rfl rfl rfl ?_
                              refine G.any rfl rfl (.move rfl) rfl rfl rfl ?_
                              refine G.any rfl rfl (.move rfl) rfl rfl rfl ?_
                              refine G.any rfl rfl (.idxS (p) Try.underlying27 sz41 rfl rfl (o39_1_1.vec.isSome adV_row (by omega)) (rfl) (by omega)) rfl rfl rfl ?_
                              refine G.any rfl rfl (.vfield fa41_1 (o39_1_1.vec.isSome adV_row (by omega)) rfl) rfl rfl rfl ?_
                              have f147 := (f4_1.le d45)
                              refine G.rd rfl rfl (.vcell (j := p) (o := 9) (v := .int .i64 (((adsB (runO (bookN (ks.map base)) (L.reverse.take q))).getD p noAd).no)) na3 rfl f147.vec adV_row (getS (adsB (runO (bookN (ks.map base)) (L.reverse.take q))) noAd (by first | omega | (simp only [List.length_cons, List.length_nil]; omega))) rfl) rfl rfl rfl ?_
                              refine G.any rfl rfl (.neq rfl rfl) rfl rfl rfl ?_
                              refine G.any rfl rfl (.dec (.move rfl) (decide_eq_false (fun hh => hh (hX.2 p (by omega)).1))) rfl rfl rfl ?_
                              refine G.anyg rfl rfl (.move rfl) rfl rfl rfl (rfl) rfl rfl ?_
                              refine G.anyg rfl rfl (.move rfl) rfl rfl rfl (rfl) rfl rfl ?_
                              refine G.anyg rfl rfl (.idxS (p) Try.underlying27 sz41 rfl rfl (o38_1_1.vec.isSome adV_row (by omega)) (rfl) (by omega)) rfl rfl rfl (rfl) rfl rfl ?_
                              refine G.anyg rfl rfl (.vfield fa41_0 (o38_1_1.vec.isSome adV_row (by omega)) rfl) rfl rfl rfl (rfl) rfl rfl ?_
                              refine G.anyg rfl rfl (.vfield fa34_0 (o38_1_1.vec.isSome adV_row (by omega)) rfl) rfl rfl rfl (rfl) rfl rfl ?_
                              refine G.rdg rfl rfl (.vcell (j := p) (o := 0) (v := .int .i64 (((adsB (runO (bookN (ks.map base)) (L.take q))).getD p noAd).e.f)) na3 rfl f146.vec adV_row (getS (adsB (runO (bookN (ks.map base)) (L.take q))) noAd (by first | omega | (simp only [List.length_cons, List.length_nil]; omega))) rfl) rfl rfl rfl (rfl) rfl rfl ?_
                              refine G.anyg rfl rfl (.move rfl) rfl rfl rfl (rfl) rfl rfl ?_
                              refine G.anyg rfl rfl (.move rfl) rfl rfl rfl (rfl) rfl rfl ?_
                              refine G.anyg rfl rfl (.idxS (p) Try.underlying27 sz41 rfl rfl (o39_1_1.vec.isSome adV_row (by omega)) (rfl) (by omega)) rfl rfl rfl (rfl) rfl rfl ?_
                              refine G.anyg rfl rfl (.vfield fa41_0 (o39_1_1.vec.isSome adV_row (by omega)) rfl) rfl rfl rfl (rfl) rfl rfl ?_
                              refine G.anyg rfl rfl (.vfield fa34_0 (o39_1_1.vec.isSome adV_row (by omega)) rfl) rfl rfl rfl (rfl) rfl rfl ?_
                              refine G.rdg rfl rfl (.vcell (j := p) (o := 0) (v := .int .i64 (((adsB (runO (bookN (ks.map base)) (L.reverse.take q))).getD p noAd).e.f)) na3 rfl f147.vec adV_row (getS (adsB (runO (bookN (ks.map base)) (L.reverse.take q))) noAd (by first | omega | (simp only [List.length_cons, List.length_nil]; omega))) rfl) rfl rfl rfl (rfl) rfl rfl ?_
                              refine G.anyg rfl rfl (.dec (.neq rfl rfl) (decide_eq_false (fun hh => hh (hX.2 p (by omega)).2))) rfl rfl rfl (rfl) rfl rfl ?_
                              refine G.any rfl rfl (.pickF rfl rfl rfl) rfl rfl rfl ?_
                              refine G.nil ?_
                              refine E.thenN ?_
                              refine WC.condF rfl ?_
                              refine WC.skip ?_
                              refine E.blkN ?_
                              refine E.thenN ?_
                              refine WC.region ?_
                              refine W.any (.move rfl) rfl rfl rfl ?_
                              refine W.any (.add rfl rfl (by omega)) rfl rfl rfl ?_
                              refine W.any (.assign rfl) rfl rfl rfl ?_
                              refine W.nil ?_
                              refine E.again (p + 1) (.cons rfl (.cons rfl (.cons rfl (.cons rfl (.nil _))))) ?_ ?_
                              · exact ⟨by omega, L145, by have := zl4; have := d45.size; omega, f146, f147⟩
                              · first | omega | (simp only []; omega)
                            · refine WC.condN rfl (decide_eq_false c11) ?_
                              refine WC.exit ?_
                              refine E.thenX ?_
                              refine E.thenX ?_
                              refine E.blkH ?_
                              refine E.thenN ?_
                              refine WC.seq ?_
                              refine WC.region ?_
                              refine W.any (.move rfl) rfl rfl rfl ?_
                              refine W.any (.assign rfl) rfl rfl rfl ?_
                              refine W.nil ?_
                              refine E.thenN ?_
                              refine WC.ret ?_
                              refine E.retG1 rfl rfl ?_
                              exact ⟨rfl, Ll4⟩
end Go.Proofs.Ytbpfhenbcgjpcaa

