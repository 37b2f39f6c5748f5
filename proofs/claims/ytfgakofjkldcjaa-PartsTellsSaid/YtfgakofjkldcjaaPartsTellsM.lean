/- PartsTells: for every input the law answers true and leaves its arguments as they were. -/
import Derived.Test.YtfgakofjkldcjaaPartsTellsL
import Derived.OrdersHeld
import Derived.WalkKit
import Derived.Deep.AppendSrc
import Derived.Deep.MidRow
import Derived.Laws.OwnMore
import Derived.WalkSpells
import Derived.Lib.ConvBytes
import Derived.Lib.AppendZerosOnto
import Derived.Laws.StructEq
import Derived.Maps.RangeRun
import Derived.Laws.Pointers
import Derived.Test.YtfgakofjkldcjaaProg
import Derived.KernelRfl
import Derived.Lib.Mul64
import Derived.Shelf.SlIterI.Nil
import Derived.Shelf.SortM.Plain
import Derived.Shelf.SortM.SortNone
import Derived.Ground.GgzProg
import Derived.Ground.SlgmProg
import Derived.ProofKit
import Derived.OpenShut
import Derived.ShutString
import Derived.ChangeOld
import Derived.Below
import Derived.Deep.Slices
namespace Go.Sx
open Go Go.ChangeShapes Go.WideShapes Go.Deep
set_option linter.unusedVariables false
variable {H : Type} {enc : TypeId × Value → H} {P : Program} {w : World} {base : Nat} {spare : Nat → Bool} {held : Bool}

theorem flatten_get {α : Type} {k : Nat} {f : α → List Value} : ∀ (qs : List α), (∀ q ∈ qs, (f q).length = k) → ∀ (j : Nat) (u : Value), ((qs.map f).flatten)[j]? = some u → 0 < k ∧ ∃ q, qs[j / k]? = some q ∧ (f q)[j % k]? = some u
  | [], _, j, u, h => by simp at h
  | q :: qs, hk, j, u, h => by
    have hq := hk q (by simp)
    simp only [List.map_cons, List.flatten_cons] at h
    by_cases hj : j < k
    · rw [List.getElem?_append_left (by omega)] at h
      exact ⟨by omega, q, by simp [Nat.div_eq_of_lt hj], by rw [Nat.mod_eq_of_lt hj]; exact h⟩
    · rw [List.getElem?_append_right (by omega), hq] at h
      obtain ⟨hp, r, h1, h2⟩ := flatten_get qs (fun q hq => hk q (by simp [hq])) (j - k) u h
      have hd : j / k = (j - k) / k + 1 := by rw [Nat.div_eq_sub_div hp (by omega)]
      have hm : j % k = (j - k) % k := Nat.mod_eq_sub_mod (by omega)
      exact ⟨hp, r, by rw [hd]; simpa using h1, by rw [hm]; exact h2⟩
theorem flatten_length {α : Type} {k : Nat} {f : α → List Value} : ∀ (qs : List α), (∀ q ∈ qs, (f q).length = k) → ((qs.map f).flatten).length = qs.length * k
  | [], _ => by simp
  | q :: qs, hk => by
    have := flatten_length qs (fun q hq => hk q (by simp [hq]))
    simp only [List.map_cons, List.flatten_cons, List.length_append, List.length_cons, this, hk q (by simp)]
    rw [Nat.add_mul, Nat.one_mul, Nat.add_comm]

/-- A slice of rows opened: what is known of one row is known of all. -/
theorem open_rows {α : Type} [Inhabited α] {f : α → List Value} {good : α → Prop} {t e : TypeId} {k : Nat} {r : Reach} {b0 : Nat} {v : Value} {d : DataW H} {ps : List MemPlace}
    (ht : P.underlying t = some (.slice e)) (hc : P.cellsOf e = k) (hp : ∀ fuel cs x, DataW.trod enc P w base spare held fuel e cs = some x → ∃ q, cs = f q ∧ good q)
    (hval : Value.okWide P w r b0 t v) (hd : DataW.Trod enc P w base spare held t v d ps) :
    ∃ (A : Option Addr) (n c : Nat) (qs : List α), v = .slice A n c ∧ qs.length = n ∧ (∀ q ∈ qs, good q ∧ (f q).length = k) ∧ Sl w k A n (qs.map f).flatten ∧ n ≤ c ∧ c ≤ maxLen := by
  obtain ⟨A, n, c, rfl⟩ := okWide_slice ht hval
  obtain ⟨fuel, hf⟩ := hd
  rcases open_slice ht hf with ⟨hcs, _⟩ | ⟨a, len, cap, m, n', D, Pl, hcs, hb, hl, hm, hmm, hx, hi⟩
  · simp [Value.cells] at hcs
    obtain ⟨rfl, rfl, rfl⟩ := hcs
    exact ⟨none, 0, 0, [], rfl, rfl, fun q hq => by simp at hq, ⟨by simp, fun j u h => by simp at h⟩, Nat.le_refl _, Nat.zero_le _⟩
  · simp [Value.cells] at hcs
    obtain ⟨rfl, rfl, rfl⟩ := hcs
    have hlm : n ≤ m := by rw [hmm]; split <;> omega
    obtain ⟨Q, hQ⟩ := choose_lt (α := α) (p := fun i q => w.cells? base (a.add (i * k)) k = some (f q) ∧ good q) (n := m) (fun i hi' => by
      obtain ⟨cs', h1, h2⟩ := hi i hi'
      obtain ⟨q, rfl, hg⟩ := hp _ _ _ h2
      rw [hc] at h1
      exact ⟨q, h1, hg⟩)
    have hall : ∀ q ∈ (List.range n).map Q, good q ∧ (f q).length = k := by
      intro q hq
      obtain ⟨i, hi', rfl⟩ := List.mem_map.1 hq
      have hin : i < n := List.mem_range.1 hi'
      obtain ⟨h1, h2⟩ := hQ i (by omega)
      exact ⟨h2, (World.cells?_some h1).2.1⟩
    refine ⟨some a, n, c, (List.range n).map Q, rfl, by simp, hall, ⟨?_, ?_⟩, hl, hm⟩
    · rw [flatten_length _ (fun q hq => (hall q hq).2)]; simp
    · intro j u hu
      obtain ⟨hk0, q, h1, h2⟩ := flatten_get (k := k) _ (fun q hq => (hall q hq).2) j u hu
      have hjn : j / k < n := by
        have := (List.getElem?_eq_some_iff.1 h1).1
        simpa using this
      rw [List.getElem?_map, List.getElem?_range hjn] at h1
      simp at h1
      subst h1
      obtain ⟨g1, _⟩ := hQ (j / k) (by omega)
      obtain ⟨_, hlen, hcell⟩ := World.cells?_some g1
      refine ⟨a, rfl, ?_⟩
      have := hcell (j % k) (Nat.mod_lt _ hk0)
      rw [h2, add_add, show j / k * k + j % k = j by rw [Nat.mul_comm]; exact Nat.div_add_mod j k] at this
      exact this

end Go.Sx

namespace Go.Sx
open Go Go.ChangeShapes Go.WideShapes Go.Deep
set_option linter.unusedVariables false
variable {H : Type} {enc : TypeId × Value → H} {P : Program} {w : World} {base : Nat} {spare : Nat → Bool} {held : Bool}
theorem read_u64 {e : TypeId} (he : P.underlying e = some (.int .u64)) : ∀ fuel cs x, DataW.trod enc P w base spare held fuel e cs = some x → ∃ q : Nat, cs = [.int .u64 ((q : Nat) : Int)] ∧ q < 18446744073709551616 := by
  intro fuel cs x h
  obtain ⟨n, rfl, _, hw⟩ := DataW.trod_int he h
  have := bounds_u64 hw
  exact ⟨n.toNat, by rw [show ((n.toNat : Nat) : Int) = n by omega], by omega⟩
end Go.Sx

namespace Go.Sx
open Go Go.ChangeShapes Go.WideShapes Go.Deep
set_option linter.unusedVariables false
set_option linter.unusedSimpArgs false
variable {H : Type} {enc : TypeId × Value → H} {P : Program} {w : World} {base : Nat} {spare : Nat → Bool} {held : Bool}
def I64b (n : Int) : Prop := -9223372036854775808 ≤ n ∧ n ≤ 9223372036854775807
theorem cut1 {α : Type} (cs : List α) (o s : Nat) : cs.drop o = (cs.drop o).take s ++ cs.drop (o + s) := by
  rw [← List.drop_drop]
  exact (List.take_append_drop s (cs.drop o)).symm
theorem cut0 {α : Type} (cs : List α) : cs = cs.drop 0 := rfl
theorem cutN {α : Type} {cs : List α} {n : Nat} (h : cs.length = n) : cs.drop n = [] := List.drop_eq_nil_of_le (by omega)
theorem trod_fields {t : TypeId} {fs : Array Field} {fuel : Nat} {cs : List Value} {x : DataW H × List MemPlace} (ht : P.underlying t = some (.struct fs)) (h : DataW.trod enc P w base spare held fuel t cs = some x) :
    cs.length = P.cellsOf t ∧ ∃ m, ∀ (i : Nat) (f : Field), fs[i]? = some f → ∃ y, DataW.trod enc P w base spare held m f.type ((cs.drop f.offset).take (P.cellsOf f.type)) = some y := by
  obtain ⟨xs, m, _, _, hl, hxl, hi⟩ := DataW.trod_struct ht h
  refine ⟨hl, m, fun i f hf => ?_⟩
  have hlt : i < xs.length := by rw [hxl]; exact (Array.getElem?_eq_some_iff.1 hf).1
  exact ⟨_, (hi i f hf).trans (List.getElem?_eq_getElem hlt)⟩
theorem read_i64 {e : TypeId} (he : P.underlying e = some (.int .i64)) : ∀ fuel cs x, DataW.trod enc P w base spare held fuel e cs = some x → ∃ q : Int, cs = [.int .i64 q] ∧ I64b q := by
  intro fuel cs x h
  obtain ⟨n, rfl, _, hw⟩ := DataW.trod_int he h
  exact ⟨n, rfl, bounds_i64 hw⟩
/-- A slice of any rows, as a vector. -/
theorem open_vec {α : Type} [Inhabited α] {f : α → List Value} {good : α → Prop} {t e : TypeId} {k : Nat} {r : Reach} {b0 : Nat} {v : Value} {d : DataW H} {ps : List MemPlace} (ht : P.underlying t = some (.slice e)) (hc : P.cellsOf e = k) (hp : ∀ fuel cs x, DataW.trod enc P w base spare held fuel e cs = some x → ∃ q, cs = f q ∧ good q)
    (hval : Value.okWide P w r b0 t v) (hd : DataW.Trod enc P w base spare held t v d ps) : ∃ A n c, ∃ xs : List α, v = .slice A n c ∧ (Vec w f k A n xs ∧ ∀ h ∈ xs, good h) ∧ n ≤ c ∧ c ≤ 9223372036854775807 := by
  obtain ⟨A, n, c, qs, rfl, h1, h2, h3, h4, h5⟩ := open_rows (α := α) (f := f) (good := good) ht hc hp hval hd
  exact ⟨A, n, c, qs, rfl, ⟨⟨h1, h3⟩, fun q hq => (h2 q hq).1⟩, h4, by unfold maxLen at h5; omega⟩
end Go.Sx

namespace Go.Proofs.Ytfgakofjkldcjaa
open Go Go.Sx Go.Osp Go.Gsp Go.ChangeShapes Go.WideShapes Go.Deep
set_option linter.unusedVariables false
set_option linter.unusedSimpArgs false
set_option maxRecDepth 20000
variable {H : Type} {enc : TypeId × Value → H} {w : World} {base : Nat} {spare : Nat → Bool} {held : Bool}
def pactV (a : PAct) : List Value := [.int .i64 a.do_, .int .i64 a.nm, .int .u64 ((a.sec : Nat) : Int), .int .i64 a.tot, .int .i64 a.by_, .int .i64 a.lst, .int .i64 a.part.ch, .int .i64 a.part.id, .int .i64 a.part.am, .int .i64 a.part.ex, .int .u64 ((a.part.pt : Nat) : Int), .int .u64 ((a.part.bl : Nat) : Int), .int .i64 a.ht]
def goodPart (q : Part) : Prop := I64b q.ch ∧ I64b q.id ∧ I64b q.am ∧ I64b q.ex ∧ q.pt < 18446744073709551616 ∧ q.bl < 18446744073709551616
instance : Inhabited Part := ⟨noPart⟩
theorem read_Part : ∀ fuel cs x, DataW.trod enc Try.prog w base spare held fuel 33 cs = some x → ∃ q : Part, cs = partV q ∧ goodPart q := by
  intro fuel cs x h
  obtain ⟨hl, m, hi⟩ := trod_fields Try.underlying33 h
  rw [show Try.prog.cellsOf 33 = 6 by kernel_rfl] at hl
  obtain ⟨y0, k0⟩ := hi 0 _ rfl
  have k0 : DataW.trod enc Try.prog w base spare held m 3 ((cs.drop 0).take (Try.prog.cellsOf 3)) = some y0 := k0
  rw [show Try.prog.cellsOf 3 = 1 by kernel_rfl] at k0
  obtain ⟨q0, e0, g0⟩ := read_i64 Try.underlying3 _ _ _ k0
  obtain ⟨y1, k1⟩ := hi 1 _ rfl
  have k1 : DataW.trod enc Try.prog w base spare held m 3 ((cs.drop 1).take (Try.prog.cellsOf 3)) = some y1 := k1
  rw [show Try.prog.cellsOf 3 = 1 by kernel_rfl] at k1
  obtain ⟨q1, e1, g1⟩ := read_i64 Try.underlying3 _ _ _ k1
  obtain ⟨y2, k2⟩ := hi 2 _ rfl
  have k2 : DataW.trod enc Try.prog w base spare held m 3 ((cs.drop 2).take (Try.prog.cellsOf 3)) = some y2 := k2
  rw [show Try.prog.cellsOf 3 = 1 by kernel_rfl] at k2
  obtain ⟨q2, e2, g2⟩ := read_i64 Try.underlying3 _ _ _ k2
  obtain ⟨y3, k3⟩ := hi 3 _ rfl
  have k3 : DataW.trod enc Try.prog w base spare held m 3 ((cs.drop 3).take (Try.prog.cellsOf 3)) = some y3 := k3
  rw [show Try.prog.cellsOf 3 = 1 by kernel_rfl] at k3
  obtain ⟨q3, e3, g3⟩ := read_i64 Try.underlying3 _ _ _ k3
  obtain ⟨y4, k4⟩ := hi 4 _ rfl
  have k4 : DataW.trod enc Try.prog w base spare held m 31 ((cs.drop 4).take (Try.prog.cellsOf 31)) = some y4 := k4
  rw [show Try.prog.cellsOf 31 = 1 by kernel_rfl] at k4
  obtain ⟨q4, e4, g4⟩ := read_u64 Try.underlying31 _ _ _ k4
  obtain ⟨y5, k5⟩ := hi 5 _ rfl
  have k5 : DataW.trod enc Try.prog w base spare held m 30 ((cs.drop 5).take (Try.prog.cellsOf 30)) = some y5 := k5
  rw [show Try.prog.cellsOf 30 = 1 by kernel_rfl] at k5
  obtain ⟨q5, e5, g5⟩ := read_u64 Try.underlying30 _ _ _ k5
  have e := (cut0 cs).trans ((cut1 cs 0 1).trans (congrArg (List.take 1 (cs.drop 0) ++ ·) ((cut1 cs 1 1).trans (congrArg (List.take 1 (cs.drop 1) ++ ·) ((cut1 cs 2 1).trans (congrArg (List.take 1 (cs.drop 2) ++ ·) ((cut1 cs 3 1).trans (congrArg (List.take 1 (cs.drop 3) ++ ·) ((cut1 cs 4 1).trans (congrArg (List.take 1 (cs.drop 4) ++ ·) ((cut1 cs 5 1).trans (congrArg (List.take 1 (cs.drop 5) ++ ·) (cutN hl)))))))))))))
  simp only [e0, e1, e2, e3, e4, e5] at e
  exact ⟨⟨q0, q1, q2, q3, q4, q5⟩, e, g0, g1, g2, g3, g4, g5⟩
def goodPAct (q : PAct) : Prop := I64b q.do_ ∧ I64b q.nm ∧ q.sec < 18446744073709551616 ∧ I64b q.tot ∧ I64b q.by_ ∧ I64b q.lst ∧ goodPart q.part ∧ I64b q.ht
instance : Inhabited PAct := ⟨noPAct⟩
theorem read_PAct : ∀ fuel cs x, DataW.trod enc Try.prog w base spare held fuel 35 cs = some x → ∃ q : PAct, cs = pactV q ∧ goodPAct q := by
  intro fuel cs x h
  obtain ⟨hl, m, hi⟩ := trod_fields Try.underlying35 h
  rw [show Try.prog.cellsOf 35 = 13 by kernel_rfl] at hl
  obtain ⟨y0, k0⟩ := hi 0 _ rfl
  have k0 : DataW.trod enc Try.prog w base spare held m 3 ((cs.drop 0).take (Try.prog.cellsOf 3)) = some y0 := k0
  rw [show Try.prog.cellsOf 3 = 1 by kernel_rfl] at k0
  obtain ⟨q0, e0, g0⟩ := read_i64 Try.underlying3 _ _ _ k0
  obtain ⟨y1, k1⟩ := hi 1 _ rfl
  have k1 : DataW.trod enc Try.prog w base spare held m 3 ((cs.drop 1).take (Try.prog.cellsOf 3)) = some y1 := k1
  rw [show Try.prog.cellsOf 3 = 1 by kernel_rfl] at k1
  obtain ⟨q1, e1, g1⟩ := read_i64 Try.underlying3 _ _ _ k1
  obtain ⟨y2, k2⟩ := hi 2 _ rfl
  have k2 : DataW.trod enc Try.prog w base spare held m 30 ((cs.drop 2).take (Try.prog.cellsOf 30)) = some y2 := k2
  rw [show Try.prog.cellsOf 30 = 1 by kernel_rfl] at k2
  obtain ⟨q2, e2, g2⟩ := read_u64 Try.underlying30 _ _ _ k2
  obtain ⟨y3, k3⟩ := hi 3 _ rfl
  have k3 : DataW.trod enc Try.prog w base spare held m 3 ((cs.drop 3).take (Try.prog.cellsOf 3)) = some y3 := k3
  rw [show Try.prog.cellsOf 3 = 1 by kernel_rfl] at k3
  obtain ⟨q3, e3, g3⟩ := read_i64 Try.underlying3 _ _ _ k3
  obtain ⟨y4, k4⟩ := hi 4 _ rfl
  have k4 : DataW.trod enc Try.prog w base spare held m 3 ((cs.drop 4).take (Try.prog.cellsOf 3)) = some y4 := k4
  rw [show Try.prog.cellsOf 3 = 1 by kernel_rfl] at k4
  obtain ⟨q4, e4, g4⟩ := read_i64 Try.underlying3 _ _ _ k4
  obtain ⟨y5, k5⟩ := hi 5 _ rfl
  have k5 : DataW.trod enc Try.prog w base spare held m 3 ((cs.drop 5).take (Try.prog.cellsOf 3)) = some y5 := k5
  rw [show Try.prog.cellsOf 3 = 1 by kernel_rfl] at k5
  obtain ⟨q5, e5, g5⟩ := read_i64 Try.underlying3 _ _ _ k5
  obtain ⟨y6, k6⟩ := hi 6 _ rfl
  have k6 : DataW.trod enc Try.prog w base spare held m 33 ((cs.drop 6).take (Try.prog.cellsOf 33)) = some y6 := k6
  rw [show Try.prog.cellsOf 33 = 6 by kernel_rfl] at k6
  obtain ⟨q6, e6, g6⟩ := read_Part _ _ _ k6
  obtain ⟨y7, k7⟩ := hi 7 _ rfl
  have k7 : DataW.trod enc Try.prog w base spare held m 3 ((cs.drop 12).take (Try.prog.cellsOf 3)) = some y7 := k7
  rw [show Try.prog.cellsOf 3 = 1 by kernel_rfl] at k7
  obtain ⟨q7, e7, g7⟩ := read_i64 Try.underlying3 _ _ _ k7
  have e := (cut0 cs).trans ((cut1 cs 0 1).trans (congrArg (List.take 1 (cs.drop 0) ++ ·) ((cut1 cs 1 1).trans (congrArg (List.take 1 (cs.drop 1) ++ ·) ((cut1 cs 2 1).trans (congrArg (List.take 1 (cs.drop 2) ++ ·) ((cut1 cs 3 1).trans (congrArg (List.take 1 (cs.drop 3) ++ ·) ((cut1 cs 4 1).trans (congrArg (List.take 1 (cs.drop 4) ++ ·) ((cut1 cs 5 1).trans (congrArg (List.take 1 (cs.drop 5) ++ ·) ((cut1 cs 6 6).trans (congrArg (List.take 6 (cs.drop 6) ++ ·) ((cut1 cs 12 1).trans (congrArg (List.take 1 (cs.drop 12) ++ ·) (cutN hl)))))))))))))))))
  simp only [e0, e1, e2, e3, e4, e5, e6, e7] at e
  exact ⟨⟨q0, q1, q2, q3, q4, q5, q6, q7⟩, e, g0, g1, g2, g3, g4, g5, g6, g7⟩
theorem open_pacts {r : Reach} {b0 : Nat} {v : Value} {d : DataW H} {ps : List MemPlace} (hval : Value.okWide Try.prog w r b0 22 v) (hd : DataW.Trod enc Try.prog w base spare held 22 v d ps) : ∃ A n c, ∃ xs : List PAct, v = .slice A n c ∧ (Vec w pactV 13 A n xs ∧ ∀ h ∈ xs, goodPAct h) ∧ n ≤ c ∧ c ≤ 9223372036854775807 := open_vec Try.underlying22 (show Try.prog.cellsOf 35 = 13 by kernel_rfl) read_PAct hval hd
end Go.Proofs.Ytfgakofjkldcjaa

namespace Go.Proofs.Ytfgakofjkldcjaa
open Go Go.Sx Go.Hsp Go.Num Go.Osp Go.Gsp
set_option maxRecDepth 20000
set_option linter.unusedSimpArgs false
set_option linter.unusedVariables false
theorem pactV_row : RowF pactV 13 := ⟨fun _ => rfl, fun x v hv => by simp [pactV] at hv; rcases hv with rfl | rfl | rfl | rfl | rfl | rfl | rfl | rfl | rfl | rfl | rfl | rfl | rfl <;> rfl, by decide⟩
theorem few34_ok {Al : Option Addr} {nl cl : Nat} {l : List PAct} (w : World) (hl : Vec w pactV 13 Al nl l) : Calls Try.prog 14 #[.slice Al nl cl] w fun r w' => r = .returned (.bool (decide (((nl : Nat) : Int) ≤ 40))) ∧ Le w w' := by
  refine enter Try.func14 rfl rfl ?_
  have L0 := Le.refl w
  refine WC.seq ?_
  refine WC.region ?_
  refine W.any (.assign rfl) rfl rfl rfl ?_
  refine W.nil ?_
  refine E.thenN ?_
  refine WC.seq ?_
  refine WC.region ?_
  refine W.any (.move rfl) rfl rfl rfl ?_
  refine W.rd (.len Try.underlying22 rfl) rfl rfl rfl ?_
  refine W.any (.leq rfl rfl) rfl rfl rfl ?_
  refine W.any (.assign rfl) rfl rfl rfl ?_
  refine W.nil ?_
  refine E.thenN ?_
  refine WC.ret ?_
  refine E.retG1 rfl rfl ?_
  exact ⟨rfl, L0⟩

end Go.Proofs.Ytfgakofjkldcjaa

namespace Go.Proofs.Ytfgakofjkldcjaa
open Go Go.Sx Go.Hsp Go.Num Go.Osp Go.Gsp
set_option maxRecDepth 20000
set_option linter.unusedSimpArgs false
set_option linter.unusedVariables false
theorem eqv_rpaid {d : Nat} (a b : Paid) : Eqv Try.prog (d + 2) 139 (.agg (paidV a).toArray) (.agg (paidV b).toArray) (decide (a = b)) := by
  have h := Eqv.ints (P := Try.prog) (d := d) (t := 139) (paidV a) (paidV b) [(.i64, 0), (.i64, 1), (.u64, 2)] (by kernel_rfl) (by kernel_rfl) (by
    rw [show (Try.prog.fieldsOf 139) = _ from (by unfold Program.fieldsOf; rw [Try.underlying139])]
    exact ⟨by decide, rfl, Try.underlying3, ⟨_, _, rfl, rfl⟩, by decide, rfl, Try.underlying3, ⟨_, _, rfl, rfl⟩, by decide, rfl, Try.underlying30, ⟨_, _, rfl, rfl⟩, trivial⟩)
  have e : eqAll (paidV a) (paidV b) [(.i64, 0), (.i64, 1), (.u64, 2)] = decide (a = b) := by
    obtain ⟨a0, a1, a2⟩ := a
    obtain ⟨b0, b1, b2⟩ := b
    simp only [eqAll, paidV, List.getElem?_cons_zero, List.getElem?_cons_succ]
    rw [Bool.eq_iff_iff]
    simp only [Bool.and_eq_true, decide_eq_true_eq, Bool.and_true, Paid.mk.injEq]
    constructor
    · rintro ⟨h0, h1, h2⟩; exact ⟨h0, h1, by omega⟩
    · rintro ⟨h0, h1, h2⟩; exact ⟨h0, h1, by omega⟩
  rw [e] at h
  exact h
theorem eqv_rpart {d : Nat} (a b : Part) : Eqv Try.prog (d + 2) 44 (.agg (partV a).toArray) (.agg (partV b).toArray) (decide (a = b)) := by
  have h := Eqv.ints (P := Try.prog) (d := d) (t := 44) (partV a) (partV b) [(.i64, 0), (.i64, 1), (.i64, 2), (.i64, 3), (.u64, 4), (.u64, 5)] (by kernel_rfl) (by kernel_rfl) (by
    rw [show (Try.prog.fieldsOf 44) = _ from (by unfold Program.fieldsOf; rw [Try.underlying44])]
    exact ⟨by decide, rfl, Try.underlying3, ⟨_, _, rfl, rfl⟩, by decide, rfl, Try.underlying3, ⟨_, _, rfl, rfl⟩, by decide, rfl, Try.underlying3, ⟨_, _, rfl, rfl⟩, by decide, rfl, Try.underlying3, ⟨_, _, rfl, rfl⟩, by decide, rfl, Try.underlying31, ⟨_, _, rfl, rfl⟩, by decide, rfl, Try.underlying30, ⟨_, _, rfl, rfl⟩, trivial⟩)
  have e : eqAll (partV a) (partV b) [(.i64, 0), (.i64, 1), (.i64, 2), (.i64, 3), (.u64, 4), (.u64, 5)] = decide (a = b) := by
    obtain ⟨a0, a1, a2, a3, a4, a5⟩ := a
    obtain ⟨b0, b1, b2, b3, b4, b5⟩ := b
    simp only [eqAll, partV, List.getElem?_cons_zero, List.getElem?_cons_succ]
    rw [Bool.eq_iff_iff]
    simp only [Bool.and_eq_true, decide_eq_true_eq, Bool.and_true, Part.mk.injEq]
    constructor
    · rintro ⟨h0, h1, h2, h3, h4, h5⟩; exact ⟨h0, h1, h2, h3, by omega, by omega⟩
    · rintro ⟨h0, h1, h2, h3, h4, h5⟩; exact ⟨h0, h1, h2, h3, by omega, by omega⟩
  rw [e] at h
  exact h
theorem eq_at {α : Type} {a b : List α} {z : α} (hl : a.length = b.length) (h : ∀ j, j < a.length → a.getD j z = b.getD j z) : a = b := ext_getD hl h
theorem ne_at {α : Type} {a b : List α} {z : α} {k : Nat} (h : ¬ a.getD k z = b.getD k z) : ¬ a = b := fun e => h (by rw [e])
theorem held_len {s : PSt} (h : GoodP s) (nm : Int) : (heldP s nm).length ≤ 8 := by
  unfold heldP
  cases hg : getP nm s with
  | none => simp
  | some p =>
    have := (h.pay _ (getP_mem hg)).few
    simpa using this
theorem late_out {s : PSt} (h : GoodP s) (ht : Int) : (lateS s ht).2.length ≤ 8 * s.length := by
  have hp : ∀ y ∈ s, y.2.held.length ≤ 8 := fun y hy => (h.pay y hy).few
  clear h
  unfold lateS
  induction s with
  | nil => simp
  | cons y s ih =>
    have h1 := ih (fun z hz => hp z (List.mem_cons_of_mem _ hz))
    have h2 := hp y List.mem_cons_self
    simp only [List.flatMap_cons, List.length_append, List.length_cons] at h1 ⊢
    split
    · omega
    · simp only [List.length_nil]; omega
theorem pact_at {l : List PAct} {i : Nat} (h : ∀ a ∈ l, goodPAct a) (hi : i < l.length) : (l.getD i noPAct).nm ≤ 9223372036854775807 := (h _ (List.mem_of_getElem? (getS l noPAct hi))).2.1.2
theorem paidc_ok {Aa Ab : Option Addr} {na ca nb cb : Nat} {a b : List Paid} (w : World) (ha : Vec w paidV 3 Aa na a) (hb : Vec w paidV 3 Ab nb b) (hn : na ≤ 1000000) : Calls Try.prog 21 #[.slice Aa na ca, .slice Ab nb cb] w fun r w' => r = .returned (.bool (decide (a = b))) ∧ Le w w' := by
  have han := ha.1
  have hbn := hb.1
  refine enter Try.func21 rfl rfl ?_
  have L0 := Le.refl w
  refine WC.seq ?_
  refine WC.region ?_
  refine W.any (.assign rfl) rfl rfl rfl ?_
  refine W.nil ?_
  refine E.thenN ?_
  refine WC.seq ?_
  refine WC.seq ?_
  refine WC.region ?_
  refine W.any (.move rfl) rfl rfl rfl ?_
  refine W.rd (.len Try.underlying38 rfl) rfl rfl rfl ?_
  refine W.any (.move rfl) rfl rfl rfl ?_
  refine W.rd (.len Try.underlying41 rfl) rfl rfl rfl ?_
  refine W.any (.neq rfl rfl) rfl rfl rfl ?_
  refine W.nil ?_
  refine E.thenN ?_
  by_cases c0 : ((na : Nat) : Int) ≠ ((nb : Nat) : Int)
  · refine WC.condY rfl (decide_eq_true c0) ?_
    refine WC.seq ?_
    refine WC.region ?_
    refine W.any (.assign rfl) rfl rfl rfl ?_
    refine W.nil ?_
    refine E.thenN ?_
    refine WC.ret ?_
    refine E.thenR ?_
    refine E.retG1 rfl rfl ?_
    exact ⟨by rw [decide_eq_false (fun e => c0 (by rw [← han, ← hbn, e]))], L0⟩
  · refine WC.condN rfl (decide_eq_false c0) ?_
    refine WC.skip ?_
    refine E.thenN ?_
    refine WC.seq ?_
    refine WC.seq ?_
    refine WC.region ?_
    refine W.any (.assign rfl) rfl rfl rfl ?_
    refine W.nil ?_
    refine E.thenN ?_
    refine WC.block ?_
    refine WC.loop (ι := Nat) (fun k => [(0, .slice Aa na ca), (1, .slice Ab nb cb), (5, .int .i64 (((k : Nat) : Int)))]) (fun k wl0 => (k ≤ na) ∧ (∀ j, j < k → a.getD j noPaid = b.getD j noPaid) ∧ Le w wl0 ∧ w.heap.size ≤ wl0.heap.size) (fun k => na - k) 0 ?_ ?_ ?_
    · exact .cons rfl (.cons rfl (.cons rfl (.nil _)))
    · exact ⟨Nat.zero_le _, fun j hj => by omega, L0, Nat.le_refl _⟩
    · rintro k wl0 ⟨hk, hs, Ll0, sz0⟩
      refine WC.seq ?_
      refine WC.seq ?_
      refine WC.region ?_
      refine W.any (.move rfl) rfl rfl rfl ?_
      refine W.any (.move rfl) rfl rfl rfl ?_
      refine W.rd (.len Try.underlying38 rfl) rfl rfl rfl ?_
      refine W.any (.lss rfl rfl) rfl rfl rfl ?_
      refine W.nil ?_
      refine E.thenN ?_
      by_cases c1 : ((k : Nat) : Int) < ((na : Nat) : Int)
      · refine WC.condY rfl (decide_eq_true c1) ?_
        refine WC.skip ?_
        refine E.thenN ?_
        refine WC.seq ?_
        refine WC.block ?_
        refine WC.seq ?_
        refine WC.draw [0, 1, 2, 3, 4, 5, 6, 7, 8] mixed (by kernel_rfl) ?_
        intro w6 d6
        have L1 := Ll0.trans d6
        refine G.any rfl rfl (.move rfl) rfl rfl rfl ?_
        refine G.any rfl rfl (.move rfl) rfl rfl rfl ?_
        refine G.any rfl rfl (.idxS (k) Try.underlying38 sz57 rfl rfl (ha.isSome paidV_row (by omega)) (rfl) (by omega)) rfl rfl rfl ?_
        refine G.rd rfl rfl (.vload ag57 rfl (ha.le L1) paidV_row (getS a noPaid (by first | omega | (simp only [List.length_cons, List.length_nil]; omega)))) rfl rfl rfl ?_
        refine G.any rfl rfl (.move rfl) rfl rfl rfl ?_
        refine G.any rfl rfl (.move rfl) rfl rfl rfl ?_
        refine G.any rfl rfl (.idxS (k) Try.underlying41 sz139 rfl rfl (hb.isSome paidV_row (by omega)) (rfl) (by omega)) rfl rfl rfl ?_
        refine G.rd rfl rfl (.vload ag139 rfl (hb.le L1) paidV_row (getS b noPaid (by first | omega | (simp only [List.length_cons, List.length_nil]; omega)))) rfl rfl rfl ?_
        refine G.any rfl rfl (.neA eg139 rfl rfl (eqv_rpaid (d := 9998) _ _)) rfl rfl rfl ?_
        refine G.nil ?_
        refine E.thenN ?_
        by_cases c2 : (a.getD k noPaid) = (b.getD k noPaid)
        · refine WC.condN rfl (congrArg not (decide_eq_true c2)) ?_
          refine WC.skip ?_
          refine E.blkN ?_
          refine E.thenN ?_
          refine WC.region ?_
          refine W.any (.move rfl) rfl rfl rfl ?_
          refine W.any (.add rfl rfl (by omega)) rfl rfl rfl ?_
          refine W.any (.assign rfl) rfl rfl rfl ?_
          refine W.nil ?_
          refine E.again (k + 1) (.cons rfl (.cons rfl (.cons rfl (.nil _)))) ?_ ?_
          · exact ⟨by omega, fun j hj => (Nat.lt_succ_iff_lt_or_eq.1 hj).elim (hs j) (fun hh => by subst hh; exact c2), L1, by have := sz0; have := d6.size; omega⟩
          · first | omega | (simp only []; omega)
        · refine WC.condY rfl (congrArg not (decide_eq_false c2)) ?_
          refine WC.seq ?_
          refine WC.region ?_
          refine W.any (.assign rfl) rfl rfl rfl ?_
          refine W.nil ?_
          refine E.thenN ?_
          refine WC.ret ?_
          refine E.blkR ?_
          refine E.thenR ?_
          refine E.thenR ?_
          refine E.blkR ?_
          refine E.thenR ?_
          refine E.retG1 rfl rfl ?_
          exact ⟨by rw [decide_eq_false (ne_at c2)], L1⟩
      · refine WC.condN rfl (decide_eq_false c1) ?_
        refine WC.exit ?_
        refine E.thenX ?_
        refine E.thenX ?_
        refine E.blkH ?_
        refine E.thenN ?_
        refine WC.seq ?_
        refine WC.region ?_
        refine W.any (.assign rfl) rfl rfl rfl ?_
        refine W.nil ?_
        refine E.thenN ?_
        refine WC.ret ?_
        refine E.retG1 rfl rfl ?_
        exact ⟨by rw [decide_eq_true (eq_at (z := noPaid) (by omega) (fun j hj => hs j (by omega)))], Ll0⟩

theorem alikec_ok {Aa Ab : Option Addr} {na ca nb cb : Nat} {a b : List Part} (w : World) (ha : Vec w partV 6 Aa na a) (hb : Vec w partV 6 Ab nb b) (hn : na ≤ 1000000) : Calls Try.prog 23 #[.slice Aa na ca, .slice Ab nb cb] w fun r w' => r = .returned (.bool (decide (a = b))) ∧ Le w w' := by
  have han := ha.1
  have hbn := hb.1
  refine enter Try.func23 rfl rfl ?_
  have L0 := Le.refl w
  refine WC.seq ?_
  refine WC.region ?_
  refine W.any (.assign rfl) rfl rfl rfl ?_
  refine W.nil ?_
  refine E.thenN ?_
  refine WC.seq ?_
  refine WC.seq ?_
  refine WC.region ?_
  refine W.any (.move rfl) rfl rfl rfl ?_
  refine W.rd (.len Try.underlying46 rfl) rfl rfl rfl ?_
  refine W.any (.move rfl) rfl rfl rfl ?_
  refine W.rd (.len Try.underlying49 rfl) rfl rfl rfl ?_
  refine W.any (.neq rfl rfl) rfl rfl rfl ?_
  refine W.nil ?_
  refine E.thenN ?_
  by_cases c0 : ((na : Nat) : Int) ≠ ((nb : Nat) : Int)
  · refine WC.condY rfl (decide_eq_true c0) ?_
    refine WC.seq ?_
    refine WC.region ?_
    refine W.any (.assign rfl) rfl rfl rfl ?_
    refine W.nil ?_
    refine E.thenN ?_
    refine WC.ret ?_
    refine E.thenR ?_
    refine E.retG1 rfl rfl ?_
    exact ⟨by rw [decide_eq_false (fun e => c0 (by rw [← han, ← hbn, e]))], L0⟩
  · refine WC.condN rfl (decide_eq_false c0) ?_
    refine WC.skip ?_
    refine E.thenN ?_
    refine WC.seq ?_
    refine WC.seq ?_
    refine WC.region ?_
    refine W.any (.assign rfl) rfl rfl rfl ?_
    refine W.nil ?_
    refine E.thenN ?_
    refine WC.block ?_
    refine WC.loop (ι := Nat) (fun k => [(0, .slice Aa na ca), (1, .slice Ab nb cb), (5, .int .i64 (((k : Nat) : Int)))]) (fun k wl0 => (k ≤ na) ∧ (∀ j, j < k → a.getD j noPart = b.getD j noPart) ∧ Le w wl0 ∧ w.heap.size ≤ wl0.heap.size) (fun k => na - k) 0 ?_ ?_ ?_
    · exact .cons rfl (.cons rfl (.cons rfl (.nil _)))
    · exact ⟨Nat.zero_le _, fun j hj => by omega, L0, Nat.le_refl _⟩
    · rintro k wl0 ⟨hk, hs, Ll0, sz0⟩
      refine WC.seq ?_
      refine WC.seq ?_
      refine WC.region ?_
      refine W.any (.move rfl) rfl rfl rfl ?_
      refine W.any (.move rfl) rfl rfl rfl ?_
      refine W.rd (.len Try.underlying46 rfl) rfl rfl rfl ?_
      refine W.any (.lss rfl rfl) rfl rfl rfl ?_
      refine W.nil ?_
      refine E.thenN ?_
      by_cases c1 : ((k : Nat) : Int) < ((na : Nat) : Int)
      · refine WC.condY rfl (decide_eq_true c1) ?_
        refine WC.skip ?_
        refine E.thenN ?_
        refine WC.seq ?_
        refine WC.block ?_
        refine WC.seq ?_
        refine WC.draw [0, 1, 2, 3, 4, 5, 6, 7, 8] mixed (by kernel_rfl) ?_
        intro w6 d6
        have L1 := Ll0.trans d6
        refine G.any rfl rfl (.move rfl) rfl rfl rfl ?_
        refine G.any rfl rfl (.move rfl) rfl rfl rfl ?_
        refine G.any rfl rfl (.idxS (k) Try.underlying46 sz33 rfl rfl (ha.isSome partV_row (by omega)) (rfl) (by omega)) rfl rfl rfl ?_
        refine G.rd rfl rfl (.vload ag33 rfl (ha.le L1) partV_row (getS a noPart (by first | omega | (simp only [List.length_cons, List.length_nil]; omega)))) rfl rfl rfl ?_
        refine G.any rfl rfl (.move rfl) rfl rfl rfl ?_
        refine G.any rfl rfl (.move rfl) rfl rfl rfl ?_
        refine G.any rfl rfl (.idxS (k) Try.underlying49 sz44 rfl rfl (hb.isSome partV_row (by omega)) (rfl) (by omega)) rfl rfl rfl ?_
        refine G.rd rfl rfl (.vload ag44 rfl (hb.le L1) partV_row (getS b noPart (by first | omega | (simp only [List.length_cons, List.length_nil]; omega)))) rfl rfl rfl ?_
        refine G.any rfl rfl (.neA eg44 rfl rfl (eqv_rpart (d := 9998) _ _)) rfl rfl rfl ?_
        refine G.nil ?_
        refine E.thenN ?_
        by_cases c2 : (a.getD k noPart) = (b.getD k noPart)
        · refine WC.condN rfl (congrArg not (decide_eq_true c2)) ?_
          refine WC.skip ?_
          refine E.blkN ?_
          refine E.thenN ?_
          refine WC.region ?_
          refine W.any (.move rfl) rfl rfl rfl ?_
          refine W.any (.add rfl rfl (by omega)) rfl rfl rfl ?_
          refine W.any (.assign rfl) rfl rfl rfl ?_
          refine W.nil ?_
          refine E.again (k + 1) (.cons rfl (.cons rfl (.cons rfl (.nil _)))) ?_ ?_
          · exact ⟨by omega, fun j hj => (Nat.lt_succ_iff_lt_or_eq.1 hj).elim (hs j) (fun hh => by subst hh; exact c2), L1, by have := sz0; have := d6.size; omega⟩
          · first | omega | (simp only []; omega)
        · refine WC.condY rfl (congrArg not (decide_eq_false c2)) ?_
          refine WC.seq ?_
          refine WC.region ?_
          refine W.any (.assign rfl) rfl rfl rfl ?_
          refine W.nil ?_
          refine E.thenN ?_
          refine WC.ret ?_
          refine E.blkR ?_
          refine E.thenR ?_
          refine E.thenR ?_
          refine E.blkR ?_
          refine E.thenR ?_
          refine E.retG1 rfl rfl ?_
          exact ⟨by rw [decide_eq_false (ne_at c2)], L1⟩
      · refine WC.condN rfl (decide_eq_false c1) ?_
        refine WC.exit ?_
        refine E.thenX ?_
        refine E.thenX ?_
        refine E.blkH ?_
        refine E.thenN ?_
        refine WC.seq ?_
        refine WC.region ?_
        refine W.any (.assign rfl) rfl rfl rfl ?_
        refine W.nil ?_
        refine E.thenN ?_
        refine WC.ret ?_
        refine E.retG1 rfl rfl ?_
        exact ⟨by rw [decide_eq_true (eq_at (z := noPart) (by omega) (fun j hj => hs j (by omega)))], Ll0⟩

theorem partsTells_ok {Al : Option Addr} {nl cl : Nat} {l : List PAct} (w : World) (hl : Vec w pactV 13 Al nl l) (hg : ∀ a ∈ l, goodPAct a) : Calls Try.prog 3 #[.slice Al nl cl] w fun r w' => r = .returned (.bool true) ∧ Le w w' := by
  have hln := hl.1
  refine enter Try.func3 rfl rfl ?_
  have L0 := Le.refl w
  refine WC.seq ?_
  refine WC.region ?_
  refine W.any (.assign rfl) rfl rfl rfl ?_
  refine W.nil ?_
  refine E.thenN ?_
  refine WC.seq ?_
  refine WC.region ?_
  refine W.ef rfl rfl rfl ?_
  refine Ef.call go13 rfl rfl (small34_ok w) ?_
  rintro _ w1_0 ⟨rfl, h1_0⟩
  refine ⟨_, rfl, ?_⟩
  have L1 := L0.trans h1_0
  refine W.any (.assign rfl) rfl rfl rfl ?_
  refine W.nil ?_
  refine E.thenN ?_
  refine WC.seq ?_
  refine WC.seq ?_
  refine WC.region ?_
  refine W.any (.move rfl) rfl rfl rfl ?_
  refine W.ef rfl rfl rfl ?_
  refine Ef.call go14 rfl rfl (few34_ok w1_0 (hl.le L1)) ?_
  rintro _ w2_1 ⟨rfl, h2_1⟩
  refine ⟨_, rfl, ?_⟩
  have L2 := L1.trans h2_1
  refine W.any (.not rfl) rfl rfl rfl ?_
  refine W.nil ?_
  refine E.thenN ?_
  by_cases c0 : ((nl : Nat) : Int) ≤ 40
  · refine WC.condN rfl (congrArg not (decide_eq_true c0)) ?_
    refine WC.skip ?_
    refine E.thenN ?_
    refine WC.seq ?_
    refine WC.region ?_
    refine W.ef rfl rfl rfl ?_
    refine Ef.call go15 rfl rfl (new_pool w2_1) ?_
    rintro _ w4_0 ⟨gp4_0, F4_0, rfl, p4_0, h4_0⟩
    refine ⟨_, rfl, ?_⟩
    have L3 := L2.trans h4_0
    refine W.any (.assign rfl) rfl rfl rfl ?_
    refine W.nil ?_
    refine E.thenN ?_
    refine WC.seq ?_
    refine WC.region ?_
    refine W.ef rfl rfl rfl ?_
    refine Ef.call go16 rfl rfl (rnew_pool w4_0) ?_
    rintro _ w5_0 ⟨gp5_0, F5_0, rfl, p5_0, h5_0⟩
    refine ⟨_, rfl, ?_⟩
    have L4 := L3.trans h5_0
    refine W.any (.assign rfl) rfl rfl rfl ?_
    refine W.nil ?_
    refine E.thenN ?_
    refine WC.seq ?_
    refine WC.seq ?_
    refine WC.region ?_
    refine W.any (.move rfl) rfl rfl rfl ?_
    refine W.any (.dec (.isNilP (by kernel_rfl) rfl) rfl) rfl rfl rfl ?_
    refine W.nil ?_
    refine E.thenN ?_
    refine WC.condF rfl ?_
    refine WC.skip ?_
    refine E.thenN ?_
    refine WC.seq ?_
    refine WC.seq ?_
    refine WC.region ?_
    refine W.any (.assign rfl) rfl rfl rfl ?_
    refine W.nil ?_
    refine E.thenN ?_
    refine WC.block ?_
    have f5 := (p4_0.le h5_0)
    refine WC.loop (ι := Nat × (Nat → Prop) × (Nat → Prop) × PSt) (fun ⟨i, F, Fq, s⟩ => [(0, .slice Al nl cl), (3, .bool true), (4, .pointer (some ⟨gp4_0, 0, none⟩)), (5, .pointer (some ⟨gp5_0, 0, none⟩)), (6, .int .i64 (((i : Nat) : Int)))]) (fun ⟨i, F, Fq, s⟩ wl0 => (i ≤ nl) ∧ (s.length ≤ i) ∧ Le w wl0 ∧ w5_0.heap.size ≤ wl0.heap.size ∧ Pool wl0 w2_1.heap.size gp4_0 F s ∧ RPool wl0 w4_0.heap.size gp5_0 Fq s ∧ (∀ k, F k → ¬ Fq k)) (fun ⟨i, F, Fq, s⟩ => nl - i) (0, F4_0, F5_0, []) ?_ ?_ ?_
    · exact .cons rfl (.cons rfl (.cons rfl (.cons rfl (.cons rfl (.nil _)))))
    · exact ⟨Nat.zero_le _, Nat.zero_le _, L4, Nat.le_refl _, f5, p5_0, (fun k h1 h2 => by have := p5_0.old h2;  have := p4_0.lt h1; omega)⟩
    · rintro ⟨i, F, Fq, s⟩ wl0 ⟨hi, hsl, Ll0, sz0, f0_0, f0_1, pn0_0⟩
      refine WC.seq ?_
      refine WC.seq ?_
      refine WC.region ?_
      refine W.any (.move rfl) rfl rfl rfl ?_
      refine W.any (.move rfl) rfl rfl rfl ?_
      refine W.rd (.len Try.underlying22 rfl) rfl rfl rfl ?_
      refine W.any (.lss rfl rfl) rfl rfl rfl ?_
      refine W.nil ?_
      refine E.thenN ?_
      by_cases c2 : ((i : Nat) : Int) < ((nl : Nat) : Int)
      · refine WC.condY rfl (decide_eq_true c2) ?_
        refine WC.skip ?_
        refine E.thenN ?_
        refine WC.seq ?_
        refine WC.block ?_
        refine WC.seq ?_
        refine WC.region ?_
        refine W.any (.move rfl) rfl rfl rfl ?_
        refine W.any (.move rfl) rfl rfl rfl ?_
        refine W.any (.idxS (i) Try.underlying22 sz35 rfl rfl (hl.isSome pactV_row (by omega)) (rfl) (by omega)) rfl rfl rfl ?_
        refine W.rd (.vload ag35 rfl (hl.le Ll0) pactV_row (getS l noPAct (by first | omega | (simp only [List.length_cons, List.length_nil]; omega)))) rfl rfl rfl ?_
        refine W.ef rfl rfl rfl ?_
        refine Ef.allocA z35 ?_
        intro g11_4 w11_4 hg11_4 b11_4 h11_4
        have L6 := Ll0.trans h11_4
        have b11_4 : Blk w11_4 g11_4 35 (pactV noPAct).toArray := b11_4
        refine W.ef0 rfl rfl ?_
        refine Ef.storeAll sz35 (by rfl) rfl rfl b11_4 (by rfl) (pactV_row.one (l.getD i noPAct)) ?_
        intro w11_5 b11_5 h11_5
        have b11_5 : Blk w11_5 g11_4 35 (pactV (l.getD i noPAct)).toArray := b11_5
        have L7 : Le w w11_5 := L6.then_ h11_5 (fun q hq => by cases hq; exact Nat.le_trans Ll0.size hg11_4)
        refine W.nil ?_
        refine E.thenN ?_
        refine WC.seq ?_
        refine WC.region ?_
        refine W.any (.assign rfl) rfl rfl rfl ?_
        refine W.nil ?_
        refine E.thenN ?_
        refine WC.seq ?_
        refine WC.seq ?_
        refine WC.region ?_
        have f8 := ((f0_0.le h11_4).ch h11_5 (fun q hqq hF => by cases hqq; have := f0_0.lt hF;  have := hg11_4; omega))
        have hgs : GoodP s := f8.good
        refine W.any (.field0 fa35_0 rfl) rfl rfl rfl ?_
        refine W.rd (.loadB (v := .int .i64 ((l.getD i noPAct).do_)) na3 rfl b11_5 rfl) rfl rfl rfl ?_
        refine W.nil ?_
        refine E.thenN ?_
        refine WC.block ?_
        refine WC.seq ?_
        refine WC.region ?_
        refine W.any (.eql rfl rfl) rfl rfl rfl ?_
        refine W.any (.assign rfl) rfl rfl rfl ?_
        refine W.nil ?_
        refine E.thenN ?_
        by_cases c3 : ((l.getD i noPAct).do_) = 1
        · refine WC.condY rfl (decide_eq_true c3) ?_
          refine WC.drawS (fun w17 w' => Le w w' ∧ Blk w' g11_4 35 (pactV (l.getD i noPAct)).toArray) [0, 1, 2, 3, 4, 5, 6, 7, 8, 9, 10, 12, 13, 14, 15, 16, 17, 18, 19, 20, 21, 22, 11, 23, 24, 25] mixed (by kernel_rfl) ?_
          intro w17 d17
          have L9 := L7.trans d17
          have f10 := (b11_5.le d17)
          refine ⟨⟨L9, f10⟩, ?_⟩
          refine GS.any rfl rfl (.move rfl) rfl rfl rfl ?_
          refine GS.any rfl rfl (.field0 fa35_1 rfl) rfl rfl rfl ?_
          refine GS.rd rfl rfl (fun w' hs => .loadB (v := .int .i64 ((l.getD i noPAct).nm)) na3 rfl hs.2 rfl) rfl rfl rfl ?_
          refine GS.any rfl rfl (.field0 fa35_2 rfl) rfl rfl rfl ?_
          refine GS.rd rfl rfl (fun w' hs => .loadB (v := .int .u64 ((((l.getD i noPAct).sec : Nat) : Int))) na30 rfl hs.2 rfl) rfl rfl rfl ?_
          refine GS.any rfl rfl (.field0 fa35_3 rfl) rfl rfl rfl ?_
          refine GS.rd rfl rfl (fun w' hs => .loadB (v := .int .i64 ((l.getD i noPAct).tot)) na3 rfl hs.2 rfl) rfl rfl rfl ?_
          refine GS.any rfl rfl (.field0 fa35_4 rfl) rfl rfl rfl ?_
          refine GS.rd rfl rfl (fun w' hs => .loadB (v := .int .i64 ((l.getD i noPAct).by_)) na3 rfl hs.2 rfl) rfl rfl rfl ?_
          refine GS.any rfl rfl (.field0 fa35_5 rfl) rfl rfl rfl ?_
          refine GS.rd rfl rfl (fun w' hs => .loadB (v := .int .i64 ((l.getD i noPAct).lst)) na3 rfl hs.2 rfl) rfl rfl rfl ?_
          refine GS.any rfl rfl (.move rfl) rfl rfl rfl ?_
          refine GS.any rfl rfl (.field0 fa35_1 rfl) rfl rfl rfl ?_
          refine GS.rd rfl rfl (fun w' hs => .loadB (v := .int .i64 ((l.getD i noPAct).nm)) na3 rfl hs.2 rfl) rfl rfl rfl ?_
          refine GS.any rfl rfl (.field0 fa35_2 rfl) rfl rfl rfl ?_
          refine GS.rd rfl rfl (fun w' hs => .loadB (v := .int .u64 ((((l.getD i noPAct).sec : Nat) : Int))) na30 rfl hs.2 rfl) rfl rfl rfl ?_
          refine GS.any rfl rfl (.field0 fa35_3 rfl) rfl rfl rfl ?_
          refine GS.rd rfl rfl (fun w' hs => .loadB (v := .int .i64 ((l.getD i noPAct).tot)) na3 rfl hs.2 rfl) rfl rfl rfl ?_
          refine GS.any rfl rfl (.field0 fa35_4 rfl) rfl rfl rfl ?_
          refine GS.rd rfl rfl (fun w' hs => .loadB (v := .int .i64 ((l.getD i noPAct).by_)) na3 rfl hs.2 rfl) rfl rfl rfl ?_
          refine GS.any rfl rfl (.field0 fa35_5 rfl) rfl rfl rfl ?_
          refine GS.rd rfl rfl (fun w' hs => .loadB (v := .int .i64 ((l.getD i noPAct).lst)) na3 rfl hs.2 rfl) rfl rfl rfl ?_
          have f11 := (f8.le d17)
          refine GS.ef rfl rfl rfl rfl rfl ?_
          refine Ef.call go17 rfl rfl (want_pool ((l.getD i noPAct).nm) ((l.getD i noPAct).sec) ((l.getD i noPAct).tot) ((l.getD i noPAct).by_) ((l.getD i noPAct).lst) (by have := pact_at hg (i := i) (by omega); exact this) f11) ?_
          rintro _ w17_11 ⟨F17_11, rfl, p17_11, g17_11, h17_11⟩
          refine ⟨_, rfl, ?_⟩
          have L12 := L9.chP_then h17_11 (fun i hi => Nat.le_trans L2.size (f11.old hi))
          have f13 := (((f0_1.le h11_4).ch h11_5 (fun q hqq hF => by cases hqq; have := f0_1.lt hF;  have := hg11_4; omega)).le d17)
          have z14n := (show ∀ k, Fq k → ¬ F k from (fun k h1 h2 => pn0_0 k h2 h1))
          have z14 := f13.chP h17_11 z14n
          have z14g : ∀ k, Fq k → ¬ F17_11 k := fun k hk hF => (g17_11 _ hF).elim (z14n k hk) (fun hz => by have := f13.lt hk; omega)
          have z15n := (show ¬ F g11_4 from (fun hF => by have := f0_0.lt hF;  have := hg11_4; omega))
          have z15 := f10.chP h17_11 z15n
          have z15g : ¬ F17_11 g11_4 := fun hF => (g17_11 _ hF).elim z15n (fun hz => by have := f10.lt; omega)
          refine ⟨⟨L12, z15⟩, ?_⟩
          refine GS.ef rfl rfl rfl rfl rfl ?_
          refine Ef.call go18 rfl rfl (rwant_pool ((l.getD i noPAct).nm) ((l.getD i noPAct).sec) ((l.getD i noPAct).tot) ((l.getD i noPAct).by_) ((l.getD i noPAct).lst) (by have := pact_at hg (i := i) (by omega); exact this) z14 (by first | omega | (refine Nat.le_trans (want_len _ _ _ _ _ _) ?_; omega) | (rw [add_len]; omega) | (rw [late_len]; omega))) ?_
          rintro _ w17_23 ⟨F17_23, rfl, p17_23, g17_23, h17_23⟩
          refine ⟨_, rfl, ?_⟩
          have L16 := L12.chP_then h17_23 (fun i hi => Nat.le_trans L3.size (z14.old hi))
          have z17n := (show ∀ k, F17_11 k → ¬ Fq k from (fun k h1 h2 => z14g k h2 h1))
          have z17 := p17_11.chP h17_23 z17n
          have z17g : ∀ k, F17_11 k → ¬ F17_23 k := fun k hk hF => (g17_23 _ hF).elim (z17n k hk) (fun hz => by have := p17_11.lt hk; omega)
          have z18n := (show ¬ Fq g11_4 from (fun hF => by have := f0_1.lt hF;  have := hg11_4; omega))
          have z18 := z15.chP h17_23 z18n
          have z18g : ¬ F17_23 g11_4 := fun hF => (g17_23 _ hF).elim z18n (fun hz => by have := z15.lt; omega)
          refine ⟨⟨L16, z18⟩, ?_⟩
          refine GS.any rfl rfl (.eql rfl rfl) rfl rfl rfl ?_
          refine GS.any rfl rfl (.assign rfl) rfl rfl rfl ?_
          refine GS.nil ?_
          refine E.blkN ?_
          refine E.thenN ?_
          refine WC.seq ?_
          refine WC.region ?_
          have hb1 : ((wantS s ((l.getD i noPAct).nm) ((l.getD i noPAct).sec) ((l.getD i noPAct).tot) ((l.getD i noPAct).by_) ((l.getD i noPAct).lst)).1).length ≤ 41 := (by first | omega | (refine Nat.le_trans (want_len _ _ _ _ _ _) ?_; omega) | (rw [add_len]; omega) | (rw [late_len]; omega))
          have hb2 := held_len z17.good (l.getD i noPAct).nm
          refine W.any (.move rfl) rfl rfl rfl ?_
          refine W.any (.field0 fa35_1 rfl) rfl rfl rfl ?_
          refine W.rd (.loadB (v := .int .i64 ((l.getD i noPAct).nm)) na3 rfl z18 rfl) rfl rfl rfl ?_
          refine W.ef rfl rfl rfl ?_
          refine Ef.call go25 rfl rfl (over_pool ((l.getD i noPAct).nm) z17) ?_
          rintro _ w22_3 ⟨rfl, h22_3⟩
          refine ⟨_, rfl, ?_⟩
          have L19 := L16.trans h22_3
          refine W.any (.move rfl) rfl rfl rfl ?_
          refine W.any (.extract (v := .bool ((overP ((wantS s ((l.getD i noPAct).nm) ((l.getD i noPAct).sec) ((l.getD i noPAct).tot) ((l.getD i noPAct).by_) ((l.getD i noPAct).lst)).1) ((l.getD i noPAct).nm)).1)) rfl rfl) rfl rfl rfl ?_
          refine W.any (.extract (v := .bool ((overP ((wantS s ((l.getD i noPAct).nm) ((l.getD i noPAct).sec) ((l.getD i noPAct).tot) ((l.getD i noPAct).by_) ((l.getD i noPAct).lst)).1) ((l.getD i noPAct).nm)).2)) rfl rfl) rfl rfl rfl ?_
          refine W.any (.assign rfl) rfl rfl rfl ?_
          refine W.any (.assign rfl) rfl rfl rfl ?_
          refine W.nil ?_
          refine E.thenN ?_
          refine WC.seq ?_
          refine WC.region ?_
          refine W.any (.move rfl) rfl rfl rfl ?_
          refine W.any (.field0 fa35_1 rfl) rfl rfl rfl ?_
          have f20 := (z18.le h22_3)
          refine W.rd (.loadB (v := .int .i64 ((l.getD i noPAct).nm)) na3 rfl f20 rfl) rfl rfl rfl ?_
          have f21 := (p17_23.le h22_3)
          refine W.ef rfl rfl rfl ?_
          refine Ef.call go26 rfl rfl (rover_pool ((l.getD i noPAct).nm) f21 (by first | omega | (refine Nat.le_trans (want_len _ _ _ _ _ _) ?_; omega) | (rw [add_len]; omega) | (rw [late_len]; omega))) ?_
          rintro _ w23_3 ⟨rfl, h23_3⟩
          refine ⟨_, rfl, ?_⟩
          have L22 := L19.trans h23_3
          refine W.any (.move rfl) rfl rfl rfl ?_
          refine W.any (.extract (v := .bool ((overP ((wantS s ((l.getD i noPAct).nm) ((l.getD i noPAct).sec) ((l.getD i noPAct).tot) ((l.getD i noPAct).by_) ((l.getD i noPAct).lst)).1) ((l.getD i noPAct).nm)).1)) rfl rfl) rfl rfl rfl ?_
          refine W.any (.extract (v := .bool ((overP ((wantS s ((l.getD i noPAct).nm) ((l.getD i noPAct).sec) ((l.getD i noPAct).tot) ((l.getD i noPAct).by_) ((l.getD i noPAct).lst)).1) ((l.getD i noPAct).nm)).2)) rfl rfl) rfl rfl rfl ?_
          refine W.any (.assign rfl) rfl rfl rfl ?_
          refine W.any (.assign rfl) rfl rfl rfl ?_
          refine W.nil ?_
          refine E.thenN ?_
          refine WC.seq ?_
          refine WC.region ?_
          refine W.any (.move rfl) rfl rfl rfl ?_
          have f23 := (z17.le (h22_3.trans h23_3))
          refine W.ef rfl rfl rfl ?_
          refine Ef.call go27 rfl rfl (names_pool f23 (by first | omega | (refine Nat.le_trans (want_len _ _ _ _ _ _) ?_; omega) | (rw [add_len]; omega) | (rw [late_len]; omega))) ?_
          rintro _ w24_1 ⟨A24_1, c24_1, rfl, o24_1, h24_1⟩
          refine ⟨_, rfl, ?_⟩
          have L24 := L22.trans h24_1
          refine W.any (.assign rfl) rfl rfl rfl ?_
          refine W.nil ?_
          refine E.thenN ?_
          refine WC.seq ?_
          refine WC.region ?_
          refine W.any (.move rfl) rfl rfl rfl ?_
          have f25 := (f21.le (h23_3.trans h24_1))
          refine W.ef rfl rfl rfl ?_
          refine Ef.call go28 rfl rfl (rnames_pool f25 (by first | omega | (refine Nat.le_trans (want_len _ _ _ _ _ _) ?_; omega) | (rw [add_len]; omega) | (rw [late_len]; omega))) ?_
          rintro _ w25_1 ⟨A25_1, c25_1, rfl, o25_1, h25_1⟩
          refine ⟨_, rfl, ?_⟩
          have L26 := L24.trans h25_1
          refine W.any (.assign rfl) rfl rfl rfl ?_
          refine W.nil ?_
          refine E.thenN ?_
          refine WC.seq ?_
          refine WC.region ?_
          refine W.any (.move rfl) rfl rfl rfl ?_
          refine W.any (.field0 fa35_1 rfl) rfl rfl rfl ?_
          have f27 := (f20.le (h23_3.trans (h24_1.trans h25_1)))
          refine W.rd (.loadB (v := .int .i64 ((l.getD i noPAct).nm)) na3 rfl f27 rfl) rfl rfl rfl ?_
          have f28 := (f23.le (h24_1.trans h25_1))
          refine W.ef rfl rfl rfl ?_
          refine Ef.call go29 rfl rfl (held_pool ((l.getD i noPAct).nm) f28) ?_
          rintro _ w26_3 ⟨A26_3, c26_3, rfl, o26_3, h26_3⟩
          refine ⟨_, rfl, ?_⟩
          have L29 := L26.trans h26_3
          refine W.any (.assign rfl) rfl rfl rfl ?_
          refine W.nil ?_
          refine E.thenN ?_
          refine WC.seq ?_
          refine WC.seq ?_
          refine WC.region ?_
          refine W.any (.move rfl) rfl rfl rfl ?_
          refine W.any (.not rfl) rfl rfl rfl ?_
          refine W.any (.dec (.move rfl) (congrArg not (decide_eq_true rfl))) rfl rfl rfl ?_
          refine W.rdg (Any.rd (.move rfl) _) rfl rfl rfl (rfl) rfl rfl ?_
          refine W.rdg (Any.rd (.move rfl) _) rfl rfl rfl (rfl) rfl rfl ?_
          refine W.rdg (Any.rd (.bneq Try.underlying4 rfl rfl) _) rfl rfl rfl (rfl) rfl rfl ?_
          refine W.any (.pickF rfl rfl rfl) rfl rfl rfl ?_
          refine W.any (.dec (.move rfl) (show _ = false from by simp)) rfl rfl rfl ?_
          refine W.rdg (Any.rd (.move rfl) _) rfl rfl rfl (rfl) rfl rfl ?_
          refine W.rdg (Any.rd (.move rfl) _) rfl rfl rfl (rfl) rfl rfl ?_
          refine W.rdg (Any.rd (.bneq Try.underlying4 rfl rfl) _) rfl rfl rfl (rfl) rfl rfl ?_
          refine W.any (.pickF rfl rfl rfl) rfl rfl rfl ?_
          refine W.any (.dec (.move rfl) (show _ = false from by simp)) rfl rfl rfl ?_
          refine W.rdg (Any.rd (.move rfl) _) rfl rfl rfl (rfl) rfl rfl ?_
          refine W.rdg (.len Try.underlying53 rfl) rfl rfl rfl (rfl) rfl rfl ?_
          refine W.rdg (Any.rd (.move rfl) _) rfl rfl rfl (rfl) rfl rfl ?_
          refine W.rdg (.len Try.underlying53 rfl) rfl rfl rfl (rfl) rfl rfl ?_
          refine W.rdg (Any.rd (.neq rfl rfl) _) rfl rfl rfl (rfl) rfl rfl ?_
          refine W.any (.pickF rfl rfl rfl) rfl rfl rfl ?_
          refine W.any (.dec (.move rfl) (decide_eq_false (fun h => h rfl))) rfl rfl rfl ?_
          refine W.rdg (Any.rd (.move rfl) _) rfl rfl rfl (rfl) rfl rfl ?_
          refine W.rdg (Any.rd (.move rfl) _) rfl rfl rfl (rfl) rfl rfl ?_
          refine W.rdg (Any.rd (.field0 fa35_1 rfl) _) rfl rfl rfl (rfl) rfl rfl ?_
          have f30 := (f27.le h26_3)
          refine W.rdg (.loadB (v := .int .i64 ((l.getD i noPAct).nm)) na3 rfl f30 rfl) rfl rfl rfl (rfl) rfl rfl ?_
          have f31 := (f25.le (h25_1.trans h26_3))
          refine W.efg rfl rfl rfl (rfl) rfl rfl ?_
          refine Ef.call go30 rfl rfl (rheld_pool ((l.getD i noPAct).nm) f31 (by first | omega | (refine Nat.le_trans (want_len _ _ _ _ _ _) ?_; omega) | (rw [add_len]; omega) | (rw [late_len]; omega))) ?_
          rintro _ w27_24 ⟨A27_24, c27_24, rfl, o27_24, h27_24⟩
          refine ⟨_, rfl, ?_⟩
          have L32 := L29.trans h27_24
          have f33 := (o26_3.le h27_24)
          refine W.efg rfl rfl rfl (rfl) rfl rfl ?_
          refine Ef.call go23 rfl rfl (alikec_ok w27_24 f33.vec o27_24 (by omega)) ?_
          rintro _ w27_25 ⟨rfl, h27_25⟩
          refine ⟨_, rfl, ?_⟩
          have L34 := L32.trans h27_25
          refine W.rdg (Any.rd (.not rfl) _) rfl rfl rfl (rfl) rfl rfl ?_
          refine W.any (.pickF rfl rfl rfl) rfl rfl rfl ?_
          refine W.nil ?_
          refine E.thenN ?_
          refine WC.condN rfl (congrArg not (decide_eq_true (rfl))) ?_
          refine WC.skip ?_
          refine E.thenN ?_
          refine WC.seq ?_
          refine WC.seq ?_
          refine WC.region ?_
          refine W.any (.assign rfl) rfl rfl rfl ?_
          refine W.nil ?_
          refine E.thenN ?_
          refine WC.block ?_
          have f35 := (f28.le (h26_3.trans (h27_24.trans h27_25)))
          have f36 := (f31.le (h27_24.trans h27_25))
          have f37 := (o24_1.le (h25_1.trans (h26_3.trans (h27_24.trans h27_25))))
          have f38 := (o25_1.le (h26_3.trans (h27_24.trans h27_25)))
          have f39 := (f33.le h27_25)
          refine WC.loop (ι := Nat) (fun k => [(0, .slice Al nl cl), (3, .bool true), (4, .pointer (some ⟨gp4_0, 0, none⟩)), (5, .pointer (some ⟨gp5_0, 0, none⟩)), (6, .int .i64 (((i : Nat) : Int))), (18, .slice A24_1 (((wantS s ((l.getD i noPAct).nm) ((l.getD i noPAct).sec) ((l.getD i noPAct).tot) ((l.getD i noPAct).by_) ((l.getD i noPAct).lst)).1).length) c24_1), (19, .slice A25_1 (((wantS s ((l.getD i noPAct).nm) ((l.getD i noPAct).sec) ((l.getD i noPAct).tot) ((l.getD i noPAct).by_) ((l.getD i noPAct).lst)).1).length) c25_1), (20, .slice A26_3 ((heldP ((wantS s ((l.getD i noPAct).nm) ((l.getD i noPAct).sec) ((l.getD i noPAct).tot) ((l.getD i noPAct).by_) ((l.getD i noPAct).lst)).1) ((l.getD i noPAct).nm)).length) c26_3), (21, .int .i64 (((k : Nat) : Int)))]) (fun k wl1 => (k ≤ ((wantS s ((l.getD i noPAct).nm) ((l.getD i noPAct).sec) ((l.getD i noPAct).tot) ((l.getD i noPAct).by_) ((l.getD i noPAct).lst)).1).length) ∧ Le w wl1 ∧ w27_25.heap.size ≤ wl1.heap.size ∧ Pool wl1 w2_1.heap.size gp4_0 F17_11 ((wantS s ((l.getD i noPAct).nm) ((l.getD i noPAct).sec) ((l.getD i noPAct).tot) ((l.getD i noPAct).by_) ((l.getD i noPAct).lst)).1) ∧ RPool wl1 w4_0.heap.size gp5_0 F17_23 ((wantS s ((l.getD i noPAct).nm) ((l.getD i noPAct).sec) ((l.getD i noPAct).tot) ((l.getD i noPAct).by_) ((l.getD i noPAct).lst)).1) ∧ OVec wl1 w23_3.heap.size 3 iv 1 A24_1 (((wantS s ((l.getD i noPAct).nm) ((l.getD i noPAct).sec) ((l.getD i noPAct).tot) ((l.getD i noPAct).by_) ((l.getD i noPAct).lst)).1).length) c24_1 (((wantS s ((l.getD i noPAct).nm) ((l.getD i noPAct).sec) ((l.getD i noPAct).tot) ((l.getD i noPAct).by_) ((l.getD i noPAct).lst)).1).map (·.1)) ∧ OVec wl1 w24_1.heap.size 3 iv 1 A25_1 (((wantS s ((l.getD i noPAct).nm) ((l.getD i noPAct).sec) ((l.getD i noPAct).tot) ((l.getD i noPAct).by_) ((l.getD i noPAct).lst)).1).length) c25_1 (((wantS s ((l.getD i noPAct).nm) ((l.getD i noPAct).sec) ((l.getD i noPAct).tot) ((l.getD i noPAct).by_) ((l.getD i noPAct).lst)).1).map (·.1)) ∧ OVec wl1 w25_1.heap.size 33 partV 6 A26_3 ((heldP ((wantS s ((l.getD i noPAct).nm) ((l.getD i noPAct).sec) ((l.getD i noPAct).tot) ((l.getD i noPAct).by_) ((l.getD i noPAct).lst)).1) ((l.getD i noPAct).nm)).length) c26_3 (heldP ((wantS s ((l.getD i noPAct).nm) ((l.getD i noPAct).sec) ((l.getD i noPAct).tot) ((l.getD i noPAct).by_) ((l.getD i noPAct).lst)).1) ((l.getD i noPAct).nm))) (fun k => ((wantS s ((l.getD i noPAct).nm) ((l.getD i noPAct).sec) ((l.getD i noPAct).tot) ((l.getD i noPAct).by_) ((l.getD i noPAct).lst)).1).length - k) 0 ?_ ?_ ?_
          · exact .cons rfl (.cons rfl (.cons rfl (.cons rfl (.cons rfl (.cons rfl (.cons rfl (.cons rfl (.cons rfl (.nil _)))))))))
          · exact ⟨Nat.zero_le _, L34, Nat.le_refl _, f35, f36, f37, f38, f39⟩
          · rintro k wl1 ⟨hk, Ll1, sz1, f1_0, f1_1, f1_2, f1_3, f1_4⟩
            have lb1_5 : w23_3.heap.size ≤ wl1.heap.size := by have := h24_1.size; have := h25_1.size; have := h26_3.size; have := h27_24.size; have := h27_25.size; omega
            have lb1_6 : w24_1.heap.size ≤ wl1.heap.size := by have := h25_1.size; have := h26_3.size; have := h27_24.size; have := h27_25.size; omega
            have lb1_7 : w25_1.heap.size ≤ wl1.heap.size := by have := h26_3.size; have := h27_24.size; have := h27_25.size; omega
            refine WC.seq ?_
            refine WC.seq ?_
            refine WC.region ?_
            refine W.any (.move rfl) rfl rfl rfl ?_
            refine W.any (.move rfl) rfl rfl rfl ?_
            refine W.rd (.len Try.underlying53 rfl) rfl rfl rfl ?_
            refine W.any (.lss rfl rfl) rfl rfl rfl ?_
            refine W.nil ?_
            refine E.thenN ?_
            by_cases c6 : ((k : Nat) : Int) < ((((wantS s ((l.getD i noPAct).nm) ((l.getD i noPAct).sec) ((l.getD i noPAct).tot) ((l.getD i noPAct).by_) ((l.getD i noPAct).lst)).1).length : Nat) : Int)
            · refine WC.condY rfl (decide_eq_true c6) ?_
              refine WC.skip ?_
              refine E.thenN ?_
              refine WC.seq ?_
              refine WC.block ?_
              refine WC.seq ?_
              refine WC.draw [0, 1, 2, 3, 4, 5, 6, 7, 8] mixed (by kernel_rfl) ?_
              intro w32 d32
              have L40 := Ll1.trans d32
              refine G.any rfl rfl (.move rfl) rfl rfl rfl ?_
              refine G.any rfl rfl (.move rfl) rfl rfl rfl ?_
              refine G.any rfl rfl (.idxS (k) Try.underlying53 sz3 rfl rfl (o24_1.vec.isSome iv_row (by omega)) (rfl) (by omega)) rfl rfl rfl ?_
              have f41 := (f1_2.le d32)
              refine G.rd rfl rfl (.vone (v := .int .i64 (((((wantS s ((l.getD i noPAct).nm) ((l.getD i noPAct).sec) ((l.getD i noPAct).tot) ((l.getD i noPAct).by_) ((l.getD i noPAct).lst)).1).map (·.1)).getD k 0))) na3 rfl f41.vec iv_row (getS (((wantS s ((l.getD i noPAct).nm) ((l.getD i noPAct).sec) ((l.getD i noPAct).tot) ((l.getD i noPAct).by_) ((l.getD i noPAct).lst)).1).map (·.1)) 0 (by first | omega | (rw [List.length_map]; omega))) rfl) rfl rfl rfl ?_
              refine G.any rfl rfl (.move rfl) rfl rfl rfl ?_
              refine G.any rfl rfl (.move rfl) rfl rfl rfl ?_
              refine G.any rfl rfl (.idxS (k) Try.underlying53 sz3 rfl rfl (o25_1.vec.isSome iv_row (by omega)) (rfl) (by omega)) rfl rfl rfl ?_
              have f42 := (f1_3.le d32)
              refine G.rd rfl rfl (.vone (v := .int .i64 (((((wantS s ((l.getD i noPAct).nm) ((l.getD i noPAct).sec) ((l.getD i noPAct).tot) ((l.getD i noPAct).by_) ((l.getD i noPAct).lst)).1).map (·.1)).getD k 0))) na3 rfl f42.vec iv_row (getS (((wantS s ((l.getD i noPAct).nm) ((l.getD i noPAct).sec) ((l.getD i noPAct).tot) ((l.getD i noPAct).by_) ((l.getD i noPAct).lst)).1).map (·.1)) 0 (by first | omega | (rw [List.length_map]; omega))) rfl) rfl rfl rfl ?_
              refine G.any rfl rfl (.neq rfl rfl) rfl rfl rfl ?_
              refine G.nil ?_
              refine E.thenN ?_
              refine WC.condN rfl (decide_eq_false (fun h => h rfl)) ?_
              refine WC.skip ?_
              refine E.blkN ?_
              refine E.thenN ?_
              refine WC.region ?_
              refine W.any (.move rfl) rfl rfl rfl ?_
              refine W.any (.add rfl rfl (by omega)) rfl rfl rfl ?_
              refine W.any (.assign rfl) rfl rfl rfl ?_
              refine W.nil ?_
              have f43 := (f1_0.le d32)
              have f44 := (f1_1.le d32)
              have f45 := (f1_4.le d32)
              refine E.again (k + 1) (.cons rfl (.cons rfl (.cons rfl (.cons rfl (.cons rfl (.cons rfl (.cons rfl (.cons rfl (.cons rfl (.nil _)))))))))) ?_ ?_
              · exact ⟨by omega, L40, by have := sz1; have := d32.size; omega, f43, f44, f41, f42, f45⟩
              · first | omega | (simp only []; omega)
            · refine WC.condN rfl (decide_eq_false c6) ?_
              refine WC.exit ?_
              refine E.thenX ?_
              refine E.thenX ?_
              refine E.blkH ?_
              refine E.thenN ?_
              refine WC.seq ?_
              refine WC.region ?_
              refine W.any (.assign rfl) rfl rfl rfl ?_
              refine W.nil ?_
              refine E.thenN ?_
              refine WC.block ?_
              refine WC.loop (ι := Nat × (List Part)) (fun ⟨k, hx⟩ => [(0, .slice Al nl cl), (3, .bool true), (4, .pointer (some ⟨gp4_0, 0, none⟩)), (5, .pointer (some ⟨gp5_0, 0, none⟩)), (6, .int .i64 (((i : Nat) : Int))), (20, .slice A26_3 ((heldP ((wantS s ((l.getD i noPAct).nm) ((l.getD i noPAct).sec) ((l.getD i noPAct).tot) ((l.getD i noPAct).by_) ((l.getD i noPAct).lst)).1) ((l.getD i noPAct).nm)).length) c26_3), (22, .int .i64 (((k : Nat) : Int)))]) (fun ⟨k, hx⟩ wl2 => (k ≤ (heldP ((wantS s ((l.getD i noPAct).nm) ((l.getD i noPAct).sec) ((l.getD i noPAct).tot) ((l.getD i noPAct).by_) ((l.getD i noPAct).lst)).1) ((l.getD i noPAct).nm)).length) ∧ (hx.length = (heldP ((wantS s ((l.getD i noPAct).nm) ((l.getD i noPAct).sec) ((l.getD i noPAct).tot) ((l.getD i noPAct).by_) ((l.getD i noPAct).lst)).1) ((l.getD i noPAct).nm)).length) ∧ Le w wl2 ∧ wl1.heap.size ≤ wl2.heap.size ∧ Pool wl2 w2_1.heap.size gp4_0 F17_11 ((wantS s ((l.getD i noPAct).nm) ((l.getD i noPAct).sec) ((l.getD i noPAct).tot) ((l.getD i noPAct).by_) ((l.getD i noPAct).lst)).1) ∧ RPool wl2 w4_0.heap.size gp5_0 F17_23 ((wantS s ((l.getD i noPAct).nm) ((l.getD i noPAct).sec) ((l.getD i noPAct).tot) ((l.getD i noPAct).by_) ((l.getD i noPAct).lst)).1) ∧ OVec wl2 w25_1.heap.size 33 partV 6 A26_3 ((heldP ((wantS s ((l.getD i noPAct).nm) ((l.getD i noPAct).sec) ((l.getD i noPAct).tot) ((l.getD i noPAct).by_) ((l.getD i noPAct).lst)).1) ((l.getD i noPAct).nm)).length) c26_3 hx) (fun ⟨k, hx⟩ => (heldP ((wantS s ((l.getD i noPAct).nm) ((l.getD i noPAct).sec) ((l.getD i noPAct).tot) ((l.getD i noPAct).by_) ((l.getD i noPAct).lst)).1) ((l.getD i noPAct).nm)).length - k) (0, (heldP ((wantS s ((l.getD i noPAct).nm) ((l.getD i noPAct).sec) ((l.getD i noPAct).tot) ((l.getD i noPAct).by_) ((l.getD i noPAct).lst)).1) ((l.getD i noPAct).nm))) ?_ ?_ ?_
              · exact .cons rfl (.cons rfl (.cons rfl (.cons rfl (.cons rfl (.cons rfl (.cons rfl (.nil _)))))))
              · exact ⟨Nat.zero_le _, rfl, Ll1, Nat.le_refl _, f1_0, f1_1, f1_4⟩
              · rintro ⟨k, hx⟩ wl2 ⟨hk, hxl, Ll2, sz2, f2_0, f2_1, f2_2⟩
                have lb2_7 : w25_1.heap.size ≤ wl2.heap.size := Nat.le_trans lb1_7 (by omega)
                refine WC.seq ?_
                refine WC.seq ?_
                refine WC.region ?_
                refine W.any (.move rfl) rfl rfl rfl ?_
                refine W.any (.move rfl) rfl rfl rfl ?_
                refine W.rd (.len Try.underlying46 rfl) rfl rfl rfl ?_
                refine W.any (.lss rfl rfl) rfl rfl rfl ?_
                refine W.nil ?_
                refine E.thenN ?_
                by_cases c8 : ((k : Nat) : Int) < (((heldP ((wantS s ((l.getD i noPAct).nm) ((l.getD i noPAct).sec) ((l.getD i noPAct).tot) ((l.getD i noPAct).by_) ((l.getD i noPAct).lst)).1) ((l.getD i noPAct).nm)).length : Nat) : Int)
                · refine WC.condY rfl (decide_eq_true c8) ?_
                  refine WC.skip ?_
                  refine E.thenN ?_
                  refine WC.seq ?_
                  refine WC.block ?_
                  refine WC.region ?_
                  refine W.any (.move rfl) rfl rfl rfl ?_
                  refine W.any (.move rfl) rfl rfl rfl ?_
                  refine W.any (.idxS (k) Try.underlying46 sz33 rfl rfl (o26_3.vec.isSome partV_row (by omega)) (rfl) (by omega)) rfl rfl rfl ?_
                  refine W.any (.vfield fa33_2 (o26_3.vec.isSome partV_row (by omega)) rfl) rfl rfl rfl ?_
                  refine W.ef0 rfl rfl ?_
                  refine Ef.vset (j := k) (o := 2) ({ (hx.getD k noPart) with am := (-7) }) sz3 rfl (by omega) rfl f2_2 partV_row (getS hx noPart (by omega)) (by decide) rfl rfl ?_
                  intro w37_4 o37_4 h37_4
                  have L46 : Le w w37_4 := Ll2.then_ h37_4 (fun q hq => Nat.le_trans L26.size (f2_2.row hq).1)
                  refine W.nil ?_
                  refine E.blkN ?_
                  refine E.thenN ?_
                  refine WC.region ?_
                  refine W.any (.move rfl) rfl rfl rfl ?_
                  refine W.any (.add rfl rfl (by omega)) rfl rfl rfl ?_
                  refine W.any (.assign rfl) rfl rfl rfl ?_
                  refine W.nil ?_
                  have f47 := (f2_0.ch h37_4 (fun q hqq hF => by have := (f2_2.row hqq).1; have := f28.lt hF;  omega))
                  have f48 := (f2_1.ch h37_4 (fun q hqq hF => by have := (f2_2.row hqq).1; have := f25.lt hF; have := h25_1.size; omega))
                  refine E.again (k + 1, (hx.set k ({ (hx.getD k noPart) with am := (-7) }))) (.cons rfl (.cons rfl (.cons rfl (.cons rfl (.cons rfl (.cons rfl (.cons rfl (.nil _)))))))) ?_ ?_
                  · exact ⟨by omega, by rw [List.length_set]; omega, L46, by have := sz2; have := h37_4.size; omega, f47, f48, o37_4⟩
                  · first | omega | (simp only []; omega)
                · refine WC.condN rfl (decide_eq_false c8) ?_
                  refine WC.exit ?_
                  refine E.thenX ?_
                  refine E.thenX ?_
                  refine E.blkH ?_
                  refine E.blkN ?_
                  refine E.thenN ?_
                  refine WC.region ?_
                  refine W.any (.move rfl) rfl rfl rfl ?_
                  refine W.any (.add rfl rfl (by omega)) rfl rfl rfl ?_
                  refine W.any (.assign rfl) rfl rfl rfl ?_
                  refine W.nil ?_
                  refine E.again (i + 1, F17_11, F17_23, (wantS s ((l.getD i noPAct).nm) ((l.getD i noPAct).sec) ((l.getD i noPAct).tot) ((l.getD i noPAct).by_) ((l.getD i noPAct).lst)).1) (.cons rfl (.cons rfl (.cons rfl (.cons rfl (.cons rfl (.nil _)))))) ?_ ?_
                  · exact ⟨by omega, (by first | omega | (refine Nat.le_trans (want_len _ _ _ _ _ _) ?_; omega) | (rw [add_len]; omega) | (rw [late_len]; omega)), Ll2, by have := sz0; have := sz1; have := sz2; have := h1_0.size; have := h2_1.size; have := h4_0.size; have := h5_0.size; have := h11_4.size; have := h11_5.size; have := d17.size; have := h17_11.size; have := h17_23.size; have := h22_3.size; have := h23_3.size; have := h24_1.size; have := h25_1.size; have := h26_3.size; have := h27_24.size; have := h27_25.size; omega, f2_0, f2_1, z17g⟩
                  · first | omega | (simp only []; omega)
        · refine WC.condN rfl (decide_eq_false c3) ?_
          refine WC.seq ?_
          refine WC.region ?_
          refine W.any (.eql rfl rfl) rfl rfl rfl ?_
          refine W.any (.assign rfl) rfl rfl rfl ?_
          refine W.nil ?_
          refine E.thenN ?_
          by_cases c4 : ((l.getD i noPAct).do_) = 2
          · refine WC.condY rfl (decide_eq_true c4) ?_
            refine WC.seq ?_
            refine WC.region ?_
            refine W.any (.move rfl) rfl rfl rfl ?_
            refine W.any (.field0 fa35_1 rfl) rfl rfl rfl ?_
            refine W.rd (.loadB (v := .int .i64 ((l.getD i noPAct).nm)) na3 rfl b11_5 rfl) rfl rfl rfl ?_
            refine W.any (.field0 fa35_6 rfl) rfl rfl rfl ?_
            refine W.rd (.bpart (partV ((l.getD i noPAct).part)) ag33 rfl (by decide) rfl b11_5 rfl) rfl rfl rfl ?_
            refine W.any (.field0 fa35_7 rfl) rfl rfl rfl ?_
            refine W.rd (.loadB (v := .int .i64 ((l.getD i noPAct).ht)) na3 rfl b11_5 rfl) rfl rfl rfl ?_
            refine W.ef rfl rfl rfl ?_
            refine Ef.call go19 rfl rfl (add_pool ((l.getD i noPAct).nm) ((l.getD i noPAct).part) ((l.getD i noPAct).ht) f8) ?_
            rintro _ w19_7 ⟨F19_7, A19_7, c19_7, rfl, o19_7, p19_7, g19_7, n19_7, h19_7⟩
            refine ⟨_, rfl, ?_⟩
            have L49 := L7.chP_then h19_7 (fun i hi => Nat.le_trans L2.size (f8.old hi))
            have f50 := ((f0_1.le h11_4).ch h11_5 (fun q hqq hF => by cases hqq; have := f0_1.lt hF;  have := hg11_4; omega))
            have z51n := (show ∀ k, Fq k → ¬ F k from (fun k h1 h2 => pn0_0 k h2 h1))
            have z51 := f50.chP h19_7 z51n
            have z51g : ∀ k, Fq k → ¬ F19_7 k := fun k hk hF => (g19_7 _ hF).elim (z51n k hk) (fun hz => by have := f50.lt hk; omega)
            have z52n := (show ¬ F g11_4 from (fun hF => by have := f0_0.lt hF;  have := hg11_4; omega))
            have z52 := b11_5.chP h19_7 z52n
            have z52g : ¬ F19_7 g11_4 := fun hF => (g19_7 _ hF).elim z52n (fun hz => by have := b11_5.lt; omega)
            refine W.any (.move rfl) rfl rfl rfl ?_
            refine W.any (.extract (v := .slice A19_7 (((addT s ((l.getD i noPAct).nm) ((l.getD i noPAct).part) ((l.getD i noPAct).ht)).2.1).length) c19_7) rfl rfl) rfl rfl rfl ?_
            refine W.any (.extract (v := .int .i64 ((addT s ((l.getD i noPAct).nm) ((l.getD i noPAct).part) ((l.getD i noPAct).ht)).2.2)) rfl rfl) rfl rfl rfl ?_
            refine W.any (.assign rfl) rfl rfl rfl ?_
            refine W.any (.assign rfl) rfl rfl rfl ?_
            refine W.nil ?_
            refine E.thenN ?_
            refine WC.seq ?_
            refine WC.region ?_
            refine W.any (.move rfl) rfl rfl rfl ?_
            refine W.any (.field0 fa35_1 rfl) rfl rfl rfl ?_
            refine W.rd (.loadB (v := .int .i64 ((l.getD i noPAct).nm)) na3 rfl z52 rfl) rfl rfl rfl ?_
            refine W.any (.field0 fa35_6 rfl) rfl rfl rfl ?_
            refine W.rd (.bpart (partV ((l.getD i noPAct).part)) ag33 rfl (by decide) rfl z52 rfl) rfl rfl rfl ?_
            refine W.any (.field0 fa35_7 rfl) rfl rfl rfl ?_
            refine W.rd (.loadB (v := .int .i64 ((l.getD i noPAct).ht)) na3 rfl z52 rfl) rfl rfl rfl ?_
            refine W.ef rfl rfl rfl ?_
            refine Ef.call go20 rfl rfl (radd_pool ((l.getD i noPAct).nm) ((l.getD i noPAct).part) ((l.getD i noPAct).ht) z51 (by first | omega | (refine Nat.le_trans (want_len _ _ _ _ _ _) ?_; omega) | (rw [add_len]; omega) | (rw [late_len]; omega))) ?_
            rintro _ w20_7 ⟨F20_7, A20_7, c20_7, rfl, o20_7, p20_7, g20_7, n20_7, h20_7⟩
            refine ⟨_, rfl, ?_⟩
            have L53 := L49.chP_then h20_7 (fun i hi => Nat.le_trans L3.size (z51.old hi))
            have z54n := (show ∀ k, F19_7 k → ¬ Fq k from (fun k h1 h2 => z51g k h2 h1))
            have z54 := p19_7.chP h20_7 z54n
            have z54g : ∀ k, F19_7 k → ¬ F20_7 k := fun k hk hF => (g20_7 _ hF).elim (z54n k hk) (fun hz => by have := p19_7.lt hk; omega)
            have z55n := (show ¬ Fq g11_4 from (fun hF => by have := f0_1.lt hF;  have := hg11_4; omega))
            have z55 := z52.chP h20_7 z55n
            have z55g : ¬ F20_7 g11_4 := fun hF => (g20_7 _ hF).elim z55n (fun hz => by have := z52.lt; omega)
            have z56n := (show ∀ g, rowOf A19_7 c19_7 = some g → ¬ Fq g from (fun g hg hF => by have := f50.lt hF;  have := (o19_7.row hg).1; omega))
            have z56 := o19_7.chP h20_7 z56n
            have z56g : ∀ g, rowOf A19_7 c19_7 = some g → ¬ F20_7 g := fun g hg hF => (g20_7 _ hF).elim (z56n g hg) (fun hz => by have := (o19_7.row hg).2; omega)
            refine W.any (.move rfl) rfl rfl rfl ?_
            refine W.any (.extract (v := .slice A20_7 (((addT s ((l.getD i noPAct).nm) ((l.getD i noPAct).part) ((l.getD i noPAct).ht)).2.1).length) c20_7) rfl rfl) rfl rfl rfl ?_
            refine W.any (.extract (v := .int .i64 ((addT s ((l.getD i noPAct).nm) ((l.getD i noPAct).part) ((l.getD i noPAct).ht)).2.2)) rfl rfl) rfl rfl rfl ?_
            refine W.any (.assign rfl) rfl rfl rfl ?_
            refine W.any (.assign rfl) rfl rfl rfl ?_
            refine W.nil ?_
            refine E.thenN ?_
            refine WC.region ?_
            refine W.any (.move rfl) rfl rfl rfl ?_
            refine W.any (.move rfl) rfl rfl rfl ?_
            refine W.any (.eql rfl rfl) rfl rfl rfl ?_
            refine W.any (.dec (.move rfl) (decide_eq_true rfl)) rfl rfl rfl ?_
            refine W.rdg (Any.rd (.move rfl) _) rfl rfl rfl (rfl) rfl rfl ?_
            refine W.rdg (Any.rd (.move rfl) _) rfl rfl rfl (rfl) rfl rfl ?_
            refine W.efg rfl rfl rfl (rfl) rfl rfl ?_
            refine Ef.call go21 rfl rfl (paidc_ok w20_7 z56.vec o20_7.vec (by have := add_out hgs (l.getD i noPAct).nm (l.getD i noPAct).part (l.getD i noPAct).ht; omega)) ?_
            rintro _ w21_6 ⟨rfl, h21_6⟩
            refine ⟨_, rfl, ?_⟩
            have L57 := L53.trans h21_6
            refine W.any (.pickT rfl rfl rfl) rfl rfl rfl ?_
            refine W.any (.assign rfl) rfl rfl rfl ?_
            refine W.nil ?_
            refine E.blkN ?_
            refine E.thenN ?_
            refine WC.seq ?_
            refine WC.region ?_
            have f58 := (z54.le h21_6)
            have hb1 : ((addT s ((l.getD i noPAct).nm) ((l.getD i noPAct).part) ((l.getD i noPAct).ht)).1).length ≤ 41 := (by first | omega | (refine Nat.le_trans (want_len _ _ _ _ _ _) ?_; omega) | (rw [add_len]; omega) | (rw [late_len]; omega))
            have hb2 := held_len f58.good (l.getD i noPAct).nm
            refine W.any (.move rfl) rfl rfl rfl ?_
            refine W.any (.field0 fa35_1 rfl) rfl rfl rfl ?_
            have f59 := (z55.le h21_6)
            refine W.rd (.loadB (v := .int .i64 ((l.getD i noPAct).nm)) na3 rfl f59 rfl) rfl rfl rfl ?_
            refine W.ef rfl rfl rfl ?_
            refine Ef.call go25 rfl rfl (over_pool ((l.getD i noPAct).nm) f58) ?_
            rintro _ w22_3_1 ⟨rfl, h22_3_1⟩
            refine ⟨_, rfl, ?_⟩
            have L60 := L57.trans h22_3_1
            refine W.any (.move rfl) rfl rfl rfl ?_
            refine W.any (.extract (v := .bool ((overP ((addT s ((l.getD i noPAct).nm) ((l.getD i noPAct).part) ((l.getD i noPAct).ht)).1) ((l.getD i noPAct).nm)).1)) rfl rfl) rfl rfl rfl ?_
            refine W.any (.extract (v := .bool ((overP ((addT s ((l.getD i noPAct).nm) ((l.getD i noPAct).part) ((l.getD i noPAct).ht)).1) ((l.getD i noPAct).nm)).2)) rfl rfl) rfl rfl rfl ?_
            refine W.any (.assign rfl) rfl rfl rfl ?_
            refine W.any (.assign rfl) rfl rfl rfl ?_
            refine W.nil ?_
            refine E.thenN ?_
            refine WC.seq ?_
            refine WC.region ?_
            refine W.any (.move rfl) rfl rfl rfl ?_
            refine W.any (.field0 fa35_1 rfl) rfl rfl rfl ?_
            have f61 := (f59.le h22_3_1)
            refine W.rd (.loadB (v := .int .i64 ((l.getD i noPAct).nm)) na3 rfl f61 rfl) rfl rfl rfl ?_
            have f62 := (p20_7.le (h21_6.trans h22_3_1))
            refine W.ef rfl rfl rfl ?_
            refine Ef.call go26 rfl rfl (rover_pool ((l.getD i noPAct).nm) f62 (by first | omega | (refine Nat.le_trans (want_len _ _ _ _ _ _) ?_; omega) | (rw [add_len]; omega) | (rw [late_len]; omega))) ?_
            rintro _ w23_3_1 ⟨rfl, h23_3_1⟩
            refine ⟨_, rfl, ?_⟩
            have L63 := L60.trans h23_3_1
            refine W.any (.move rfl) rfl rfl rfl ?_
            refine W.any (.extract (v := .bool ((overP ((addT s ((l.getD i noPAct).nm) ((l.getD i noPAct).part) ((l.getD i noPAct).ht)).1) ((l.getD i noPAct).nm)).1)) rfl rfl) rfl rfl rfl ?_
            refine W.any (.extract (v := .bool ((overP ((addT s ((l.getD i noPAct).nm) ((l.getD i noPAct).part) ((l.getD i noPAct).ht)).1) ((l.getD i noPAct).nm)).2)) rfl rfl) rfl rfl rfl ?_
            refine W.any (.assign rfl) rfl rfl rfl ?_
            refine W.any (.assign rfl) rfl rfl rfl ?_
            refine W.nil ?_
            refine E.thenN ?_
            refine WC.seq ?_
            refine WC.region ?_
            refine W.any (.move rfl) rfl rfl rfl ?_
            have f64 := (f58.le (h22_3_1.trans h23_3_1))
            refine W.ef rfl rfl rfl ?_
            refine Ef.call go27 rfl rfl (names_pool f64 (by first | omega | (refine Nat.le_trans (want_len _ _ _ _ _ _) ?_; omega) | (rw [add_len]; omega) | (rw [late_len]; omega))) ?_
            rintro _ w24_1_1 ⟨A24_1_1, c24_1_1, rfl, o24_1_1, h24_1_1⟩
            refine ⟨_, rfl, ?_⟩
            have L65 := L63.trans h24_1_1
            refine W.any (.assign rfl) rfl rfl rfl ?_
            refine W.nil ?_
            refine E.thenN ?_
            refine WC.seq ?_
            refine WC.region ?_
            refine W.any (.move rfl) rfl rfl rfl ?_
            have f66 := (f62.le (h23_3_1.trans h24_1_1))
            refine W.ef rfl rfl rfl ?_
            refine Ef.call go28 rfl rfl (rnames_pool f66 (by first | omega | (refine Nat.le_trans (want_len _ _ _ _ _ _) ?_; omega) | (rw [add_len]; omega) | (rw [late_len]; omega))) ?_
            rintro _ w25_1_1 ⟨A25_1_1, c25_1_1, rfl, o25_1_1, h25_1_1⟩
            refine ⟨_, rfl, ?_⟩
            have L67 := L65.trans h25_1_1
            refine W.any (.assign rfl) rfl rfl rfl ?_
            refine W.nil ?_
            refine E.thenN ?_
            refine WC.seq ?_
            refine WC.region ?_
            refine W.any (.move rfl) rfl rfl rfl ?_
            refine W.any (.field0 fa35_1 rfl) rfl rfl rfl ?_
            have f68 := (f61.le (h23_3_1.trans (h24_1_1.trans h25_1_1)))
            refine W.rd (.loadB (v := .int .i64 ((l.getD i noPAct).nm)) na3 rfl f68 rfl) rfl rfl rfl ?_
            have f69 := (f64.le (h24_1_1.trans h25_1_1))
            refine W.ef rfl rfl rfl ?_
            refine Ef.call go29 rfl rfl (held_pool ((l.getD i noPAct).nm) f69) ?_
            rintro _ w26_3_1 ⟨A26_3_1, c26_3_1, rfl, o26_3_1, h26_3_1⟩
            refine ⟨_, rfl, ?_⟩
            have L70 := L67.trans h26_3_1
            refine W.any (.assign rfl) rfl rfl rfl ?_
            refine W.nil ?_
            refine E.thenN ?_
            refine WC.seq ?_
            refine WC.seq ?_
            refine WC.region ?_
            refine W.any (.move rfl) rfl rfl rfl ?_
            refine W.any (.not rfl) rfl rfl rfl ?_
            refine W.any (.dec (.move rfl) (congrArg not (decide_eq_true rfl))) rfl rfl rfl ?_
            refine W.rdg (Any.rd (.move rfl) _) rfl rfl rfl (rfl) rfl rfl ?_
            refine W.rdg (Any.rd (.move rfl) _) rfl rfl rfl (rfl) rfl rfl ?_
            refine W.rdg (Any.rd (.bneq Try.underlying4 rfl rfl) _) rfl rfl rfl (rfl) rfl rfl ?_
            refine W.any (.pickF rfl rfl rfl) rfl rfl rfl ?_
            refine W.any (.dec (.move rfl) (show _ = false from by simp)) rfl rfl rfl ?_
            refine W.rdg (Any.rd (.move rfl) _) rfl rfl rfl (rfl) rfl rfl ?_
            refine W.rdg (Any.rd (.move rfl) _) rfl rfl rfl (rfl) rfl rfl ?_
            refine W.rdg (Any.rd (.bneq Try.underlying4 rfl rfl) _) rfl rfl rfl (rfl) rfl rfl ?_
            refine W.any (.pickF rfl rfl rfl) rfl rfl rfl ?_
            refine W.any (.dec (.move rfl) (show _ = false from by simp)) rfl rfl rfl ?_
            refine W.rdg (Any.rd (.move rfl) _) rfl rfl rfl (rfl) rfl rfl ?_
            refine W.rdg (.len Try.underlying53 rfl) rfl rfl rfl (rfl) rfl rfl ?_
            refine W.rdg (Any.rd (.move rfl) _) rfl rfl rfl (rfl) rfl rfl ?_
            refine W.rdg (.len Try.underlying53 rfl) rfl rfl rfl (rfl) rfl rfl ?_
            refine W.rdg (Any.rd (.neq rfl rfl) _) rfl rfl rfl (rfl) rfl rfl ?_
            refine W.any (.pickF rfl rfl rfl) rfl rfl rfl ?_
            refine W.any (.dec (.move rfl) (decide_eq_false (fun h => h rfl))) rfl rfl rfl ?_
            refine W.rdg (Any.rd (.move rfl) _) rfl rfl rfl (rfl) rfl rfl ?_
            refine W.rdg (Any.rd (.move rfl) _) rfl rfl rfl (rfl) rfl rfl ?_
            refine W.rdg (Any.rd (.field0 fa35_1 rfl) _) rfl rfl rfl (rfl) rfl rfl ?_
            have f71 := (f68.le h26_3_1)
            refine W.rdg (.loadB (v := .int .i64 ((l.getD i noPAct).nm)) na3 rfl f71 rfl) rfl rfl rfl (rfl) rfl rfl ?_
            have f72 := (f66.le (h25_1_1.trans h26_3_1))
            refine W.efg rfl rfl rfl (rfl) rfl rfl ?_
            refine Ef.call go30 rfl rfl (rheld_pool ((l.getD i noPAct).nm) f72 (by first | omega | (refine Nat.le_trans (want_len _ _ _ _ _ _) ?_; omega) | (rw [add_len]; omega) | (rw [late_len]; omega))) ?_
            rintro _ w27_24_1 ⟨A27_24_1, c27_24_1, rfl, o27_24_1, h27_24_1⟩
            refine ⟨_, rfl, ?_⟩
            have L73 := L70.trans h27_24_1
            have f74 := (o26_3_1.le h27_24_1)
            refine W.efg rfl rfl rfl (rfl) rfl rfl ?_
            refine Ef.call go23 rfl rfl (alikec_ok w27_24_1 f74.vec o27_24_1 (by omega)) ?_
            rintro _ w27_25_1 ⟨rfl, h27_25_1⟩
            refine ⟨_, rfl, ?_⟩
            have L75 := L73.trans h27_25_1
            refine W.rdg (Any.rd (.not rfl) _) rfl rfl rfl (rfl) rfl rfl ?_
            refine W.any (.pickF rfl rfl rfl) rfl rfl rfl ?_
            refine W.nil ?_
            refine E.thenN ?_
            refine WC.condN rfl (congrArg not (decide_eq_true (rfl))) ?_
            refine WC.skip ?_
            refine E.thenN ?_
            refine WC.seq ?_
            refine WC.seq ?_
            refine WC.region ?_
            refine W.any (.assign rfl) rfl rfl rfl ?_
            refine W.nil ?_
            refine E.thenN ?_
            refine WC.block ?_
            have f76 := (f69.le (h26_3_1.trans (h27_24_1.trans h27_25_1)))
            have f77 := (f72.le (h27_24_1.trans h27_25_1))
            have f78 := (o24_1_1.le (h25_1_1.trans (h26_3_1.trans (h27_24_1.trans h27_25_1))))
            have f79 := (o25_1_1.le (h26_3_1.trans (h27_24_1.trans h27_25_1)))
            have f80 := (f74.le h27_25_1)
            refine WC.loop (ι := Nat) (fun k => [(0, .slice Al nl cl), (3, .bool true), (4, .pointer (some ⟨gp4_0, 0, none⟩)), (5, .pointer (some ⟨gp5_0, 0, none⟩)), (6, .int .i64 (((i : Nat) : Int))), (18, .slice A24_1_1 (((addT s ((l.getD i noPAct).nm) ((l.getD i noPAct).part) ((l.getD i noPAct).ht)).1).length) c24_1_1), (19, .slice A25_1_1 (((addT s ((l.getD i noPAct).nm) ((l.getD i noPAct).part) ((l.getD i noPAct).ht)).1).length) c25_1_1), (20, .slice A26_3_1 ((heldP ((addT s ((l.getD i noPAct).nm) ((l.getD i noPAct).part) ((l.getD i noPAct).ht)).1) ((l.getD i noPAct).nm)).length) c26_3_1), (21, .int .i64 (((k : Nat) : Int)))]) (fun k wl1 => (k ≤ ((addT s ((l.getD i noPAct).nm) ((l.getD i noPAct).part) ((l.getD i noPAct).ht)).1).length) ∧ Le w wl1 ∧ w27_25_1.heap.size ≤ wl1.heap.size ∧ Pool wl1 w2_1.heap.size gp4_0 F19_7 ((addT s ((l.getD i noPAct).nm) ((l.getD i noPAct).part) ((l.getD i noPAct).ht)).1) ∧ RPool wl1 w4_0.heap.size gp5_0 F20_7 ((addT s ((l.getD i noPAct).nm) ((l.getD i noPAct).part) ((l.getD i noPAct).ht)).1) ∧ OVec wl1 w23_3_1.heap.size 3 iv 1 A24_1_1 (((addT s ((l.getD i noPAct).nm) ((l.getD i noPAct).part) ((l.getD i noPAct).ht)).1).length) c24_1_1 (((addT s ((l.getD i noPAct).nm) ((l.getD i noPAct).part) ((l.getD i noPAct).ht)).1).map (·.1)) ∧ OVec wl1 w24_1_1.heap.size 3 iv 1 A25_1_1 (((addT s ((l.getD i noPAct).nm) ((l.getD i noPAct).part) ((l.getD i noPAct).ht)).1).length) c25_1_1 (((addT s ((l.getD i noPAct).nm) ((l.getD i noPAct).part) ((l.getD i noPAct).ht)).1).map (·.1)) ∧ OVec wl1 w25_1_1.heap.size 33 partV 6 A26_3_1 ((heldP ((addT s ((l.getD i noPAct).nm) ((l.getD i noPAct).part) ((l.getD i noPAct).ht)).1) ((l.getD i noPAct).nm)).length) c26_3_1 (heldP ((addT s ((l.getD i noPAct).nm) ((l.getD i noPAct).part) ((l.getD i noPAct).ht)).1) ((l.getD i noPAct).nm))) (fun k => ((addT s ((l.getD i noPAct).nm) ((l.getD i noPAct).part) ((l.getD i noPAct).ht)).1).length - k) 0 ?_ ?_ ?_
            · exact .cons rfl (.cons rfl (.cons rfl (.cons rfl (.cons rfl (.cons rfl (.cons rfl (.cons rfl (.cons rfl (.nil _)))))))))
            · exact ⟨Nat.zero_le _, L75, Nat.le_refl _, f76, f77, f78, f79, f80⟩
            · rintro k wl1 ⟨hk, Ll1, sz1, f1_0, f1_1, f1_2, f1_3, f1_4⟩
              have lb1_11 : w23_3_1.heap.size ≤ wl1.heap.size := by have := h24_1_1.size; have := h25_1_1.size; have := h26_3_1.size; have := h27_24_1.size; have := h27_25_1.size; omega
              have lb1_12 : w24_1_1.heap.size ≤ wl1.heap.size := by have := h25_1_1.size; have := h26_3_1.size; have := h27_24_1.size; have := h27_25_1.size; omega
              have lb1_13 : w25_1_1.heap.size ≤ wl1.heap.size := by have := h26_3_1.size; have := h27_24_1.size; have := h27_25_1.size; omega
              refine WC.seq ?_
              refine WC.seq ?_
              refine WC.region ?_
              refine W.any (.move rfl) rfl rfl rfl ?_
              refine W.any (.move rfl) rfl rfl rfl ?_
              refine W.rd (.len Try.underlying53 rfl) rfl rfl rfl ?_
              refine W.any (.lss rfl rfl) rfl rfl rfl ?_
              refine W.nil ?_
              refine E.thenN ?_
              by_cases c6 : ((k : Nat) : Int) < ((((addT s ((l.getD i noPAct).nm) ((l.getD i noPAct).part) ((l.getD i noPAct).ht)).1).length : Nat) : Int)
              · refine WC.condY rfl (decide_eq_true c6) ?_
                refine WC.skip ?_
                refine E.thenN ?_
                refine WC.seq ?_
                refine WC.block ?_
                refine WC.seq ?_
                refine WC.draw [0, 1, 2, 3, 4, 5, 6, 7, 8] mixed (by kernel_rfl) ?_
                intro w32 d32
                have L81 := Ll1.trans d32
                refine G.any rfl rfl (.move rfl) rfl rfl rfl ?_
                refine G.any rfl rfl (.move rfl) rfl rfl rfl ?_
                refine G.any rfl rfl (.idxS (k) Try.underlying53 sz3 rfl rfl (o24_1_1.vec.isSome iv_row (by omega)) (rfl) (by omega)) rfl rfl rfl ?_
                have f82 := (f1_2.le d32)
                refine G.rd rfl rfl (.vone (v := .int .i64 (((((addT s ((l.getD i noPAct).nm) ((l.getD i noPAct).part) ((l.getD i noPAct).ht)).1).map (·.1)).getD k 0))) na3 rfl f82.vec iv_row (getS (((addT s ((l.getD i noPAct).nm) ((l.getD i noPAct).part) ((l.getD i noPAct).ht)).1).map (·.1)) 0 (by first | omega | (rw [List.length_map]; omega))) rfl) rfl rfl rfl ?_
                refine G.any rfl rfl (.move rfl) rfl rfl rfl ?_
                refine G.any rfl rfl (.move rfl) rfl rfl rfl ?_
                refine G.any rfl rfl (.idxS (k) Try.underlying53 sz3 rfl rfl (o25_1_1.vec.isSome iv_row (by omega)) (rfl) (by omega)) rfl rfl rfl ?_
                have f83 := (f1_3.le d32)
                refine G.rd rfl rfl (.vone (v := .int .i64 (((((addT s ((l.getD i noPAct).nm) ((l.getD i noPAct).part) ((l.getD i noPAct).ht)).1).map (·.1)).getD k 0))) na3 rfl f83.vec iv_row (getS (((addT s ((l.getD i noPAct).nm) ((l.getD i noPAct).part) ((l.getD i noPAct).ht)).1).map (·.1)) 0 (by first | omega | (rw [List.length_map]; omega))) rfl) rfl rfl rfl ?_
                refine G.any rfl rfl (.neq rfl rfl) rfl rfl rfl ?_
                refine G.nil ?_
                refine E.thenN ?_
                refine WC.condN rfl (decide_eq_false (fun h => h rfl)) ?_
                refine WC.skip ?_
                refine E.blkN ?_
                refine E.thenN ?_
                refine WC.region ?_
                refine W.any (.move rfl) rfl rfl rfl ?_
                refine W.any (.add rfl rfl (by omega)) rfl rfl rfl ?_
                refine W.any (.assign rfl) rfl rfl rfl ?_
                refine W.nil ?_
                have f84 := (f1_0.le d32)
                have f85 := (f1_1.le d32)
                have f86 := (f1_4.le d32)
                refine E.again (k + 1) (.cons rfl (.cons rfl (.cons rfl (.cons rfl (.cons rfl (.cons rfl (.cons rfl (.cons rfl (.cons rfl (.nil _)))))))))) ?_ ?_
                · exact ⟨by omega, L81, by have := sz1; have := d32.size; omega, f84, f85, f82, f83, f86⟩
                · first | omega | (simp only []; omega)
              · refine WC.condN rfl (decide_eq_false c6) ?_
                refine WC.exit ?_
                refine E.thenX ?_
                refine E.thenX ?_
                refine E.blkH ?_
                refine E.thenN ?_
                refine WC.seq ?_
                refine WC.region ?_
                refine W.any (.assign rfl) rfl rfl rfl ?_
                refine W.nil ?_
                refine E.thenN ?_
                refine WC.block ?_
                refine WC.loop (ι := Nat × (List Part)) (fun ⟨k, hx⟩ => [(0, .slice Al nl cl), (3, .bool true), (4, .pointer (some ⟨gp4_0, 0, none⟩)), (5, .pointer (some ⟨gp5_0, 0, none⟩)), (6, .int .i64 (((i : Nat) : Int))), (20, .slice A26_3_1 ((heldP ((addT s ((l.getD i noPAct).nm) ((l.getD i noPAct).part) ((l.getD i noPAct).ht)).1) ((l.getD i noPAct).nm)).length) c26_3_1), (22, .int .i64 (((k : Nat) : Int)))]) (fun ⟨k, hx⟩ wl2 => (k ≤ (heldP ((addT s ((l.getD i noPAct).nm) ((l.getD i noPAct).part) ((l.getD i noPAct).ht)).1) ((l.getD i noPAct).nm)).length) ∧ (hx.length = (heldP ((addT s ((l.getD i noPAct).nm) ((l.getD i noPAct).part) ((l.getD i noPAct).ht)).1) ((l.getD i noPAct).nm)).length) ∧ Le w wl2 ∧ wl1.heap.size ≤ wl2.heap.size ∧ Pool wl2 w2_1.heap.size gp4_0 F19_7 ((addT s ((l.getD i noPAct).nm) ((l.getD i noPAct).part) ((l.getD i noPAct).ht)).1) ∧ RPool wl2 w4_0.heap.size gp5_0 F20_7 ((addT s ((l.getD i noPAct).nm) ((l.getD i noPAct).part) ((l.getD i noPAct).ht)).1) ∧ OVec wl2 w25_1_1.heap.size 33 partV 6 A26_3_1 ((heldP ((addT s ((l.getD i noPAct).nm) ((l.getD i noPAct).part) ((l.getD i noPAct).ht)).1) ((l.getD i noPAct).nm)).length) c26_3_1 hx) (fun ⟨k, hx⟩ => (heldP ((addT s ((l.getD i noPAct).nm) ((l.getD i noPAct).part) ((l.getD i noPAct).ht)).1) ((l.getD i noPAct).nm)).length - k) (0, (heldP ((addT s ((l.getD i noPAct).nm) ((l.getD i noPAct).part) ((l.getD i noPAct).ht)).1) ((l.getD i noPAct).nm))) ?_ ?_ ?_
                · exact .cons rfl (.cons rfl (.cons rfl (.cons rfl (.cons rfl (.cons rfl (.cons rfl (.nil _)))))))
                · exact ⟨Nat.zero_le _, rfl, Ll1, Nat.le_refl _, f1_0, f1_1, f1_4⟩
                · rintro ⟨k, hx⟩ wl2 ⟨hk, hxl, Ll2, sz2, f2_0, f2_1, f2_2⟩
                  have lb2_13 : w25_1_1.heap.size ≤ wl2.heap.size := Nat.le_trans lb1_13 (by omega)
                  refine WC.seq ?_
                  refine WC.seq ?_
                  refine WC.region ?_
                  refine W.any (.move rfl) rfl rfl rfl ?_
                  refine W.any (.move rfl) rfl rfl rfl ?_
                  refine W.rd (.len Try.underlying46 rfl) rfl rfl rfl ?_
                  refine W.any (.lss rfl rfl) rfl rfl rfl ?_
                  refine W.nil ?_
                  refine E.thenN ?_
                  by_cases c8 : ((k : Nat) : Int) < (((heldP ((addT s ((l.getD i noPAct).nm) ((l.getD i noPAct).part) ((l.getD i noPAct).ht)).1) ((l.getD i noPAct).nm)).length : Nat) : Int)
                  · refine WC.condY rfl (decide_eq_true c8) ?_
                    refine WC.skip ?_
                    refine E.thenN ?_
                    refine WC.seq ?_
                    refine WC.block ?_
                    refine WC.region ?_
                    refine W.any (.move rfl) rfl rfl rfl ?_
                    refine W.any (.move rfl) rfl rfl rfl ?_
                    refine W.any (.idxS (k) Try.underlying46 sz33 rfl rfl (o26_3_1.vec.isSome partV_row (by omega)) (rfl) (by omega)) rfl rfl rfl ?_
                    refine W.any (.vfield fa33_2 (o26_3_1.vec.isSome partV_row (by omega)) rfl) rfl rfl rfl ?_
                    refine W.ef0 rfl rfl ?_
                    refine Ef.vset (j := k) (o := 2) ({ (hx.getD k noPart) with am := (-7) }) sz3 rfl (by omega) rfl f2_2 partV_row (getS hx noPart (by omega)) (by decide) rfl rfl ?_
                    intro w37_4_1 o37_4_1 h37_4_1
                    have L87 : Le w w37_4_1 := Ll2.then_ h37_4_1 (fun q hq => Nat.le_trans L67.size (f2_2.row hq).1)
                    refine W.nil ?_
                    refine E.blkN ?_
                    refine E.thenN ?_
                    refine WC.region ?_
                    refine W.any (.move rfl) rfl rfl rfl ?_
                    refine W.any (.add rfl rfl (by omega)) rfl rfl rfl ?_
                    refine W.any (.assign rfl) rfl rfl rfl ?_
                    refine W.nil ?_
                    have f88 := (f2_0.ch h37_4_1 (fun q hqq hF => by have := (f2_2.row hqq).1; have := f69.lt hF;  omega))
                    have f89 := (f2_1.ch h37_4_1 (fun q hqq hF => by have := (f2_2.row hqq).1; have := f66.lt hF; have := h25_1_1.size; omega))
                    refine E.again (k + 1, (hx.set k ({ (hx.getD k noPart) with am := (-7) }))) (.cons rfl (.cons rfl (.cons rfl (.cons rfl (.cons rfl (.cons rfl (.cons rfl (.nil _)))))))) ?_ ?_
                    · exact ⟨by omega, by rw [List.length_set]; omega, L87, by have := sz2; have := h37_4_1.size; omega, f88, f89, o37_4_1⟩
                    · first | omega | (simp only []; omega)
                  · refine WC.condN rfl (decide_eq_false c8) ?_
                    refine WC.exit ?_
                    refine E.thenX ?_
                    refine E.thenX ?_
                    refine E.blkH ?_
                    refine E.blkN ?_
                    refine E.thenN ?_
                    refine WC.region ?_
                    refine W.any (.move rfl) rfl rfl rfl ?_
                    refine W.any (.add rfl rfl (by omega)) rfl rfl rfl ?_
                    refine W.any (.assign rfl) rfl rfl rfl ?_
                    refine W.nil ?_
                    refine E.again (i + 1, F19_7, F20_7, (addT s ((l.getD i noPAct).nm) ((l.getD i noPAct).part) ((l.getD i noPAct).ht)).1) (.cons rfl (.cons rfl (.cons rfl (.cons rfl (.cons rfl (.nil _)))))) ?_ ?_
                    · exact ⟨by omega, (by first | omega | (refine Nat.le_trans (want_len _ _ _ _ _ _) ?_; omega) | (rw [add_len]; omega) | (rw [late_len]; omega)), Ll2, by have := sz0; have := sz1; have := sz2; have := h1_0.size; have := h2_1.size; have := h4_0.size; have := h5_0.size; have := h11_4.size; have := h11_5.size; have := h19_7.size; have := h20_7.size; have := h21_6.size; have := h22_3_1.size; have := h23_3_1.size; have := h24_1_1.size; have := h25_1_1.size; have := h26_3_1.size; have := h27_24_1.size; have := h27_25_1.size; omega, f2_0, f2_1, z54g⟩
                    · first | omega | (simp only []; omega)
          · refine WC.condN rfl (decide_eq_false c4) ?_
            refine WC.seq ?_
            refine WC.region ?_
            refine W.any (.move rfl) rfl rfl rfl ?_
            refine W.any (.field0 fa35_7 rfl) rfl rfl rfl ?_
            refine W.rd (.loadB (v := .int .i64 ((l.getD i noPAct).ht)) na3 rfl b11_5 rfl) rfl rfl rfl ?_
            refine W.ef rfl rfl rfl ?_
            refine Ef.call go22 rfl rfl (late_pool ((l.getD i noPAct).ht) f8 (by omega)) ?_
            rintro _ w14_3 ⟨F14_3, A14_3, c14_3, rfl, o14_3, p14_3, g14_3, n14_3, h14_3⟩
            refine ⟨_, rfl, ?_⟩
            have L90 := L7.chP_then h14_3 (fun i hi => Nat.le_trans L2.size (f8.old hi))
            have f91 := ((f0_1.le h11_4).ch h11_5 (fun q hqq hF => by cases hqq; have := f0_1.lt hF;  have := hg11_4; omega))
            have z92n := (show ∀ k, Fq k → ¬ F k from (fun k h1 h2 => pn0_0 k h2 h1))
            have z92 := f91.chP h14_3 z92n
            have z92g : ∀ k, Fq k → ¬ F14_3 k := fun k hk hF => (g14_3 _ hF).elim (z92n k hk) (fun hz => by have := f91.lt hk; omega)
            have z93n := (show ¬ F g11_4 from (fun hF => by have := f0_0.lt hF;  have := hg11_4; omega))
            have z93 := b11_5.chP h14_3 z93n
            have z93g : ¬ F14_3 g11_4 := fun hF => (g14_3 _ hF).elim z93n (fun hz => by have := b11_5.lt; omega)
            refine W.any (.assign rfl) rfl rfl rfl ?_
            refine W.nil ?_
            refine E.thenN ?_
            refine WC.region ?_
            refine W.any (.move rfl) rfl rfl rfl ?_
            refine W.any (.move rfl) rfl rfl rfl ?_
            refine W.any (.field0 fa35_7 rfl) rfl rfl rfl ?_
            refine W.rd (.loadB (v := .int .i64 ((l.getD i noPAct).ht)) na3 rfl z93 rfl) rfl rfl rfl ?_
            refine W.ef rfl rfl rfl ?_
            refine Ef.call go24 rfl rfl (rlate_pool ((l.getD i noPAct).ht) z92 (by first | omega | (refine Nat.le_trans (want_len _ _ _ _ _ _) ?_; omega) | (rw [add_len]; omega) | (rw [late_len]; omega))) ?_
            rintro _ w15_4 ⟨F15_4, A15_4, c15_4, rfl, o15_4, p15_4, g15_4, n15_4, h15_4⟩
            refine ⟨_, rfl, ?_⟩
            have L94 := L90.chP_then h15_4 (fun i hi => Nat.le_trans L3.size (z92.old hi))
            have z95n := (show ∀ k, F14_3 k → ¬ Fq k from (fun k h1 h2 => z92g k h2 h1))
            have z95 := p14_3.chP h15_4 z95n
            have z95g : ∀ k, F14_3 k → ¬ F15_4 k := fun k hk hF => (g15_4 _ hF).elim (z95n k hk) (fun hz => by have := p14_3.lt hk; omega)
            have z96n := (show ¬ Fq g11_4 from (fun hF => by have := f0_1.lt hF;  have := hg11_4; omega))
            have z96 := z93.chP h15_4 z96n
            have z96g : ¬ F15_4 g11_4 := fun hF => (g15_4 _ hF).elim z96n (fun hz => by have := z93.lt; omega)
            have z97n := (show ∀ g, rowOf A14_3 c14_3 = some g → ¬ Fq g from (fun g hg hF => by have := f91.lt hF;  have := (o14_3.row hg).1; omega))
            have z97 := o14_3.chP h15_4 z97n
            have z97g : ∀ g, rowOf A14_3 c14_3 = some g → ¬ F15_4 g := fun g hg hF => (g15_4 _ hF).elim (z97n g hg) (fun hz => by have := (o14_3.row hg).2; omega)
            refine W.ef rfl rfl rfl ?_
            refine Ef.call go23 rfl rfl (alikec_ok w15_4 z97.vec o15_4.vec (by have := late_out hgs (l.getD i noPAct).ht; omega)) ?_
            rintro _ w15_5 ⟨rfl, h15_5⟩
            refine ⟨_, rfl, ?_⟩
            have L98 := L94.trans h15_5
            refine W.any (.assign rfl) rfl rfl rfl ?_
            refine W.nil ?_
            refine E.blkN ?_
            refine E.thenN ?_
            refine WC.seq ?_
            refine WC.region ?_
            have f99 := (z95.le h15_5)
            have hb1 : ((lateS s ((l.getD i noPAct).ht)).1).length ≤ 41 := (by first | omega | (refine Nat.le_trans (want_len _ _ _ _ _ _) ?_; omega) | (rw [add_len]; omega) | (rw [late_len]; omega))
            have hb2 := held_len f99.good (l.getD i noPAct).nm
            refine W.any (.move rfl) rfl rfl rfl ?_
            refine W.any (.field0 fa35_1 rfl) rfl rfl rfl ?_
            have f100 := (z96.le h15_5)
            refine W.rd (.loadB (v := .int .i64 ((l.getD i noPAct).nm)) na3 rfl f100 rfl) rfl rfl rfl ?_
            refine W.ef rfl rfl rfl ?_
            refine Ef.call go25 rfl rfl (over_pool ((l.getD i noPAct).nm) f99) ?_
            rintro _ w22_3_2 ⟨rfl, h22_3_2⟩
            refine ⟨_, rfl, ?_⟩
            have L101 := L98.trans h22_3_2
            refine W.any (.move rfl) rfl rfl rfl ?_
            refine W.any (.extract (v := .bool ((overP ((lateS s ((l.getD i noPAct).ht)).1) ((l.getD i noPAct).nm)).1)) rfl rfl) rfl rfl rfl ?_
            refine W.any (.extract (v := .bool ((overP ((lateS s ((l.getD i noPAct).ht)).1) ((l.getD i noPAct).nm)).2)) rfl rfl) rfl rfl rfl ?_
            refine W.any (.assign rfl) rfl rfl rfl ?_
            refine W.any (.assign rfl) rfl rfl rfl ?_
            refine W.nil ?_
            refine E.thenN ?_
            refine WC.seq ?_
            refine WC.region ?_
            refine W.any (.move rfl) rfl rfl rfl ?_
            refine W.any (.field0 fa35_1 rfl) rfl rfl rfl ?_
            have f102 := (f100.le h22_3_2)
            refine W.rd (.loadB (v := .int .i64 ((l.getD i noPAct).nm)) na3 rfl f102 rfl) rfl rfl rfl ?_
            have f103 := (p15_4.le (h15_5.trans h22_3_2))
            refine W.ef rfl rfl rfl ?_
            refine Ef.call go26 rfl rfl (rover_pool ((l.getD i noPAct).nm) f103 (by first | omega | (refine Nat.le_trans (want_len _ _ _ _ _ _) ?_; omega) | (rw [add_len]; omega) | (rw [late_len]; omega))) ?_
            rintro _ w23_3_2 ⟨rfl, h23_3_2⟩
            refine ⟨_, rfl, ?_⟩
            have L104 := L101.trans h23_3_2
            refine W.any (.move rfl) rfl rfl rfl ?_
            refine W.any (.extract (v := .bool ((overP ((lateS s ((l.getD i noPAct).ht)).1) ((l.getD i noPAct).nm)).1)) rfl rfl) rfl rfl rfl ?_
            refine W.any (.extract (v := .bool ((overP ((lateS s ((l.getD i noPAct).ht)).1) ((l.getD i noPAct).nm)).2)) rfl rfl) rfl rfl rfl ?_
            refine W.any (.assign rfl) rfl rfl rfl ?_
            refine W.any (.assign rfl) rfl rfl rfl ?_
            refine W.nil ?_
            refine E.thenN ?_
            refine WC.seq ?_
            refine WC.region ?_
            refine W.any (.move rfl) rfl rfl rfl ?_
            have f105 := (f99.le (h22_3_2.trans h23_3_2))
            refine W.ef rfl rfl rfl ?_
            refine Ef.call go27 rfl rfl (names_pool f105 (by first | omega | (refine Nat.le_trans (want_len _ _ _ _ _ _) ?_; omega) | (rw [add_len]; omega) | (rw [late_len]; omega))) ?_
            rintro _ w24_1_2 ⟨A24_1_2, c24_1_2, rfl, o24_1_2, h24_1_2⟩
            refine ⟨_, rfl, ?_⟩
            have L106 := L104.trans h24_1_2
            refine W.any (.assign rfl) rfl rfl rfl ?_
            refine W.nil ?_
            refine E.thenN ?_
            refine WC.seq ?_
            refine WC.region ?_
            refine W.any (.move rfl) rfl rfl rfl ?_
            have f107 := (f103.le (h23_3_2.trans h24_1_2))
            refine W.ef rfl rfl rfl ?_
            refine Ef.call go28 rfl rfl (rnames_pool f107 (by first | omega | (refine Nat.le_trans (want_len _ _ _ _ _ _) ?_; omega) | (rw [add_len]; omega) | (rw [late_len]; omega))) ?_
            rintro _ w25_1_2 ⟨A25_1_2, c25_1_2, rfl, o25_1_2, h25_1_2⟩
            refine ⟨_, rfl, ?_⟩
            have L108 := L106.trans h25_1_2
            refine W.any (.assign rfl) rfl rfl rfl ?_
            refine W.nil ?_
            refine E.thenN ?_
            refine WC.seq ?_
            refine WC.region ?_
            refine W.any (.move rfl) rfl rfl rfl ?_
            refine W.any (.field0 fa35_1 rfl) rfl rfl rfl ?_
            have f109 := (f102.le (h23_3_2.trans (h24_1_2.trans h25_1_2)))
            refine W.rd (.loadB (v := .int .i64 ((l.getD i noPAct).nm)) na3 rfl f109 rfl) rfl rfl rfl ?_
            have f110 := (f105.le (h24_1_2.trans h25_1_2))
            refine W.ef rfl rfl rfl ?_
            refine Ef.call go29 rfl rfl (held_pool ((l.getD i noPAct).nm) f110) ?_
            rintro _ w26_3_2 ⟨A26_3_2, c26_3_2, rfl, o26_3_2, h26_3_2⟩
            refine ⟨_, rfl, ?_⟩
            have L111 := L108.trans h26_3_2
            refine W.any (.assign rfl) rfl rfl rfl ?_
            refine W.nil ?_
            refine E.thenN ?_
            refine WC.seq ?_
            refine WC.seq ?_
            refine WC.region ?_
            refine W.any (.move rfl) rfl rfl rfl ?_
            refine W.any (.not rfl) rfl rfl rfl ?_
            refine W.any (.dec (.move rfl) (congrArg not (decide_eq_true rfl))) rfl rfl rfl ?_
            refine W.rdg (Any.rd (.move rfl) _) rfl rfl rfl (rfl) rfl rfl ?_
            refine W.rdg (Any.rd (.move rfl) _) rfl rfl rfl (rfl) rfl rfl ?_
            refine W.rdg (Any.rd (.bneq Try.underlying4 rfl rfl) _) rfl rfl rfl (rfl) rfl rfl ?_
            refine W.any (.pickF rfl rfl rfl) rfl rfl rfl ?_
            refine W.any (.dec (.move rfl) (show _ = false from by simp)) rfl rfl rfl ?_
            refine W.rdg (Any.rd (.move rfl) _) rfl rfl rfl (rfl) rfl rfl ?_
            refine W.rdg (Any.rd (.move rfl) _) rfl rfl rfl (rfl) rfl rfl ?_
            refine W.rdg (Any.rd (.bneq Try.underlying4 rfl rfl) _) rfl rfl rfl (rfl) rfl rfl ?_
            refine W.any (.pickF rfl rfl rfl) rfl rfl rfl ?_
            refine W.any (.dec (.move rfl) (show _ = false from by simp)) rfl rfl rfl ?_
            refine W.rdg (Any.rd (.move rfl) _) rfl rfl rfl (rfl) rfl rfl ?_
            refine W.rdg (.len Try.underlying53 rfl) rfl rfl rfl (rfl) rfl rfl ?_
            refine W.rdg (Any.rd (.move rfl) _) rfl rfl rfl (rfl) rfl rfl ?_
            refine W.rdg (.len Try.underlying53 rfl) rfl rfl rfl (rfl) rfl rfl ?_
            refine W.rdg (Any.rd (.neq rfl rfl) _) rfl rfl rfl (rfl) rfl rfl ?_
            refine W.any (.pickF rfl rfl rfl) rfl rfl rfl ?_
            refine W.any (.dec (.move rfl) (decide_eq_false (fun h => h rfl))) rfl rfl rfl ?_
            refine W.rdg (Any.rd (.move rfl) _) rfl rfl rfl (rfl) rfl rfl ?_
            refine W.rdg (Any.rd (.move rfl) _) rfl rfl rfl (rfl) rfl rfl ?_
            refine W.rdg (Any.rd (.field0 fa35_1 rfl) _) rfl rfl rfl (rfl) rfl rfl ?_
            have f112 := (f109.le h26_3_2)
            refine W.rdg (.loadB (v := .int .i64 ((l.getD i noPAct).nm)) na3 rfl f112 rfl) rfl rfl rfl (rfl) rfl rfl ?_
            have f113 := (f107.le (h25_1_2.trans h26_3_2))
            refine W.efg rfl rfl rfl (rfl) rfl rfl ?_
            refine Ef.call go30 rfl rfl (rheld_pool ((l.getD i noPAct).nm) f113 (by first | omega | (refine Nat.le_trans (want_len _ _ _ _ _ _) ?_; omega) | (rw [add_len]; omega) | (rw [late_len]; omega))) ?_
            rintro _ w27_24_2 ⟨A27_24_2, c27_24_2, rfl, o27_24_2, h27_24_2⟩
            refine ⟨_, rfl, ?_⟩
            have L114 := L111.trans h27_24_2
            have f115 := (o26_3_2.le h27_24_2)
            refine W.efg rfl rfl rfl (rfl) rfl rfl ?_
            refine Ef.call go23 rfl rfl (alikec_ok w27_24_2 f115.vec o27_24_2 (by omega)) ?_
            rintro _ w27_25_2 ⟨rfl, h27_25_2⟩
            refine ⟨_, rfl, ?_⟩
            have L116 := L114.trans h27_25_2
            refine W.rdg (Any.rd (.not rfl) _) rfl rfl rfl (rfl) rfl rfl ?_
            refine W.any (.pickF rfl rfl rfl) rfl rfl rfl ?_
            refine W.nil ?_
            refine E.thenN ?_
            refine WC.condN rfl (congrArg not (decide_eq_true (rfl))) ?_
            refine WC.skip ?_
            refine E.thenN ?_
            refine WC.seq ?_
            refine WC.seq ?_
            refine WC.region ?_
            refine W.any (.assign rfl) rfl rfl rfl ?_
            refine W.nil ?_
            refine E.thenN ?_
            refine WC.block ?_
            have f117 := (f110.le (h26_3_2.trans (h27_24_2.trans h27_25_2)))
            have f118 := (f113.le (h27_24_2.trans h27_25_2))
            have f119 := (o24_1_2.le (h25_1_2.trans (h26_3_2.trans (h27_24_2.trans h27_25_2))))
            have f120 := (o25_1_2.le (h26_3_2.trans (h27_24_2.trans h27_25_2)))
            have f121 := (f115.le h27_25_2)
            refine WC.loop (ι := Nat) (fun k => [(0, .slice Al nl cl), (3, .bool true), (4, .pointer (some ⟨gp4_0, 0, none⟩)), (5, .pointer (some ⟨gp5_0, 0, none⟩)), (6, .int .i64 (((i : Nat) : Int))), (18, .slice A24_1_2 (((lateS s ((l.getD i noPAct).ht)).1).length) c24_1_2), (19, .slice A25_1_2 (((lateS s ((l.getD i noPAct).ht)).1).length) c25_1_2), (20, .slice A26_3_2 ((heldP ((lateS s ((l.getD i noPAct).ht)).1) ((l.getD i noPAct).nm)).length) c26_3_2), (21, .int .i64 (((k : Nat) : Int)))]) (fun k wl1 => (k ≤ ((lateS s ((l.getD i noPAct).ht)).1).length) ∧ Le w wl1 ∧ w27_25_2.heap.size ≤ wl1.heap.size ∧ Pool wl1 w2_1.heap.size gp4_0 F14_3 ((lateS s ((l.getD i noPAct).ht)).1) ∧ RPool wl1 w4_0.heap.size gp5_0 F15_4 ((lateS s ((l.getD i noPAct).ht)).1) ∧ OVec wl1 w23_3_2.heap.size 3 iv 1 A24_1_2 (((lateS s ((l.getD i noPAct).ht)).1).length) c24_1_2 (((lateS s ((l.getD i noPAct).ht)).1).map (·.1)) ∧ OVec wl1 w24_1_2.heap.size 3 iv 1 A25_1_2 (((lateS s ((l.getD i noPAct).ht)).1).length) c25_1_2 (((lateS s ((l.getD i noPAct).ht)).1).map (·.1)) ∧ OVec wl1 w25_1_2.heap.size 33 partV 6 A26_3_2 ((heldP ((lateS s ((l.getD i noPAct).ht)).1) ((l.getD i noPAct).nm)).length) c26_3_2 (heldP ((lateS s ((l.getD i noPAct).ht)).1) ((l.getD i noPAct).nm))) (fun k => ((lateS s ((l.getD i noPAct).ht)).1).length - k) 0 ?_ ?_ ?_
            · exact .cons rfl (.cons rfl (.cons rfl (.cons rfl (.cons rfl (.cons rfl (.cons rfl (.cons rfl (.cons rfl (.nil _)))))))))
            · exact ⟨Nat.zero_le _, L116, Nat.le_refl _, f117, f118, f119, f120, f121⟩
            · rintro k wl1 ⟨hk, Ll1, sz1, f1_0, f1_1, f1_2, f1_3, f1_4⟩
              have lb1_17 : w23_3_2.heap.size ≤ wl1.heap.size := by have := h24_1_2.size; have := h25_1_2.size; have := h26_3_2.size; have := h27_24_2.size; have := h27_25_2.size; omega
              have lb1_18 : w24_1_2.heap.size ≤ wl1.heap.size := by have := h25_1_2.size; have := h26_3_2.size; have := h27_24_2.size; have := h27_25_2.size; omega
              have lb1_19 : w25_1_2.heap.size ≤ wl1.heap.size := by have := h26_3_2.size; have := h27_24_2.size; have := h27_25_2.size; omega
              refine WC.seq ?_
              refine WC.seq ?_
              refine WC.region ?_
              refine W.any (.move rfl) rfl rfl rfl ?_
              refine W.any (.move rfl) rfl rfl rfl ?_
              refine W.rd (.len Try.underlying53 rfl) rfl rfl rfl ?_
              refine W.any (.lss rfl rfl) rfl rfl rfl ?_
              refine W.nil ?_
              refine E.thenN ?_
              by_cases c6 : ((k : Nat) : Int) < ((((lateS s ((l.getD i noPAct).ht)).1).length : Nat) : Int)
              · refine WC.condY rfl (decide_eq_true c6) ?_
                refine WC.skip ?_
                refine E.thenN ?_
                refine WC.seq ?_
                refine WC.block ?_
                refine WC.seq ?_
                refine WC.draw [0, 1, 2, 3, 4, 5, 6, 7, 8] mixed (by kernel_rfl) ?_
                intro w32 d32
                have L122 := Ll1.trans d32
                refine G.any rfl rfl (.move rfl) rfl rfl rfl ?_
                refine G.any rfl rfl (.move rfl) rfl rfl rfl ?_
                refine G.any rfl rfl (.idxS (k) Try.underlying53 sz3 rfl rfl (o24_1_2.vec.isSome iv_row (by omega)) (rfl) (by omega)) rfl rfl rfl ?_
                have f123 := (f1_2.le d32)
                refine G.rd rfl rfl (.vone (v := .int .i64 (((((lateS s ((l.getD i noPAct).ht)).1).map (·.1)).getD k 0))) na3 rfl f123.vec iv_row (getS (((lateS s ((l.getD i noPAct).ht)).1).map (·.1)) 0 (by first | omega | (rw [List.length_map]; omega))) rfl) rfl rfl rfl ?_
                refine G.any rfl rfl (.move rfl) rfl rfl rfl ?_
                refine G.any rfl rfl (.move rfl) rfl rfl rfl ?_
                refine G.any rfl rfl (.idxS (k) Try.underlying53 sz3 rfl rfl (o25_1_2.vec.isSome iv_row (by omega)) (rfl) (by omega)) rfl rfl rfl ?_
                have f124 := (f1_3.le d32)
                refine G.rd rfl rfl (.vone (v := .int .i64 (((((lateS s ((l.getD i noPAct).ht)).1).map (·.1)).getD k 0))) na3 rfl f124.vec iv_row (getS (((lateS s ((l.getD i noPAct).ht)).1).map (·.1)) 0 (by first | omega | (rw [List.length_map]; omega))) rfl) rfl rfl rfl ?_
                refine G.any rfl rfl (.neq rfl rfl) rfl rfl rfl ?_
                refine G.nil ?_
                refine E.thenN ?_
                refine WC.condN rfl (decide_eq_false (fun h => h rfl)) ?_
                refine WC.skip ?_
                refine E.blkN ?_
                refine E.thenN ?_
                refine WC.region ?_
                refine W.any (.move rfl) rfl rfl rfl ?_
                refine W.any (.add rfl rfl (by omega)) rfl rfl rfl ?_
                refine W.any (.assign rfl) rfl rfl rfl ?_
                refine W.nil ?_
                have f125 := (f1_0.le d32)
                have f126 := (f1_1.le d32)
                have f127 := (f1_4.le d32)
                refine E.again (k + 1) (.cons rfl (.cons rfl (.cons rfl (.cons rfl (.cons rfl (.cons rfl (.cons rfl (.cons rfl (.cons rfl (.nil _)))))))))) ?_ ?_
                · exact ⟨by omega, L122, by have := sz1; have := d32.size; omega, f125, f126, f123, f124, f127⟩
                · first | omega | (simp only []; omega)
              · refine WC.condN rfl (decide_eq_false c6) ?_
                refine WC.exit ?_
                refine E.thenX ?_
                refine E.thenX ?_
                refine E.blkH ?_
                refine E.thenN ?_
                refine WC.seq ?_
                refine WC.region ?_
                refine W.any (.assign rfl) rfl rfl rfl ?_
                refine W.nil ?_
                refine E.thenN ?_
                refine WC.block ?_
                refine WC.loop (ι := Nat × (List Part)) (fun ⟨k, hx⟩ => [(0, .slice Al nl cl), (3, .bool true), (4, .pointer (some ⟨gp4_0, 0, none⟩)), (5, .pointer (some ⟨gp5_0, 0, none⟩)), (6, .int .i64 (((i : Nat) : Int))), (20, .slice A26_3_2 ((heldP ((lateS s ((l.getD i noPAct).ht)).1) ((l.getD i noPAct).nm)).length) c26_3_2), (22, .int .i64 (((k : Nat) : Int)))]) (fun ⟨k, hx⟩ wl2 => (k ≤ (heldP ((lateS s ((l.getD i noPAct).ht)).1) ((l.getD i noPAct).nm)).length) ∧ (hx.length = (heldP ((lateS s ((l.getD i noPAct).ht)).1) ((l.getD i noPAct).nm)).length) ∧ Le w wl2 ∧ wl1.heap.size ≤ wl2.heap.size ∧ Pool wl2 w2_1.heap.size gp4_0 F14_3 ((lateS s ((l.getD i noPAct).ht)).1) ∧ RPool wl2 w4_0.heap.size gp5_0 F15_4 ((lateS s ((l.getD i noPAct).ht)).1) ∧ OVec wl2 w25_1_2.heap.size 33 partV 6 A26_3_2 ((heldP ((lateS s ((l.getD i noPAct).ht)).1) ((l.getD i noPAct).nm)).length) c26_3_2 hx) (fun ⟨k, hx⟩ => (heldP ((lateS s ((l.getD i noPAct).ht)).1) ((l.getD i noPAct).nm)).length - k) (0, (heldP ((lateS s ((l.getD i noPAct).ht)).1) ((l.getD i noPAct).nm))) ?_ ?_ ?_
                · exact .cons rfl (.cons rfl (.cons rfl (.cons rfl (.cons rfl (.cons rfl (.cons rfl (.nil _)))))))
                · exact ⟨Nat.zero_le _, rfl, Ll1, Nat.le_refl _, f1_0, f1_1, f1_4⟩
                · rintro ⟨k, hx⟩ wl2 ⟨hk, hxl, Ll2, sz2, f2_0, f2_1, f2_2⟩
                  have lb2_19 : w25_1_2.heap.size ≤ wl2.heap.size := Nat.le_trans lb1_19 (by omega)
                  refine WC.seq ?_
                  refine WC.seq ?_
                  refine WC.region ?_
                  refine W.any (.move rfl) rfl rfl rfl ?_
                  refine W.any (.move rfl) rfl rfl rfl ?_
                  refine W.rd (.len Try.underlying46 rfl) rfl rfl rfl ?_
                  refine W.any (.lss rfl rfl) rfl rfl rfl ?_
                  refine W.nil ?_
                  refine E.thenN ?_
                  by_cases c8 : ((k : Nat) : Int) < (((heldP ((lateS s ((l.getD i noPAct).ht)).1) ((l.getD i noPAct).nm)).length : Nat) : Int)
                  · refine WC.condY rfl (decide_eq_true c8) ?_
                    refine WC.skip ?_
                    refine E.thenN ?_
                    refine WC.seq ?_
                    refine WC.block ?_
                    refine WC.region ?_
                    refine W.any (.move rfl) rfl rfl rfl ?_
                    refine W.any (.move rfl) rfl rfl rfl ?_
                    refine W.any (.idxS (k) Try.underlying46 sz33 rfl rfl (o26_3_2.vec.isSome partV_row (by omega)) (rfl) (by omega)) rfl rfl rfl ?_
                    refine W.any (.vfield fa33_2 (o26_3_2.vec.isSome partV_row (by omega)) rfl) rfl rfl rfl ?_
                    refine W.ef0 rfl rfl ?_
                    refine Ef.vset (j := k) (o := 2) ({ (hx.getD k noPart) with am := (-7) }) sz3 rfl (by omega) rfl f2_2 partV_row (getS hx noPart (by omega)) (by decide) rfl rfl ?_
                    intro w37_4_2 o37_4_2 h37_4_2
                    have L128 : Le w w37_4_2 := Ll2.then_ h37_4_2 (fun q hq => Nat.le_trans L108.size (f2_2.row hq).1)
                    refine W.nil ?_
                    refine E.blkN ?_
                    refine E.thenN ?_
                    refine WC.region ?_
                    refine W.any (.move rfl) rfl rfl rfl ?_
                    refine W.any (.add rfl rfl (by omega)) rfl rfl rfl ?_
                    refine W.any (.assign rfl) rfl rfl rfl ?_
                    refine W.nil ?_
                    have f129 := (f2_0.ch h37_4_2 (fun q hqq hF => by have := (f2_2.row hqq).1; have := f110.lt hF;  omega))
                    have f130 := (f2_1.ch h37_4_2 (fun q hqq hF => by have := (f2_2.row hqq).1; have := f107.lt hF; have := h25_1_2.size; omega))
                    refine E.again (k + 1, (hx.set k ({ (hx.getD k noPart) with am := (-7) }))) (.cons rfl (.cons rfl (.cons rfl (.cons rfl (.cons rfl (.cons rfl (.cons rfl (.nil _)))))))) ?_ ?_
                    · exact ⟨by omega, by rw [List.length_set]; omega, L128, by have := sz2; have := h37_4_2.size; omega, f129, f130, o37_4_2⟩
                    · first | omega | (simp only []; omega)
                  · refine WC.condN rfl (decide_eq_false c8) ?_
                    refine WC.exit ?_
                    refine E.thenX ?_
                    refine E.thenX ?_
                    refine E.blkH ?_
                    refine E.blkN ?_
                    refine E.thenN ?_
                    refine WC.region ?_
                    refine W.any (.move rfl) rfl rfl rfl ?_
                    refine W.any (.add rfl rfl (by omega)) rfl rfl rfl ?_
                    refine W.any (.assign rfl) rfl rfl rfl ?_
                    refine W.nil ?_
                    refine E.again (i + 1, F14_3, F15_4, (lateS s ((l.getD i noPAct).ht)).1) (.cons rfl (.cons rfl (.cons rfl (.cons rfl (.cons rfl (.nil _)))))) ?_ ?_
                    · exact ⟨by omega, (by first | omega | (refine Nat.le_trans (want_len _ _ _ _ _ _) ?_; omega) | (rw [add_len]; omega) | (rw [late_len]; omega)), Ll2, by have := sz0; have := sz1; have := sz2; have := h1_0.size; have := h2_1.size; have := h4_0.size; have := h5_0.size; have := h11_4.size; have := h11_5.size; have := h14_3.size; have := h15_4.size; have := h15_5.size; have := h22_3_2.size; have := h23_3_2.size; have := h24_1_2.size; have := h25_1_2.size; have := h26_3_2.size; have := h27_24_2.size; have := h27_25_2.size; omega, f2_0, f2_1, z95g⟩
                    · first | omega | (simp only []; omega)
      · refine WC.condN rfl (decide_eq_false c2) ?_
        refine WC.exit ?_
        refine E.thenX ?_
        refine E.thenX ?_
        refine E.blkH ?_
        refine E.thenN ?_
        refine WC.seq ?_
        refine WC.region ?_
        refine W.any (.move rfl) rfl rfl rfl ?_
        refine W.any (.assign rfl) rfl rfl rfl ?_
        refine W.nil ?_
        refine E.thenN ?_
        refine WC.ret ?_
        refine E.retG1 rfl rfl ?_
        exact ⟨rfl, Ll0⟩
  · refine WC.condY rfl (congrArg not (decide_eq_false c0)) ?_
    refine WC.seq ?_
    refine WC.region ?_
    refine W.any (.move rfl) rfl rfl rfl ?_
    refine W.any (.assign rfl) rfl rfl rfl ?_
    refine W.nil ?_
    refine E.thenN ?_
    refine WC.ret ?_
    refine E.thenR ?_
    refine E.retG1 rfl rfl ?_
    exact ⟨rfl, L2⟩
end Go.Proofs.Ytfgakofjkldcjaa

