/- PartsPeeled: for every input the law answers true and leaves its arguments as they were. -/
import Derived.Test.YtfgakofjkldcjaaPartsPeeledM
import Derived.OrdersHeld
import Derived.WalkKit
import Derived.Deep.AppendSrc
import Derived.Deep.MidRow
import Derived.Laws.OwnMore
import Derived.WalkSpells
import Derived.Lib.ConvBytes
import Derived.Lib.AppendZerosOnto
import Derived.Laws.StructEq
import Derived.Maps.RangeRun
import Derived.Laws.Pointers
import Derived.Test.YtfgakofjkldcjaaProg
import Derived.KernelRfl
import Derived.Lib.Mul64
import Derived.Shelf.SlIterI.Nil
import Derived.Shelf.SortM.Plain
import Derived.Shelf.SortM.SortNone
import Derived.Ground.GgzProg
import Derived.Ground.SlgmProg
import Derived.RangeFuncNested
import Derived.RangeFuncBound
import Derived.RangeFuncCalls
import Derived.RangeFuncLeaves
import Derived.OrdersIn
import Derived.ProofKit
import Derived.OpenShut
import Derived.ShutString
import Derived.ChangeOld
import Derived.Below
import Derived.Deep.Slices
namespace Go.Sx
open Go Go.ChangeShapes Go.WideShapes Go.Deep
set_option linter.unusedVariables false
variable {H : Type} {enc : TypeId × Value → H} {P : Program} {w : World} {base : Nat} {spare : Nat → Bool} {held : Bool}

theorem flatten_get {α : Type} {k : Nat} {f : α → List Value} : ∀ (qs : List α), (∀ q ∈ qs, (f q).length = k) → ∀ (j : Nat) (u : Value), ((qs.map f).flatten)[j]? = some u → 0 < k ∧ ∃ q, qs[j / k]? = some q ∧ (f q)[j % k]? = some u
  | [], _, j, u, h => by simp at h
  | q :: qs, hk, j, u, h => by
    have hq := hk q (by simp)
    simp only [List.map_cons, List.flatten_cons] at h
    by_cases hj : j < k
    · rw [List.getElem?_append_left (by omega)] at h
      exact ⟨by omega, q, by simp [Nat.div_eq_of_lt hj], by rw [Nat.mod_eq_of_lt hj]; exact h⟩
    · rw [List.getElem?_append_right (by omega), hq] at h
      obtain ⟨hp, r, h1, h2⟩ := flatten_get qs (fun q hq => hk q (by simp [hq])) (j - k) u h
      have hd : j / k = (j - k) / k + 1 := by rw [Nat.div_eq_sub_div hp (by omega)]
      have hm : j % k = (j - k) % k := Nat.mod_eq_sub_mod (by omega)
      exact ⟨hp, r, by rw [hd]; simpa using h1, by rw [hm]; exact h2⟩
theorem flatten_length {α : Type} {k : Nat} {f : α → List Value} : ∀ (qs : List α), (∀ q ∈ qs, (f q).length = k) → ((qs.map f).flatten).length = qs.length * k
  | [], _ => by simp
  | q :: qs, hk => by
    have := flatten_length qs (fun q hq => hk q (by simp [hq]))
    simp only [List.map_cons, List.flatten_cons, List.length_append, List.length_cons, this, hk q (by simp)]
    rw [Nat.add_mul, Nat.one_mul, Nat.add_comm]

/-- A slice of rows opened: what is known of one row is known of all. -/
theorem open_rows {α : Type} [Inhabited α] {f : α → List Value} {good : α → Prop} {t e : TypeId} {k : Nat} {r : Reach} {b0 : Nat} {v : Value} {d : DataW H} {ps : List MemPlace}
    (ht : P.underlying t = some (.slice e)) (hc : P.cellsOf e = k) (hp : ∀ fuel cs x, DataW.trod enc P w base spare held fuel e cs = some x → ∃ q, cs = f q ∧ good q)
    (hval : Value.okWide P w r b0 t v) (hd : DataW.Trod enc P w base spare held t v d ps) :
    ∃ (A : Option Addr) (n c : Nat) (qs : List α), v = .slice A n c ∧ qs.length = n ∧ (∀ q ∈ qs, good q ∧ (f q).length = k) ∧ Sl w k A n (qs.map f).flatten ∧ n ≤ c ∧ c ≤ maxLen := by
  obtain ⟨A, n, c, rfl⟩ := okWide_slice ht hval
  obtain ⟨fuel, hf⟩ := hd
  rcases open_slice ht hf with ⟨hcs, _⟩ | ⟨a, len, cap, m, n', D, Pl, hcs, hb, hl, hm, hmm, hx, hi⟩
  · simp [Value.cells] at hcs
    obtain ⟨rfl, rfl, rfl⟩ := hcs
    exact ⟨none, 0, 0, [], rfl, rfl, fun q hq => by simp at hq, ⟨by simp, fun j u h => by simp at h⟩, Nat.le_refl _, Nat.zero_le _⟩
  · simp [Value.cells] at hcs
    obtain ⟨rfl, rfl, rfl⟩ := hcs
    have hlm : n ≤ m := by rw [hmm]; split <;> omega
    obtain ⟨Q, hQ⟩ := choose_lt (α := α) (p := fun i q => w.cells? base (a.add (i * k)) k = some (f q) ∧ good q) (n := m) (fun i hi' => by
      obtain ⟨cs', h1, h2⟩ := hi i hi'
      obtain ⟨q, rfl, hg⟩ := hp _ _ _ h2
      rw [hc] at h1
      exact ⟨q, h1, hg⟩)
    have hall : ∀ q ∈ (List.range n).map Q, good q ∧ (f q).length = k := by
      intro q hq
      obtain ⟨i, hi', rfl⟩ := List.mem_map.1 hq
      have hin : i < n := List.mem_range.1 hi'
      obtain ⟨h1, h2⟩ := hQ i (by omega)
      exact ⟨h2, (World.cells?_some h1).2.1⟩
    refine ⟨some a, n, c, (List.range n).map Q, rfl, by simp, hall, ⟨?_, ?_⟩, hl, hm⟩
    · rw [flatten_length _ (fun q hq => (hall q hq).2)]; simp
    · intro j u hu
      obtain ⟨hk0, q, h1, h2⟩ := flatten_get (k := k) _ (fun q hq => (hall q hq).2) j u hu
      have hjn : j / k < n := by
        have := (List.getElem?_eq_some_iff.1 h1).1
        simpa using this
      rw [List.getElem?_map, List.getElem?_range hjn] at h1
      simp at h1
      subst h1
      obtain ⟨g1, _⟩ := hQ (j / k) (by omega)
      obtain ⟨_, hlen, hcell⟩ := World.cells?_some g1
      refine ⟨a, rfl, ?_⟩
      have := hcell (j % k) (Nat.mod_lt _ hk0)
      rw [h2, add_add, show j / k * k + j % k = j by rw [Nat.mul_comm]; exact Nat.div_add_mod j k] at this
      exact this

theorem u8_of {n : Int} (h : (Lit.int .u8 n).wf = true) : Value.int .u8 n = u8v (BitVec.ofInt 8 n) := by
  have := bounds_u8 h
  unfold u8v
  rw [BitVec.toNat_ofInt]
  congr 1
  omega
theorem read_u8 {e : TypeId} (he : P.underlying e = some (.int .u8)) : ∀ fuel cs x, DataW.trod enc P w base spare held fuel e cs = some x → ∃ q : BitVec 8, cs = [u8v q] ∧ True := by
  intro fuel cs x h
  obtain ⟨n, rfl, _, hw⟩ := DataW.trod_int he h
  exact ⟨_, by rw [u8_of hw], trivial⟩
theorem flat1 {α β : Type} (f : α → β) (l : List α) : (l.map fun q => [f q]).flatten = l.map f := by
  induction l with
  | nil => rfl
  | cons a l ih => simp [ih]
/-- An array of bytes read. -/
theorem read_bytes {t e : TypeId} {k : Nat} (ht : P.underlying t = some (.array k e)) (he : P.underlying e = some (.int .u8)) (hc : P.cellsOf e = 1) (hct : P.cellsOf t = k) :
    ∀ fuel cs x, DataW.trod enc P w base spare held fuel t cs = some x → ∃ q : List (BitVec 8), cs = q.map u8v ∧ q.length = k := by
  intro fuel cs x h
  obtain ⟨xs, m, rfl, _, hl, hxl, hi⟩ := DataW.trod_array ht h
  rw [hct] at hl
  obtain ⟨Q, hQ⟩ := choose_lt (α := BitVec 8) (p := fun i q => cs[i]? = some (u8v q)) (n := k) (fun i hi' => by
    have := hi i hi'
    rw [List.getElem?_eq_getElem (by omega)] at this
    obtain ⟨q, hq, _⟩ := read_u8 he _ _ _ this
    rw [hc, Nat.mul_one] at hq
    refine ⟨q, ?_⟩
    have h0 : ((cs.drop i).take 1)[0]? = cs[i]? := by simp [List.getElem?_drop]
    rw [← h0, hq]; rfl)
  refine ⟨(List.range k).map Q, ?_, by simp⟩
  apply List.ext_getElem?
  intro i
  by_cases hik : i < k
  · rw [hQ i hik]; simp [hik]
  · rw [List.getElem?_eq_none (by omega), List.getElem?_eq_none (by simp; omega)]
theorem okWide_array {t e : TypeId} {k : Nat} {r : Reach} {b0 : Nat} {v : Value} (ht : P.underlying t = some (.array k e)) (h : Value.okWide P w r b0 t v) : ∃ cs : Array Value, v = .agg cs := by
  simp only [Value.okWide, ht] at h
  obtain ⟨cs, h1, _⟩ := h
  exact ⟨cs, h1⟩
/-- An array of bytes opened. -/
theorem open_bytes {t e : TypeId} {k : Nat} {r : Reach} {b0 : Nat} {v : Value} {d : DataW H} {ps : List MemPlace} (ht : P.underlying t = some (.array k e)) (he : P.underlying e = some (.int .u8)) (hc : P.cellsOf e = 1) (hct : P.cellsOf t = k)
    (hval : Value.okWide P w r b0 t v) (hd : DataW.Trod enc P w base spare held t v d ps) : ∃ key : List (BitVec 8), v = .agg (key.map u8v).toArray ∧ key.length = k := by
  obtain ⟨cs, rfl⟩ := okWide_array ht hval
  obtain ⟨fuel, hf⟩ := hd
  obtain ⟨q, hq, hl⟩ := read_bytes ht he hc hct _ _ _ hf
  refine ⟨q, ?_, hl⟩
  simp only [Value.cells] at hq
  rw [← hq]
end Go.Sx

namespace Go.Sx
open Go Go.ChangeShapes Go.WideShapes Go.Deep
set_option linter.unusedVariables false
variable {H : Type} {enc : TypeId × Value → H} {P : Program} {w : World} {base : Nat} {spare : Nat → Bool} {held : Bool}
theorem read_u64 {e : TypeId} (he : P.underlying e = some (.int .u64)) : ∀ fuel cs x, DataW.trod enc P w base spare held fuel e cs = some x → ∃ q : Nat, cs = [.int .u64 ((q : Nat) : Int)] ∧ q < 18446744073709551616 := by
  intro fuel cs x h
  obtain ⟨n, rfl, _, hw⟩ := DataW.trod_int he h
  have := bounds_u64 hw
  exact ⟨n.toNat, by rw [show ((n.toNat : Nat) : Int) = n by omega], by omega⟩
theorem open_us {t e : TypeId} {r : Reach} {b0 : Nat} {v : Value} {d : DataW H} {ps : List MemPlace} (ht : P.underlying t = some (.slice e)) (he : P.underlying e = some (.int .u64)) (hc : P.cellsOf e = 1)
    (hval : Value.okWide P w r b0 t v) (hd : DataW.Trod enc P w base spare held t v d ps) : ∃ A n c, ∃ xs : List Nat, v = .slice A n c ∧ (Sl w 1 A n (xs.map fun q => .int .u64 ((q : Nat) : Int)) ∧ ∀ q ∈ xs, q < 18446744073709551616) ∧ n ≤ c ∧ c ≤ 9223372036854775807 := by
  obtain ⟨A, n, c, qs, rfl, h1, h2, h3, h4, h5⟩ := open_rows (α := Nat) (f := fun q => [.int .u64 ((q : Nat) : Int)]) ht hc (read_u64 he) hval hd
  rw [flat1] at h3
  exact ⟨A, n, c, qs, rfl, ⟨h3, fun q hq => (h2 q hq).1⟩, h4, by unfold maxLen at h5; omega⟩
theorem open_u64 {t : TypeId} {r : Reach} {b0 : Nat} {v : Value} {d : DataW H} {ps : List MemPlace} (ht : P.underlying t = some (.int .u64)) (hval : Value.okWide P w r b0 t v) (hd : DataW.Trod enc P w base spare held t v d ps) : ∃ q : Nat, v = .int .u64 ((q : Nat) : Int) ∧ q < 18446744073709551616 := by
  obtain ⟨a, rfl, rfl, rfl, s⟩ := open_int ht hval hd
  have := bounds_u64 s
  exact ⟨a.toNat, by rw [show ((a.toNat : Nat) : Int) = a by omega], by omega⟩
end Go.Sx

namespace Go.Sx
open Go Go.ChangeShapes Go.WideShapes Go.Deep
set_option linter.unusedVariables false
set_option linter.unusedSimpArgs false
variable {H : Type} {enc : TypeId × Value → H} {P : Program} {w : World} {base : Nat} {spare : Nat → Bool} {held : Bool}
def I64b (n : Int) : Prop := -9223372036854775808 ≤ n ∧ n ≤ 9223372036854775807
theorem cut1 {α : Type} (cs : List α) (o s : Nat) : cs.drop o = (cs.drop o).take s ++ cs.drop (o + s) := by
  rw [← List.drop_drop]
  exact (List.take_append_drop s (cs.drop o)).symm
theorem read_i64 {e : TypeId} (he : P.underlying e = some (.int .i64)) : ∀ fuel cs x, DataW.trod enc P w base spare held fuel e cs = some x → ∃ q : Int, cs = [.int .i64 q] ∧ I64b q := by
  intro fuel cs x h
  obtain ⟨n, rfl, _, hw⟩ := DataW.trod_int he h
  exact ⟨n, rfl, bounds_i64 hw⟩
/-- A slice of any rows, as a vector. -/
theorem open_vec {α : Type} [Inhabited α] {f : α → List Value} {good : α → Prop} {t e : TypeId} {k : Nat} {r : Reach} {b0 : Nat} {v : Value} {d : DataW H} {ps : List MemPlace} (ht : P.underlying t = some (.slice e)) (hc : P.cellsOf e = k) (hp : ∀ fuel cs x, DataW.trod enc P w base spare held fuel e cs = some x → ∃ q, cs = f q ∧ good q)
    (hval : Value.okWide P w r b0 t v) (hd : DataW.Trod enc P w base spare held t v d ps) : ∃ A n c, ∃ xs : List α, v = .slice A n c ∧ (Vec w f k A n xs ∧ ∀ h ∈ xs, good h) ∧ n ≤ c ∧ c ≤ 9223372036854775807 := by
  obtain ⟨A, n, c, qs, rfl, h1, h2, h3, h4, h5⟩ := open_rows (α := α) (f := f) (good := good) ht hc hp hval hd
  exact ⟨A, n, c, qs, rfl, ⟨⟨h1, h3⟩, fun q hq => (h2 q hq).1⟩, h4, by unfold maxLen at h5; omega⟩
end Go.Sx

namespace Go.Proofs.Ytfgakofjkldcjaa
open Go Go.Sx Go.Osp Go.Gsp Go.ChangeShapes Go.WideShapes Go.Deep
set_option linter.unusedVariables false
set_option linter.unusedSimpArgs false
set_option maxRecDepth 20000
variable {H : Type} {enc : TypeId × Value → H} {w : World} {base : Nat} {spare : Nat → Bool} {held : Bool}
theorem open_ints {r : Reach} {b0 : Nat} {v : Value} {d : DataW H} {ps : List MemPlace} (hval : Value.okWide Try.prog w r b0 53 v) (hd : DataW.Trod enc Try.prog w base spare held 53 v d ps) : ∃ A n c, ∃ xs : List Int, v = .slice A n c ∧ (Vec w iv 1 A n xs ∧ ∀ h ∈ xs, I64b h) ∧ n ≤ c ∧ c ≤ 9223372036854775807 := open_vec Try.underlying53 (show Try.prog.cellsOf 3 = 1 by kernel_rfl) (read_i64 Try.underlying3) hval hd
instance : Inhabited Part := ⟨noPart⟩
instance : Inhabited PAct := ⟨noPAct⟩
end Go.Proofs.Ytfgakofjkldcjaa

namespace Go.Proofs.Ytfgakofjkldcjaa
open Go Go.Sx Go.Hsp Go.Num Go.Osp Go.Gsp
set_option maxRecDepth 20000
set_option linter.unusedSimpArgs false
set_option linter.unusedVariables false
theorem peel_sum_len (k : Nat) (p : List Byte) : (peelB k p).2.2.1.length = 32 := by
  rcases peel_cases k p with ⟨e, he, _⟩ | ⟨_, _, _, _, _, _, he⟩
  · rw [he]; rfl
  · rw [he]; exact sharedB_length _
def byteV (b : BitVec 8) : List Value := [u8v b]
theorem byte_flat (l : List (BitVec 8)) : (l.map byteV).flatten = l.map u8v := by
  induction l with
  | nil => rfl
  | cons a l ih => simp [byteV, ih]
theorem byte_ovec {w : World} {base e : Nat} {A : Option Addr} {n c : Nat} {xs : List (BitVec 8)} (h : Sx.Own w base e 1 A n c (xs.map u8v)) : OVec w base e byteV 1 A n c xs := ⟨by have := h.1; simpa using this, by rw [byte_flat]; exact h⟩
theorem byte_sb {w : World} {A : Option Addr} {n : Nat} {xs : List (BitVec 8)} (h : Vec w byteV 1 A n xs) : Sb w A n xs := by
  have := h.2
  rw [byte_flat] at this
  exact this
theorem pv1_sl {w : World} {A : Option Addr} {n : Nat} {xs : List Nat} (h : Vec w pv1 1 A n xs) : Sl w 1 A n (xs.map pv) := by
  have := h.2
  have e : ∀ l : List Nat, (l.map pv1).flatten = l.map pv := by
    intro l
    induction l with
    | nil => rfl
    | cons a l ih => simp [pv1, ih]
  rw [e] at this
  exact this
theorem pv1_vec {w : World} {A : Option Addr} {n : Nat} {xs : List Nat} (h : Sl w 1 A n (xs.map fun q => .int .u64 ((q : Nat) : Int))) : Vec w pv1 1 A n xs := by
  have e : ∀ l : List Nat, (l.map pv1).flatten = l.map fun q => .int .u64 ((q : Nat) : Int) := by
    intro l
    induction l with
    | nil => rfl
    | cons a l ih => simp [pv1, pv, ih]
  exact ⟨by have := h.1; simpa using this, by rw [e]; exact h⟩
/-- One hop's packet is made. -/
theorem wrap_one {seed : List Byte} (hse : seed.length = 32) {key : Nat} {h : Hop} {A Ah : Option Addr} {c ch : Nat} (w : World) (hK : Vec w pv1 1 A 1 [base key]) (hH : Vec w hopV 6 Ah 1 [h]) (ho : HopOk h) (hok : (keysOk [base key] && hopsOk [base key] [h]) = true) :
    Calls Try.prog 56 #[.slice A 1 c, .slice Ah 1 ch, .agg (seed.map u8v).toArray] w fun e w' => ∃ A' c', e = .returned (.tuple #[.slice A' 680 c', .int .i64 0]) ∧ OVec w' w.heap.size 5 byteV 1 A' 680 c' (wrapB [base key] [h] seed) ∧ 680 ≤ c' ∧ Le w w' := by
  refine Calls.mono (wrap_ok seed hse w (pv1_sl hK) (by simpa using base_lt key) (by omega) (hH.rws hopV_row) (by simpa using ho) (by omega)) ?_
  rintro e w' ⟨hL, ⟨h1, A', c', rfl, hO⟩ | ⟨h1, rfl⟩⟩
  · refine ⟨A', c', rfl, byte_ovec hO, ?_, hL⟩
    rcases hO.2 with ⟨h2, _⟩ | ⟨g, cur, _, _, _, h2, _⟩
    · omega
    · exact h2
  · rw [h1] at hok; cases hok
theorem peel_one {key : Nat} (hk : key < 18446744073709551616) {p : List Byte} {h : Hop} {sum : List Byte} {A : Option Addr} {c : Nat} (w : World) (hS : Vec w byteV 1 A 680 p) (hc : 680 ≤ c) (he : peelB key p = (h, [], sum, 0)) :
    Calls Try.prog 57 #[.int .u64 ((key : Nat) : Int), .slice A 680 c] w fun e w' => ∃ A' m c', e = .returned (.tuple #[.agg (hopV h).toArray, .slice A' m c', .agg (sum.map u8v).toArray, .int .i64 0]) ∧ Le w w' := by
  refine Calls.mono (peel_ok key hk w (byte_sb hS) hc) ?_
  rintro e w' ⟨A', m, c', rfl, _, hL⟩
  rw [he]
  exact ⟨A', m, c', rfl, hL⟩
theorem partsPeeled_ok {Ab Aa : Option Addr} {nb cb na ca : Nat} {bl : List Nat} {am : List Int} {seed : List Byte} (sec key : Nat) (w : World) (hkey : key < 18446744073709551616) (hb : Vec w pv1 1 Ab nb bl) (ha : Vec w iv 1 Aa na am) (hse : seed.length = 32) : Calls Try.prog 12 #[.int .u64 (((sec : Nat) : Int)), .int .u64 (((key : Nat) : Int)), .slice Ab nb cb, .slice Aa na ca, .agg (seed.map u8v).toArray] w fun r w' => r = .returned (.bool true) ∧ Le w w' := by
  have hbn := hb.1
  have han := ha.1
  have hq : q = 2305843009213688669 := rfl
  refine enter Try.func12 rfl rfl ?_
  have L0 := Le.refl w
  refine WC.seq ?_
  refine WC.region ?_
  refine W.ef rfl rfl rfl ?_
  refine Ef.boxA rfl ?_
  intro g0_0 w0_0 hg0_0 b0_0 h0_0
  have L1 := L0.trans h0_0
  have b0_0 : Blk w0_0 g0_0 89 (seed.map u8v).toArray := b0_0
  refine W.any (.assign rfl) rfl rfl rfl ?_
  refine W.nil ?_
  refine E.thenN ?_
  refine WC.seq ?_
  refine WC.region ?_
  refine W.ef rfl rfl rfl ?_
  refine Ef.call go13 rfl rfl (small34_ok w0_0) ?_
  rintro _ w1_0 ⟨rfl, h1_0⟩
  refine ⟨_, rfl, ?_⟩
  have L2 := L1.trans h1_0
  refine W.any (.assign rfl) rfl rfl rfl ?_
  refine W.nil ?_
  refine E.thenN ?_
  refine WC.seq ?_
  refine WC.region ?_
  refine W.ef rfl rfl rfl ?_
  refine Ef.call go15 rfl rfl (new_pool w1_0) ?_
  rintro _ w2_0 ⟨gp2_0, F2_0, rfl, p2_0, h2_0⟩
  refine ⟨_, rfl, ?_⟩
  have L3 := L2.trans h2_0
  refine W.any (.assign rfl) rfl rfl rfl ?_
  refine W.nil ?_
  refine E.thenN ?_
  refine WC.seq ?_
  refine WC.seq ?_
  refine WC.region ?_
  refine W.any (.move rfl) rfl rfl rfl ?_
  refine W.any (.dec (.isNilP (by kernel_rfl) rfl) rfl) rfl rfl rfl ?_
  refine W.any (.move rfl) rfl rfl rfl ?_
  refine W.rdg (Any.rd (.move rfl) _) rfl rfl rfl (rfl) rfl rfl ?_
  refine W.rdg (.len Try.underlying61 rfl) rfl rfl rfl (rfl) rfl rfl ?_
  refine W.rdg (Any.rd (.lss rfl rfl) _) rfl rfl rfl (rfl) rfl rfl ?_
  refine W.any (.pickF rfl rfl rfl) rfl rfl rfl ?_
  by_cases q3_7 : ((nb : Nat) : Int) < 1
  · refine W.any (.dec (.move rfl) (decide_eq_true q3_7)) rfl rfl rfl ?_
    refine W.skip rfl rfl rfl (rfl) rfl rfl ?_
    refine W.skip rfl rfl rfl (rfl) rfl rfl ?_
    refine W.skip rfl rfl rfl (rfl) rfl rfl ?_
    refine W.any (.pickT rfl rfl rfl) rfl rfl rfl ?_
    refine W.any (.move rfl) rfl rfl rfl ?_
    refine W.skip rfl rfl rfl (rfl) rfl rfl ?_
    refine W.skip rfl rfl rfl (rfl) rfl rfl ?_
    refine W.skip rfl rfl rfl (rfl) rfl rfl ?_
    refine W.skip rfl rfl rfl (rfl) rfl rfl ?_
    refine W.skip rfl rfl rfl (rfl) rfl rfl ?_
    refine W.any (.pickT rfl rfl rfl) rfl rfl rfl ?_
    refine W.any (.move rfl) rfl rfl rfl ?_
    refine W.skip rfl rfl rfl (rfl) rfl rfl ?_
    refine W.skip rfl rfl rfl (rfl) rfl rfl ?_
    refine W.any (.pickT rfl rfl rfl) rfl rfl rfl ?_
    refine W.any (.move rfl) rfl rfl rfl ?_
    refine W.skip rfl rfl rfl (rfl) rfl rfl ?_
    refine W.skip rfl rfl rfl (rfl) rfl rfl ?_
    refine W.any (.pickT rfl rfl rfl) rfl rfl rfl ?_
    refine W.any (.move rfl) rfl rfl rfl ?_
    refine W.skip rfl rfl rfl (rfl) rfl rfl ?_
    refine W.skip rfl rfl rfl (rfl) rfl rfl ?_
    refine W.any (.pickT rfl rfl rfl) rfl rfl rfl ?_
    refine W.any (.move rfl) rfl rfl rfl ?_
    refine W.skip rfl rfl rfl (rfl) rfl rfl ?_
    refine W.skip rfl rfl rfl (rfl) rfl rfl ?_
    refine W.any (.pickT rfl rfl rfl) rfl rfl rfl ?_
    refine W.nil ?_
    refine E.thenN ?_
    refine WC.condT rfl ?_
    refine WC.seq ?_
    refine WC.region ?_
    refine W.any (.move rfl) rfl rfl rfl ?_
    refine W.any (.move rfl) rfl rfl rfl ?_
    refine W.rdg (Any.rd (.move rfl) _) rfl rfl rfl (rfl) rfl rfl ?_
    refine W.rdg (Any.rd (.dec (.notNilP (by kernel_rfl) rfl) rfl) _) rfl rfl rfl (rfl) rfl rfl ?_
    refine W.any (.pickT rfl rfl rfl) rfl rfl rfl ?_
    refine W.any (.assign rfl) rfl rfl rfl ?_
    refine W.nil ?_
    refine E.thenN ?_
    refine WC.ret ?_
    refine E.thenR ?_
    refine E.retG1 rfl rfl ?_
    exact ⟨rfl, L3⟩
  · refine W.any (.dec (.move rfl) (decide_eq_false q3_7)) rfl rfl rfl ?_
    refine W.rdg (Any.rd (.move rfl) _) rfl rfl rfl (rfl) rfl rfl ?_
    refine W.rdg (.len Try.underlying61 rfl) rfl rfl rfl (rfl) rfl rfl ?_
    refine W.rdg (Any.rd (.gtr rfl rfl) _) rfl rfl rfl (rfl) rfl rfl ?_
    refine W.any (.pickF rfl rfl rfl) rfl rfl rfl ?_
    by_cases q3_12 : 8 < ((nb : Nat) : Int)
    · refine W.any (.dec (.move rfl) (decide_eq_true q3_12)) rfl rfl rfl ?_
      refine W.skip rfl rfl rfl (rfl) rfl rfl ?_
      refine W.skip rfl rfl rfl (rfl) rfl rfl ?_
      refine W.skip rfl rfl rfl (rfl) rfl rfl ?_
      refine W.skip rfl rfl rfl (rfl) rfl rfl ?_
      refine W.skip rfl rfl rfl (rfl) rfl rfl ?_
      refine W.any (.pickT rfl rfl rfl) rfl rfl rfl ?_
      refine W.any (.move rfl) rfl rfl rfl ?_
      refine W.skip rfl rfl rfl (rfl) rfl rfl ?_
      refine W.skip rfl rfl rfl (rfl) rfl rfl ?_
      refine W.any (.pickT rfl rfl rfl) rfl rfl rfl ?_
      refine W.any (.move rfl) rfl rfl rfl ?_
      refine W.skip rfl rfl rfl (rfl) rfl rfl ?_
      refine W.skip rfl rfl rfl (rfl) rfl rfl ?_
      refine W.any (.pickT rfl rfl rfl) rfl rfl rfl ?_
      refine W.any (.move rfl) rfl rfl rfl ?_
      refine W.skip rfl rfl rfl (rfl) rfl rfl ?_
      refine W.skip rfl rfl rfl (rfl) rfl rfl ?_
      refine W.any (.pickT rfl rfl rfl) rfl rfl rfl ?_
      refine W.any (.move rfl) rfl rfl rfl ?_
      refine W.skip rfl rfl rfl (rfl) rfl rfl ?_
      refine W.skip rfl rfl rfl (rfl) rfl rfl ?_
      refine W.any (.pickT rfl rfl rfl) rfl rfl rfl ?_
      refine W.nil ?_
      refine E.thenN ?_
      refine WC.condT rfl ?_
      refine WC.seq ?_
      refine WC.region ?_
      refine W.any (.move rfl) rfl rfl rfl ?_
      refine W.any (.move rfl) rfl rfl rfl ?_
      refine W.rdg (Any.rd (.move rfl) _) rfl rfl rfl (rfl) rfl rfl ?_
      refine W.rdg (Any.rd (.dec (.notNilP (by kernel_rfl) rfl) rfl) _) rfl rfl rfl (rfl) rfl rfl ?_
      refine W.any (.pickT rfl rfl rfl) rfl rfl rfl ?_
      refine W.any (.assign rfl) rfl rfl rfl ?_
      refine W.nil ?_
      refine E.thenN ?_
      refine WC.ret ?_
      refine E.thenR ?_
      refine E.retG1 rfl rfl ?_
      exact ⟨rfl, L3⟩
    · refine W.any (.dec (.move rfl) (decide_eq_false q3_12)) rfl rfl rfl ?_
      refine W.rdg (Any.rd (.move rfl) _) rfl rfl rfl (rfl) rfl rfl ?_
      refine W.rdg (.len Try.underlying53 rfl) rfl rfl rfl (rfl) rfl rfl ?_
      refine W.rdg (Any.rd (.move rfl) _) rfl rfl rfl (rfl) rfl rfl ?_
      refine W.rdg (.len Try.underlying61 rfl) rfl rfl rfl (rfl) rfl rfl ?_
      refine W.rdg (Any.rd (.lss rfl rfl) _) rfl rfl rfl (rfl) rfl rfl ?_
      refine W.any (.pickF rfl rfl rfl) rfl rfl rfl ?_
      by_cases q3_19 : ((na : Nat) : Int) < ((nb : Nat) : Int)
      · refine W.any (.dec (.move rfl) (decide_eq_true q3_19)) rfl rfl rfl ?_
        refine W.skip rfl rfl rfl (rfl) rfl rfl ?_
        refine W.skip rfl rfl rfl (rfl) rfl rfl ?_
        refine W.any (.pickT rfl rfl rfl) rfl rfl rfl ?_
        refine W.any (.move rfl) rfl rfl rfl ?_
        refine W.skip rfl rfl rfl (rfl) rfl rfl ?_
        refine W.skip rfl rfl rfl (rfl) rfl rfl ?_
        refine W.any (.pickT rfl rfl rfl) rfl rfl rfl ?_
        refine W.any (.move rfl) rfl rfl rfl ?_
        refine W.skip rfl rfl rfl (rfl) rfl rfl ?_
        refine W.skip rfl rfl rfl (rfl) rfl rfl ?_
        refine W.any (.pickT rfl rfl rfl) rfl rfl rfl ?_
        refine W.any (.move rfl) rfl rfl rfl ?_
        refine W.skip rfl rfl rfl (rfl) rfl rfl ?_
        refine W.skip rfl rfl rfl (rfl) rfl rfl ?_
        refine W.any (.pickT rfl rfl rfl) rfl rfl rfl ?_
        refine W.nil ?_
        refine E.thenN ?_
        refine WC.condT rfl ?_
        refine WC.seq ?_
        refine WC.region ?_
        refine W.any (.move rfl) rfl rfl rfl ?_
        refine W.any (.move rfl) rfl rfl rfl ?_
        refine W.rdg (Any.rd (.move rfl) _) rfl rfl rfl (rfl) rfl rfl ?_
        refine W.rdg (Any.rd (.dec (.notNilP (by kernel_rfl) rfl) rfl) _) rfl rfl rfl (rfl) rfl rfl ?_
        refine W.any (.pickT rfl rfl rfl) rfl rfl rfl ?_
        refine W.any (.assign rfl) rfl rfl rfl ?_
        refine W.nil ?_
        refine E.thenN ?_
        refine WC.ret ?_
        refine E.thenR ?_
        refine E.retG1 rfl rfl ?_
        exact ⟨rfl, L3⟩
      · refine W.any (.dec (.move rfl) (decide_eq_false q3_19)) rfl rfl rfl ?_
        refine W.rdg (Any.rd (.move rfl) _) rfl rfl rfl (rfl) rfl rfl ?_
        refine W.rdg (Any.rd (.eql rfl rfl) _) rfl rfl rfl (rfl) rfl rfl ?_
        refine W.any (.pickF rfl rfl rfl) rfl rfl rfl ?_
        by_cases q3_23 : ((key : Nat) : Int) = 0
        · refine W.any (.dec (.move rfl) (decide_eq_true q3_23)) rfl rfl rfl ?_
          refine W.skip rfl rfl rfl (rfl) rfl rfl ?_
          refine W.skip rfl rfl rfl (rfl) rfl rfl ?_
          refine W.any (.pickT rfl rfl rfl) rfl rfl rfl ?_
          refine W.any (.move rfl) rfl rfl rfl ?_
          refine W.skip rfl rfl rfl (rfl) rfl rfl ?_
          refine W.skip rfl rfl rfl (rfl) rfl rfl ?_
          refine W.any (.pickT rfl rfl rfl) rfl rfl rfl ?_
          refine W.any (.move rfl) rfl rfl rfl ?_
          refine W.skip rfl rfl rfl (rfl) rfl rfl ?_
          refine W.skip rfl rfl rfl (rfl) rfl rfl ?_
          refine W.any (.pickT rfl rfl rfl) rfl rfl rfl ?_
          refine W.nil ?_
          refine E.thenN ?_
          refine WC.condT rfl ?_
          refine WC.seq ?_
          refine WC.region ?_
          refine W.any (.move rfl) rfl rfl rfl ?_
          refine W.any (.move rfl) rfl rfl rfl ?_
          refine W.rdg (Any.rd (.move rfl) _) rfl rfl rfl (rfl) rfl rfl ?_
          refine W.rdg (Any.rd (.dec (.notNilP (by kernel_rfl) rfl) rfl) _) rfl rfl rfl (rfl) rfl rfl ?_
          refine W.any (.pickT rfl rfl rfl) rfl rfl rfl ?_
          refine W.any (.assign rfl) rfl rfl rfl ?_
          refine W.nil ?_
          refine E.thenN ?_
          refine WC.ret ?_
          refine E.thenR ?_
          refine E.retG1 rfl rfl ?_
          exact ⟨rfl, L3⟩
        · refine W.any (.dec (.move rfl) (decide_eq_false q3_23)) rfl rfl rfl ?_
          refine W.rdg (Any.rd (.move rfl) _) rfl rfl rfl (rfl) rfl rfl ?_
          refine W.rdg (Any.rd (.geq rfl rfl) _) rfl rfl rfl (rfl) rfl rfl ?_
          refine W.any (.pickF rfl rfl rfl) rfl rfl rfl ?_
          by_cases q3_27 : 2305843009213688669 ≤ ((key : Nat) : Int)
          · refine W.any (.dec (.move rfl) (decide_eq_true q3_27)) rfl rfl rfl ?_
            refine W.skip rfl rfl rfl (rfl) rfl rfl ?_
            refine W.skip rfl rfl rfl (rfl) rfl rfl ?_
            refine W.any (.pickT rfl rfl rfl) rfl rfl rfl ?_
            refine W.any (.move rfl) rfl rfl rfl ?_
            refine W.skip rfl rfl rfl (rfl) rfl rfl ?_
            refine W.skip rfl rfl rfl (rfl) rfl rfl ?_
            refine W.any (.pickT rfl rfl rfl) rfl rfl rfl ?_
            refine W.nil ?_
            refine E.thenN ?_
            refine WC.condT rfl ?_
            refine WC.seq ?_
            refine WC.region ?_
            refine W.any (.move rfl) rfl rfl rfl ?_
            refine W.any (.move rfl) rfl rfl rfl ?_
            refine W.rdg (Any.rd (.move rfl) _) rfl rfl rfl (rfl) rfl rfl ?_
            refine W.rdg (Any.rd (.dec (.notNilP (by kernel_rfl) rfl) rfl) _) rfl rfl rfl (rfl) rfl rfl ?_
            refine W.any (.pickT rfl rfl rfl) rfl rfl rfl ?_
            refine W.any (.assign rfl) rfl rfl rfl ?_
            refine W.nil ?_
            refine E.thenN ?_
            refine WC.ret ?_
            refine E.thenR ?_
            refine E.retG1 rfl rfl ?_
            exact ⟨rfl, L3⟩
          · refine W.any (.dec (.move rfl) (decide_eq_false q3_27)) rfl rfl rfl ?_
            refine W.rdg (Any.rd (.move rfl) _) rfl rfl rfl (rfl) rfl rfl ?_
            refine W.rdg (Any.rd (.eql rfl rfl) _) rfl rfl rfl (rfl) rfl rfl ?_
            refine W.any (.pickF rfl rfl rfl) rfl rfl rfl ?_
            by_cases q3_31 : ((sec : Nat) : Int) = 0
            · refine W.any (.dec (.move rfl) (decide_eq_true q3_31)) rfl rfl rfl ?_
              refine W.skip rfl rfl rfl (rfl) rfl rfl ?_
              refine W.skip rfl rfl rfl (rfl) rfl rfl ?_
              refine W.any (.pickT rfl rfl rfl) rfl rfl rfl ?_
              refine W.nil ?_
              refine E.thenN ?_
              refine WC.condT rfl ?_
              refine WC.seq ?_
              refine WC.region ?_
              refine W.any (.move rfl) rfl rfl rfl ?_
              refine W.any (.move rfl) rfl rfl rfl ?_
              refine W.rdg (Any.rd (.move rfl) _) rfl rfl rfl (rfl) rfl rfl ?_
              refine W.rdg (Any.rd (.dec (.notNilP (by kernel_rfl) rfl) rfl) _) rfl rfl rfl (rfl) rfl rfl ?_
              refine W.any (.pickT rfl rfl rfl) rfl rfl rfl ?_
              refine W.any (.assign rfl) rfl rfl rfl ?_
              refine W.nil ?_
              refine E.thenN ?_
              refine WC.ret ?_
              refine E.thenR ?_
              refine E.retG1 rfl rfl ?_
              exact ⟨rfl, L3⟩
            · refine W.any (.dec (.move rfl) (decide_eq_false q3_31)) rfl rfl rfl ?_
              refine W.rdg (Any.rd (.move rfl) _) rfl rfl rfl (rfl) rfl rfl ?_
              refine W.rdg (Any.rd (.geq rfl rfl) _) rfl rfl rfl (rfl) rfl rfl ?_
              refine W.any (.pickF rfl rfl rfl) rfl rfl rfl ?_
              refine W.nil ?_
              refine E.thenN ?_
              by_cases c0 : 2305843009213688669 ≤ ((sec : Nat) : Int)
              · refine WC.condY rfl (decide_eq_true c0) ?_
                refine WC.seq ?_
                refine WC.region ?_
                refine W.any (.move rfl) rfl rfl rfl ?_
                refine W.any (.move rfl) rfl rfl rfl ?_
                refine W.rdg (Any.rd (.move rfl) _) rfl rfl rfl (rfl) rfl rfl ?_
                refine W.rdg (Any.rd (.dec (.notNilP (by kernel_rfl) rfl) rfl) _) rfl rfl rfl (rfl) rfl rfl ?_
                refine W.any (.pickT rfl rfl rfl) rfl rfl rfl ?_
                refine W.any (.assign rfl) rfl rfl rfl ?_
                refine W.nil ?_
                refine E.thenN ?_
                refine WC.ret ?_
                refine E.thenR ?_
                refine E.retG1 rfl rfl ?_
                exact ⟨rfl, L3⟩
              · refine WC.condN rfl (decide_eq_false c0) ?_
                refine WC.skip ?_
                refine E.thenN ?_
                refine WC.seq ?_
                refine WC.region ?_
                refine W.any (.assign rfl) rfl rfl rfl ?_
                refine W.nil ?_
                refine E.thenN ?_
                refine WC.seq ?_
                refine WC.seq ?_
                refine WC.region ?_
                refine W.any (.assign rfl) rfl rfl rfl ?_
                refine W.nil ?_
                refine E.thenN ?_
                refine WC.block ?_
                have f4 := (b0_0.le (h1_0.trans h2_0))
                refine WC.loop (ι := Nat) (fun i0 => [(0, .int .u64 (((sec : Nat) : Int))), (1, .int .u64 (((key : Nat) : Int))), (2, .slice Ab nb cb), (3, .slice Aa na ca), (9, .pointer (some ⟨g0_0, 0, none⟩)), (11, .bool true), (12, .pointer (some ⟨gp2_0, 0, none⟩)), (13, .int .i64 (sumA am i0)), (14, .int .i64 (((i0 : Nat) : Int)))]) (fun i0 wl0 => (i0 ≤ nb) ∧ (∀ j, j < i0 → (1 ≤ am.getD j 0 ∧ am.getD j 0 ≤ 1099511627776) ∧ bl.getD j 0 < q) ∧ (0 ≤ sumA am i0 ∧ sumA am i0 ≤ 1099511627776 * i0) ∧ Le w wl0 ∧ w2_0.heap.size ≤ wl0.heap.size ∧ Blk wl0 g0_0 89 (seed.map u8v).toArray ∧ Pool wl0 w1_0.heap.size gp2_0 F2_0 ([])) (fun i0 => nb - i0) 0 ?_ ?_ ?_
                · exact .cons rfl (.cons rfl (.cons rfl (.cons rfl (.cons rfl (.cons rfl (.cons rfl (.cons' rfl (int_eq (by rw [sumA_zero])) (.cons rfl (.nil _)))))))))
                · exact ⟨Nat.zero_le _, fun j hj => by omega, by rw [sumA_zero]; omega, L3, Nat.le_refl _, f4, p2_0⟩
                · rintro i0 wl0 ⟨hi0, hlo, hsm, Ll0, sz0, f0_0, f0_1⟩
                  refine WC.seq ?_
                  refine WC.seq ?_
                  refine WC.region ?_
                  refine W.any (.move rfl) rfl rfl rfl ?_
                  refine W.any (.move rfl) rfl rfl rfl ?_
                  refine W.rd (.len Try.underlying61 rfl) rfl rfl rfl ?_
                  refine W.any (.lss rfl rfl) rfl rfl rfl ?_
                  refine W.nil ?_
                  refine E.thenN ?_
                  by_cases c1 : ((i0 : Nat) : Int) < ((nb : Nat) : Int)
                  · refine WC.condY rfl (decide_eq_true c1) ?_
                    refine WC.skip ?_
                    refine E.thenN ?_
                    refine WC.seq ?_
                    refine WC.block ?_
                    refine WC.seq ?_
                    refine WC.seq ?_
                    refine WC.region ?_
                    refine W.any (.move rfl) rfl rfl rfl ?_
                    refine W.any (.move rfl) rfl rfl rfl ?_
                    refine W.any (.idxS (i0) Try.underlying53 sz3 rfl rfl (ha.isSome iv_row (by omega)) (rfl) (by omega)) rfl rfl rfl ?_
                    refine W.rd (.vone (v := .int .i64 ((am.getD i0 0))) na3 rfl (ha.le Ll0) iv_row (getS am 0 (by first | omega | (simp only [List.length_cons, List.length_nil]; omega))) rfl) rfl rfl rfl ?_
                    refine W.any (.lss rfl rfl) rfl rfl rfl ?_
                    by_cases q9_5 : (am.getD i0 0) < 1
                    · refine W.any (.dec (.move rfl) (decide_eq_true q9_5)) rfl rfl rfl ?_
                      refine W.skip rfl rfl rfl (rfl) rfl rfl ?_
                      refine W.skip rfl rfl rfl (rfl) rfl rfl ?_
                      refine W.skip rfl rfl rfl (rfl) rfl rfl ?_
                      refine W.skip rfl rfl rfl (rfl) rfl rfl ?_
                      refine W.skip rfl rfl rfl (rfl) rfl rfl ?_
                      refine W.any (.pickT rfl rfl rfl) rfl rfl rfl ?_
                      refine W.any (.move rfl) rfl rfl rfl ?_
                      refine W.skip rfl rfl rfl (rfl) rfl rfl ?_
                      refine W.skip rfl rfl rfl (rfl) rfl rfl ?_
                      refine W.skip rfl rfl rfl (rfl) rfl rfl ?_
                      refine W.skip rfl rfl rfl (rfl) rfl rfl ?_
                      refine W.skip rfl rfl rfl (rfl) rfl rfl ?_
                      refine W.any (.pickT rfl rfl rfl) rfl rfl rfl ?_
                      refine W.nil ?_
                      refine E.thenN ?_
                      refine WC.condT rfl ?_
                      refine WC.seq ?_
                      refine WC.region ?_
                      refine W.any (.move rfl) rfl rfl rfl ?_
                      refine W.any (.assign rfl) rfl rfl rfl ?_
                      refine W.nil ?_
                      refine E.thenN ?_
                      refine WC.ret ?_
                      refine E.thenR ?_
                      refine E.blkR ?_
                      refine E.thenR ?_
                      refine E.thenR ?_
                      refine E.blkR ?_
                      refine E.thenR ?_
                      refine E.retG1 rfl rfl ?_
                      exact ⟨rfl, Ll0⟩
                    · refine W.any (.dec (.move rfl) (decide_eq_false q9_5)) rfl rfl rfl ?_
                      refine W.rdg (Any.rd (.move rfl) _) rfl rfl rfl (rfl) rfl rfl ?_
                      refine W.rdg (Any.rd (.move rfl) _) rfl rfl rfl (rfl) rfl rfl ?_
                      refine W.rdg (Any.rd (.idxS (i0) Try.underlying53 sz3 rfl rfl (ha.isSome iv_row (by omega)) (rfl) (by omega)) _) rfl rfl rfl (rfl) rfl rfl ?_
                      refine W.rdg (.vone (v := .int .i64 ((am.getD i0 0))) na3 rfl (ha.le Ll0) iv_row (getS am 0 (by first | omega | (simp only [List.length_cons, List.length_nil]; omega))) rfl) rfl rfl rfl (rfl) rfl rfl ?_
                      refine W.rdg (Any.rd (.gtr rfl rfl) _) rfl rfl rfl (rfl) rfl rfl ?_
                      refine W.any (.pickF rfl rfl rfl) rfl rfl rfl ?_
                      by_cases q9_12 : 1099511627776 < (am.getD i0 0)
                      · refine W.any (.dec (.move rfl) (decide_eq_true q9_12)) rfl rfl rfl ?_
                        refine W.skip rfl rfl rfl (rfl) rfl rfl ?_
                        refine W.skip rfl rfl rfl (rfl) rfl rfl ?_
                        refine W.skip rfl rfl rfl (rfl) rfl rfl ?_
                        refine W.skip rfl rfl rfl (rfl) rfl rfl ?_
                        refine W.skip rfl rfl rfl (rfl) rfl rfl ?_
                        refine W.any (.pickT rfl rfl rfl) rfl rfl rfl ?_
                        refine W.nil ?_
                        refine E.thenN ?_
                        refine WC.condT rfl ?_
                        refine WC.seq ?_
                        refine WC.region ?_
                        refine W.any (.move rfl) rfl rfl rfl ?_
                        refine W.any (.assign rfl) rfl rfl rfl ?_
                        refine W.nil ?_
                        refine E.thenN ?_
                        refine WC.ret ?_
                        refine E.thenR ?_
                        refine E.blkR ?_
                        refine E.thenR ?_
                        refine E.thenR ?_
                        refine E.blkR ?_
                        refine E.thenR ?_
                        refine E.retG1 rfl rfl ?_
                        exact ⟨rfl, Ll0⟩
                      · refine W.any (.dec (.move rfl) (decide_eq_false q9_12)) rfl rfl rfl ?_
                        refine W.rdg (Any.rd (.move rfl) _) rfl rfl rfl (rfl) rfl rfl ?_
                        refine W.rdg (Any.rd (.move rfl) _) rfl rfl rfl (rfl) rfl rfl ?_
                        refine W.rdg (Any.rd (.idxS (i0) Try.underlying61 sz30 rfl rfl (hb.isSome pv1_row (by omega)) (rfl) (by omega)) _) rfl rfl rfl (rfl) rfl rfl ?_
                        refine W.rdg (.vone (v := .int .u64 ((((bl.getD i0 0) : Nat) : Int))) na30 rfl (hb.le Ll0) pv1_row (getS bl 0 (by first | omega | (simp only [List.length_cons, List.length_nil]; omega))) rfl) rfl rfl rfl (rfl) rfl rfl ?_
                        refine W.rdg (Any.rd (.geq rfl rfl) _) rfl rfl rfl (rfl) rfl rfl ?_
                        refine W.any (.pickF rfl rfl rfl) rfl rfl rfl ?_
                        refine W.nil ?_
                        refine E.thenN ?_
                        by_cases c2 : 2305843009213688669 ≤ (((bl.getD i0 0) : Nat) : Int)
                        · refine WC.condY rfl (decide_eq_true c2) ?_
                          refine WC.seq ?_
                          refine WC.region ?_
                          refine W.any (.move rfl) rfl rfl rfl ?_
                          refine W.any (.assign rfl) rfl rfl rfl ?_
                          refine W.nil ?_
                          refine E.thenN ?_
                          refine WC.ret ?_
                          refine E.thenR ?_
                          refine E.blkR ?_
                          refine E.thenR ?_
                          refine E.thenR ?_
                          refine E.blkR ?_
                          refine E.thenR ?_
                          refine E.retG1 rfl rfl ?_
                          exact ⟨rfl, Ll0⟩
                        · refine WC.condN rfl (decide_eq_false c2) ?_
                          refine WC.skip ?_
                          refine E.thenN ?_
                          refine WC.region ?_
                          refine W.any (.move rfl) rfl rfl rfl ?_
                          refine W.any (.move rfl) rfl rfl rfl ?_
                          refine W.any (.move rfl) rfl rfl rfl ?_
                          refine W.any (.idxS (i0) Try.underlying53 sz3 rfl rfl (ha.isSome iv_row (by omega)) (rfl) (by omega)) rfl rfl rfl ?_
                          refine W.rd (.vone (v := .int .i64 ((am.getD i0 0))) na3 rfl (ha.le Ll0) iv_row (getS am 0 (by first | omega | (simp only [List.length_cons, List.length_nil]; omega))) rfl) rfl rfl rfl ?_
                          refine W.any (.add rfl rfl (by omega)) rfl rfl rfl ?_
                          refine W.any (.assign rfl) rfl rfl rfl ?_
                          refine W.nil ?_
                          refine E.blkN ?_
                          refine E.thenN ?_
                          refine WC.region ?_
                          refine W.any (.move rfl) rfl rfl rfl ?_
                          refine W.any (.add rfl rfl (by omega)) rfl rfl rfl ?_
                          refine W.any (.assign rfl) rfl rfl rfl ?_
                          refine W.nil ?_
                          refine E.again (i0 + 1) (.cons rfl (.cons rfl (.cons rfl (.cons rfl (.cons rfl (.cons rfl (.cons rfl (.cons' rfl (int_eq (by rw [sumA_next (by omega)])) (.cons rfl (.nil _)))))))))) ?_ ?_
                          · exact ⟨by omega, fun j hj => (Nat.lt_succ_iff_lt_or_eq.1 hj).elim (hlo j) (fun hh => by subst hh; exact ⟨⟨by omega, by omega⟩, by omega⟩), by rw [sumA_next (by omega)]; omega, Ll0, by have := sz0; omega, f0_0, f0_1⟩
                          · first | omega | (simp only []; omega)
                  · refine WC.condN rfl (decide_eq_false c1) ?_
                    refine WC.exit ?_
                    refine E.thenX ?_
                    refine E.thenX ?_
                    refine E.blkH ?_
                    refine E.thenN ?_
                    refine WC.seq ?_
                    refine WC.seq ?_
                    refine WC.region ?_
                    have hei : i0 = nb := by omega
                    have hPH : PH am bl nb := ⟨by omega, by omega, by omega, fun j hj => (hlo j (by omega)).1, fun j hj => (hlo j (by omega)).2⟩
                    have hwo : wantOk 9 sec (sumA am i0) 50 60 := by rw [hei]; exact hPH.want (by omega) (by omega)
                    have hwe := want_nine hwo
                    refine W.any (.move rfl) rfl rfl rfl ?_
                    refine W.any (.move rfl) rfl rfl rfl ?_
                    refine W.any (.move rfl) rfl rfl rfl ?_
                    refine W.ef rfl rfl rfl ?_
                    refine Ef.call go17 rfl rfl ((by have h := want_pool 9 sec (sumA am i0) 50 60 (by omega) f0_1; simp only [hwe] at h; exact h)) ?_
                    rintro _ w12_3 ⟨F12_3, rfl, p12_3, g12_3, h12_3⟩
                    refine ⟨_, rfl, ?_⟩
                    have L5 := Ll0.chP_then h12_3 (fun i hi => Nat.le_trans L2.size (f0_1.old hi))
                    have z6n := (show ¬ F2_0 g0_0 from (fun hF => by have := f0_1.old hF; have := b0_0.lt; have := h1_0.size; omega))
                    have z6 := f0_0.chP h12_3 z6n
                    have z6g : ¬ F12_3 g0_0 := fun hF => (g12_3 _ hF).elim z6n (fun hz => by have := f0_0.lt; omega)
                    refine W.any (.dec (.neq rfl rfl) (show _ = false from by decide)) rfl rfl rfl ?_
                    refine W.nil ?_
                    refine E.thenN ?_
                    refine WC.condF rfl ?_
                    refine WC.skip ?_
                    refine E.thenN ?_
                    refine WC.seq ?_
                    refine WC.region ?_
                    refine W.any (.assign rfl) rfl rfl rfl ?_
                    refine W.nil ?_
                    refine E.thenN ?_
                    refine WC.seq ?_
                    refine WC.seq ?_
                    refine WC.region ?_
                    refine W.any (.assign rfl) rfl rfl rfl ?_
                    refine W.nil ?_
                    refine E.thenN ?_
                    refine WC.block ?_
                    refine WC.loop (ι := Nat × (Nat → Prop) × Pay × (Option Addr) × Nat × (List Paid)) (fun ⟨i, F, p, Ao, co, ox⟩ => [(0, .int .u64 (((sec : Nat) : Int))), (1, .int .u64 (((key : Nat) : Int))), (2, .slice Ab nb cb), (3, .slice Aa na ca), (9, .pointer (some ⟨g0_0, 0, none⟩)), (11, .bool true), (12, .pointer (some ⟨gp2_0, 0, none⟩)), (15, .slice Ao ox.length co), (16, .int .i64 (((i : Nat) : Int)))]) (fun ⟨i, F, p, Ao, co, ox⟩ wl1 => (i ≤ nb) ∧ (PW sec am bl nb i p ox) ∧ Le w wl1 ∧ w12_3.heap.size ≤ wl1.heap.size ∧ Blk wl1 g0_0 89 (seed.map u8v).toArray ∧ Pool wl1 w1_0.heap.size gp2_0 F ([(9, p)]) ∧ OVec wl1 w12_3.heap.size 57 paidV 3 Ao ox.length co ox) (fun ⟨i, F, p, Ao, co, ox⟩ => nb - i) (0, F12_3, newP sec (sumA am i0) 50 60, none, 0, []) ?_ ?_ ?_
                    · exact .cons rfl (.cons rfl (.cons rfl (.cons rfl (.cons rfl (.cons rfl (.cons rfl (.cons rfl (.cons rfl (.nil _)))))))))
                    · exact ⟨Nat.zero_le _, by rw [hei]; exact PW.zero hPH, L5, Nat.le_refl _, z6, p12_3, (OVec.nil w12_3 w12_3.heap.size 57 paidV 3 none)⟩
                    · rintro ⟨i, F, p, Ao, co, ox⟩ wl1 ⟨hi, hP, Ll1, sz1, f1_0, f1_1, f1_2⟩
                      have lb1_5 : w12_3.heap.size ≤ wl1.heap.size := by omega
                      refine WC.seq ?_
                      refine WC.seq ?_
                      refine WC.region ?_
                      refine W.any (.move rfl) rfl rfl rfl ?_
                      refine W.any (.move rfl) rfl rfl rfl ?_
                      refine W.rd (.len Try.underlying61 rfl) rfl rfl rfl ?_
                      refine W.any (.lss rfl rfl) rfl rfl rfl ?_
                      refine W.nil ?_
                      refine E.thenN ?_
                      by_cases c4 : ((i : Nat) : Int) < ((nb : Nat) : Int)
                      · refine WC.condY rfl (decide_eq_true c4) ?_
                        obtain ⟨ho, hok, sum, hpe⟩ := one_hop (sec := sec) key ⟨by omega, by omega⟩ hPH (i := i) (by omega) seed
                        obtain ⟨k1, k2, k3⟩ := hP.step hPH (by omega)
                        have hq32 : sum.length = 32 := by have := peel_sum_len key (wrapB [base key] [(hopH sec am bl i)] seed); rw [hpe] at this; exact this
                        have hox := (hP.opn (by omega)).2.2.2.2
                        refine WC.skip ?_
                        refine E.thenN ?_
                        refine WC.seq ?_
                        refine WC.block ?_
                        refine WC.cut (ι := Nat) (fun gh => [(0, .int .u64 (((sec : Nat) : Int))), (1, .int .u64 (((key : Nat) : Int))), (2, .slice Ab nb cb), (3, .slice Aa na ca), (9, .pointer (some ⟨g0_0, 0, none⟩)), (11, .bool true), (12, .pointer (some ⟨gp2_0, 0, none⟩)), (15, .slice Ao ox.length co), (16, .int .i64 (((i : Nat) : Int))), (17, .pointer (some ⟨gh, 0, none⟩))]) (fun gh wc19 => Le w wc19 ∧ wl1.heap.size ≤ wc19.heap.size ∧ Blk wc19 g0_0 89 (seed.map u8v).toArray ∧ Pool wc19 w1_0.heap.size gp2_0 F ([(9, p)]) ∧ OVec wc19 w12_3.heap.size 57 paidV 3 Ao ox.length co ox ∧ wl1.heap.size ≤ gh ∧ Blk wc19 gh 95 (hopV (hopH sec am bl i)).toArray) ?_ ?_
                        · refine WC.drawT (fun o => (app o [0, 1, 2, 3, 4, 5, 6, 7, 8, 11, 12, 13, 14] (.br (app o [9] (.br (app o [10, 15, 16, 17] .nil) (app o [16, 10, 15, 17] .nil))) (app o [16, 9, 10, 15, 17] .nil)))) mixed (by kernel_rfl) ?_
                          intro w18 d18
                          have L7 := Ll1.trans d18
                          refine GT.app ?_
                          refine G.any rfl rfl (.move rfl) rfl rfl rfl ?_
                          refine G.any rfl rfl (.move rfl) rfl rfl rfl ?_
                          refine G.any rfl rfl (.idxS (i) Try.underlying53 sz3 rfl rfl (ha.isSome iv_row (by omega)) (rfl) (by omega)) rfl rfl rfl ?_
                          refine G.rd rfl rfl (.vone (v := .int .i64 ((am.getD i 0))) na3 rfl (ha.le L7) iv_row (getS am 0 (by first | omega | (simp only [List.length_cons, List.length_nil]; omega))) rfl) rfl rfl rfl ?_
                          refine G.any rfl rfl (.move rfl) rfl rfl rfl ?_
                          refine G.any rfl rfl (.move rfl) rfl rfl rfl ?_
                          refine G.any rfl rfl (.move rfl) rfl rfl rfl ?_
                          refine G.any rfl rfl (.idxS (i) Try.underlying61 sz30 rfl rfl (hb.isSome pv1_row (by omega)) (rfl) (by omega)) rfl rfl rfl ?_
                          refine G.rd rfl rfl (.vone (v := .int .u64 ((((bl.getD i 0) : Nat) : Int))) na30 rfl (hb.le L7) pv1_row (getS bl 0 (by first | omega | (simp only [List.length_cons, List.length_nil]; omega))) rfl) rfl rfl rfl ?_
                          refine G.any rfl rfl (.move rfl) rfl rfl rfl ?_
                          refine G.any rfl rfl (.move rfl) rfl rfl rfl ?_
                          refine G.any rfl rfl (.idxS (i) Try.underlying61 sz30 rfl rfl (hb.isSome pv1_row (by omega)) (rfl) (by omega)) rfl rfl rfl ?_
                          refine G.rd rfl rfl (.vone (v := .int .u64 ((((bl.getD i 0) : Nat) : Int))) na30 rfl (hb.le L7) pv1_row (getS bl 0 (by first | omega | (simp only [List.length_cons, List.length_nil]; omega))) rfl) rfl rfl rfl ?_
                          refine G.nil ?_
                          refine GT.br ?_ ?_
                          · refine GT.app ?_
                            refine G.ef rfl rfl rfl rfl rfl ?_
                            refine Ef.call go55 rfl rfl (fadd_ok sec (bl.getD i 0) w18) ?_
                            rintro _ w18_9 ⟨rfl, h18_9⟩
                            refine ⟨_, rfl, ?_⟩
                            refine ⟨fun _ => h18_9, ?_⟩
                            have L8 := L7.trans h18_9
                            refine G.nil ?_
                            refine GT.br ?_ ?_
                            · refine GT.last ?_
                              refine G.ef rfl rfl rfl rfl rfl ?_
                              refine Ef.call go49 rfl rfl (base_ok (addS sec (bl.getD i 0)) w18_9) ?_
                              rintro _ w18_10 ⟨rfl, h18_10⟩
                              refine ⟨_, rfl, ?_⟩
                              refine ⟨fun _ => h18_10, ?_⟩
                              have L9 := L8.trans h18_10
                              refine G.any rfl rfl (.buildP (hopV ((-1), 3, (am.getD i 0), 60, base (addS sec (bl.getD i 0)), (bl.getD i 0))) pl95 z95 rfl rfl) rfl rfl rfl ?_
                              refine G.ef rfl rfl rfl rfl rfl ?_
                              refine Ef.allocA z95 ?_
                              intro g18_16 w18_16 hg18_16 b18_16 h18_16
                              refine ⟨fun _ => h18_16, ?_⟩
                              have L10 := L9.trans h18_16
                              have b18_16 : Blk w18_16 g18_16 95 (hopV noHop).toArray := b18_16
                              refine G.ef0 rfl rfl rfl rfl ?_
                              refine Ef.storeAll sz95 (by rfl) rfl rfl b18_16 (by rfl) (hopV_row.one ((-1), 3, (am.getD i 0), 60, base (addS sec (bl.getD i 0)), (bl.getD i 0))) ?_
                              intro w18_17 b18_17 h18_17
                              refine ⟨fun h => absurd h (ne_true_of_eq_false (by kernel_rfl)), ?_⟩
                              have b18_17 : Blk w18_17 g18_16 95 (hopV ((-1), 3, (am.getD i 0), 60, base (addS sec (bl.getD i 0)), (bl.getD i 0))).toArray := b18_17
                              have L11 : Le w w18_17 := L10.then_ h18_17 (fun q hq => by cases hq; exact Nat.le_trans L9.size hg18_16)
                              refine G.nil ?_
                              have f12 := ((f1_0.le (d18.trans (h18_9.trans (h18_10.trans h18_16)))).ch h18_17 (fun h => (show g18_16 ≠ g0_0 from by have := f1_0.lt; have := d18.size; have := h18_9.size; have := h18_10.size; omega) (Option.some.inj h)))
                              have f13 := ((f1_1.le (d18.trans (h18_9.trans (h18_10.trans h18_16)))).ch h18_17 (fun q hqq hF => by cases hqq; have := f1_1.lt hF; have := d18.size; have := h18_9.size; have := h18_10.size; have := hg18_16; omega))
                              have f14 := ((f1_2.le (d18.trans (h18_9.trans (h18_10.trans h18_16)))).ch h18_17 (fun q hq => by cases hq; exact (fun he => by have := (f1_2.row he).2; have := d18.size; have := h18_9.size; have := h18_10.size; omega)))
                              refine E.meet g18_16 (.cons rfl (.cons rfl (.cons rfl (.cons rfl (.cons rfl (.cons rfl (.cons rfl (.cons rfl (.cons rfl (.cons rfl (.nil _))))))))))) ?_
                              exact ⟨L11, by have := d18.size; have := h18_9.size; have := h18_10.size; have := h18_16.size; have := h18_17.size; omega, f12, f13, f14, (by have := hg18_16; have := d18.size; have := h18_9.size; have := h18_10.size; omega), b18_17⟩
                            · refine GT.last ?_
                              refine G.ef rfl rfl rfl rfl rfl ?_
                              refine Ef.allocA z95 ?_
                              intro g18_16_1 w18_16_1 hg18_16_1 b18_16_1 h18_16_1
                              refine ⟨fun _ => h18_16_1, ?_⟩
                              have L15 := L8.trans h18_16_1
                              have b18_16_1 : Blk w18_16_1 g18_16_1 95 (hopV noHop).toArray := b18_16_1
                              refine G.ef rfl rfl rfl rfl rfl ?_
                              refine Ef.call go49 rfl rfl (base_ok (addS sec (bl.getD i 0)) w18_16_1) ?_
                              rintro _ w18_10_1 ⟨rfl, h18_10_1⟩
                              refine ⟨_, rfl, ?_⟩
                              refine ⟨fun _ => h18_10_1, ?_⟩
                              have L16 := L15.trans h18_10_1
                              refine G.any rfl rfl (.buildP (hopV ((-1), 3, (am.getD i 0), 60, base (addS sec (bl.getD i 0)), (bl.getD i 0))) pl95 z95 rfl rfl) rfl rfl rfl ?_
                              have f17 := (b18_16_1.le h18_10_1)
                              refine G.ef0 rfl rfl rfl rfl ?_
                              refine Ef.storeAll sz95 (by rfl) rfl rfl f17 (by rfl) (hopV_row.one ((-1), 3, (am.getD i 0), 60, base (addS sec (bl.getD i 0)), (bl.getD i 0))) ?_
                              intro w18_17_1 b18_17_1 h18_17_1
                              refine ⟨fun h => absurd h (ne_true_of_eq_false (by kernel_rfl)), ?_⟩
                              have b18_17_1 : Blk w18_17_1 g18_16_1 95 (hopV ((-1), 3, (am.getD i 0), 60, base (addS sec (bl.getD i 0)), (bl.getD i 0))).toArray := b18_17_1
                              have L18 : Le w w18_17_1 := L16.then_ h18_17_1 (fun q hq => by cases hq; exact Nat.le_trans L8.size hg18_16_1)
                              refine G.nil ?_
                              have f19 := ((f1_0.le (d18.trans (h18_9.trans (h18_16_1.trans h18_10_1)))).ch h18_17_1 (fun h => (show g18_16_1 ≠ g0_0 from by have := f1_0.lt; have := d18.size; have := h18_9.size; omega) (Option.some.inj h)))
                              have f20 := ((f1_1.le (d18.trans (h18_9.trans (h18_16_1.trans h18_10_1)))).ch h18_17_1 (fun q hqq hF => by cases hqq; have := f1_1.lt hF; have := d18.size; have := h18_9.size; have := hg18_16_1; omega))
                              have f21 := ((f1_2.le (d18.trans (h18_9.trans (h18_16_1.trans h18_10_1)))).ch h18_17_1 (fun q hq => by cases hq; exact (fun he => by have := (f1_2.row he).2; have := d18.size; have := h18_9.size; omega)))
                              refine E.meet g18_16_1 (.cons rfl (.cons rfl (.cons rfl (.cons rfl (.cons rfl (.cons rfl (.cons rfl (.cons rfl (.cons rfl (.cons rfl (.nil _))))))))))) ?_
                              exact ⟨L18, by have := d18.size; have := h18_9.size; have := h18_16_1.size; have := h18_10_1.size; have := h18_17_1.size; omega, f19, f20, f21, (by have := hg18_16_1; have := d18.size; have := h18_9.size; omega), b18_17_1⟩
                          · refine GT.last ?_
                            refine G.ef rfl rfl rfl rfl rfl ?_
                            refine Ef.allocA z95 ?_
                            intro g18_16_2 w18_16_2 hg18_16_2 b18_16_2 h18_16_2
                            refine ⟨fun _ => h18_16_2, ?_⟩
                            have L22 := L7.trans h18_16_2
                            have b18_16_2 : Blk w18_16_2 g18_16_2 95 (hopV noHop).toArray := b18_16_2
                            refine G.ef rfl rfl rfl rfl rfl ?_
                            refine Ef.call go55 rfl rfl (fadd_ok sec (bl.getD i 0) w18_16_2) ?_
                            rintro _ w18_9_1 ⟨rfl, h18_9_1⟩
                            refine ⟨_, rfl, ?_⟩
                            refine ⟨fun _ => h18_9_1, ?_⟩
                            have L23 := L22.trans h18_9_1
                            refine G.ef rfl rfl rfl rfl rfl ?_
                            refine Ef.call go49 rfl rfl (base_ok (addS sec (bl.getD i 0)) w18_9_1) ?_
                            rintro _ w18_10_2 ⟨rfl, h18_10_2⟩
                            refine ⟨_, rfl, ?_⟩
                            refine ⟨fun _ => h18_10_2, ?_⟩
                            have L24 := L23.trans h18_10_2
                            refine G.any rfl rfl (.buildP (hopV ((-1), 3, (am.getD i 0), 60, base (addS sec (bl.getD i 0)), (bl.getD i 0))) pl95 z95 rfl rfl) rfl rfl rfl ?_
                            have f25 := (b18_16_2.le (h18_9_1.trans h18_10_2))
                            refine G.ef0 rfl rfl rfl rfl ?_
                            refine Ef.storeAll sz95 (by rfl) rfl rfl f25 (by rfl) (hopV_row.one ((-1), 3, (am.getD i 0), 60, base (addS sec (bl.getD i 0)), (bl.getD i 0))) ?_
                            intro w18_17_2 b18_17_2 h18_17_2
                            refine ⟨fun h => absurd h (ne_true_of_eq_false (by kernel_rfl)), ?_⟩
                            have b18_17_2 : Blk w18_17_2 g18_16_2 95 (hopV ((-1), 3, (am.getD i 0), 60, base (addS sec (bl.getD i 0)), (bl.getD i 0))).toArray := b18_17_2
                            have L26 : Le w w18_17_2 := L24.then_ h18_17_2 (fun q hq => by cases hq; exact Nat.le_trans L7.size hg18_16_2)
                            refine G.nil ?_
                            have f27 := ((f1_0.le (d18.trans (h18_16_2.trans (h18_9_1.trans h18_10_2)))).ch h18_17_2 (fun h => (show g18_16_2 ≠ g0_0 from by have := f1_0.lt; have := d18.size; omega) (Option.some.inj h)))
                            have f28 := ((f1_1.le (d18.trans (h18_16_2.trans (h18_9_1.trans h18_10_2)))).ch h18_17_2 (fun q hqq hF => by cases hqq; have := f1_1.lt hF; have := d18.size; have := hg18_16_2; omega))
                            have f29 := ((f1_2.le (d18.trans (h18_16_2.trans (h18_9_1.trans h18_10_2)))).ch h18_17_2 (fun q hq => by cases hq; exact (fun he => by have := (f1_2.row he).2; have := d18.size; omega)))
                            refine E.meet g18_16_2 (.cons rfl (.cons rfl (.cons rfl (.cons rfl (.cons rfl (.cons rfl (.cons rfl (.cons rfl (.cons rfl (.cons rfl (.nil _))))))))))) ?_
                            exact ⟨L26, by have := d18.size; have := h18_16_2.size; have := h18_9_1.size; have := h18_10_2.size; have := h18_17_2.size; omega, f27, f28, f29, (by have := hg18_16_2; have := d18.size; omega), b18_17_2⟩
                        · rintro gh wc19 ⟨Lc3, sc3, m3_0, m3_1, m3_2, hgc3_17, bc3_17⟩
                          have lc3_5 : w12_3.heap.size ≤ wc19.heap.size := by have := lb1_5; have := sc3; omega
                          refine WC.cut (ι := (Option Addr) × Nat) (fun ⟨Aw, cw⟩ => [(0, .int .u64 (((sec : Nat) : Int))), (1, .int .u64 (((key : Nat) : Int))), (2, .slice Ab nb cb), (3, .slice Aa na ca), (9, .pointer (some ⟨g0_0, 0, none⟩)), (11, .bool true), (12, .pointer (some ⟨gp2_0, 0, none⟩)), (15, .slice Ao ox.length co), (16, .int .i64 (((i : Nat) : Int))), (18, .slice Aw 680 cw), (19, .int .i64 (0))]) (fun ⟨Aw, cw⟩ wc20 => (680 ≤ cw) ∧ Le w wc20 ∧ wc19.heap.size ≤ wc20.heap.size ∧ Blk wc20 g0_0 89 (seed.map u8v).toArray ∧ Pool wc20 w1_0.heap.size gp2_0 F ([(9, p)]) ∧ OVec wc20 w12_3.heap.size 57 paidV 3 Ao ox.length co ox ∧ OVec wc20 wc19.heap.size 5 byteV 1 Aw 680 cw (wrapB [base key] [(hopH sec am bl i)] seed)) ?_ ?_
                          · refine WC.drawT (fun o => (app o [0, 3, 5] (.br (app o [1] (.br (app o [2, 4, 6, 7, 8, 9, 10, 11] .nil) (app o [4, 2, 6, 7, 8, 9, 10, 11] .nil))) (app o [4, 1, 2, 6, 7, 8, 9, 10, 11] .nil)))) mixed (by kernel_rfl) ?_
                            intro w19 d19
                            have L30 := Lc3.trans d19
                            refine GT.app ?_
                            refine G.any rfl rfl (.move rfl) rfl rfl rfl ?_
                            have f31 := (bc3_17.le d19)
                            refine G.rd rfl rfl (.loadAll ag95 (by rfl) rfl f31) rfl rfl rfl ?_
                            have f32 := (m3_0.le d19)
                            refine G.rd rfl rfl (.loadAll ag89 (by simp [hse]) rfl f32) rfl rfl rfl ?_
                            refine G.nil ?_
                            refine GT.br ?_ ?_
                            · refine GT.app ?_
                              refine G.ef rfl rfl rfl rfl rfl ?_
                              refine Ef.call go49 rfl rfl (base_ok key w19) ?_
                              rintro _ w19_1 ⟨rfl, h19_1⟩
                              refine ⟨_, rfl, ?_⟩
                              refine ⟨fun _ => h19_1, ?_⟩
                              have L33 := L30.trans h19_1
                              refine G.nil ?_
                              refine GT.br ?_ ?_
                              · refine GT.last ?_
                                refine G.ef rfl rfl rfl rfl rfl ?_
                                refine Ef.buildSliceV (len := 1) [_] Try.underlying60 el31 rfl (by simp [Value.cells]) rfl (by decide) (by decide) ?_
                                intro g19_2 w19_2 hg19_2 b19_2 h19_2
                                refine ⟨fun _ => h19_2, ?_⟩
                                have L34 := L33.trans h19_2
                                have b19_2 : Blk w19_2 g19_2 31 (([base key]).map pv1).flatten.toArray := b19_2
                                have o19_2 : OVec w19_2 w19_1.heap.size 31 pv1 1 (some ⟨g19_2, 0, none⟩) 1 1 ([base key]) := b19_2.ovec hg19_2 pv1_row rfl rfl (by decide)
                                refine G.ef rfl rfl rfl rfl rfl ?_
                                refine Ef.buildSliceV (len := 1) [_] Try.underlying66 el95 rfl (by simp [Value.cells, hopV_row.len]) rfl (by decide) (by decide) ?_
                                intro g19_4 w19_4 hg19_4 b19_4 h19_4
                                refine ⟨fun _ => h19_4, ?_⟩
                                have L35 := L34.trans h19_4
                                have b19_4 : Blk w19_4 g19_4 95 (([hopH sec am bl i]).map hopV).flatten.toArray := b19_4
                                have o19_4 : OVec w19_4 w19_2.heap.size 95 hopV 6 (some ⟨g19_4, 0, none⟩) 1 1 ([hopH sec am bl i]) := b19_4.ovec hg19_4 hopV_row rfl rfl (by decide)
                                have f36 := (o19_2.le h19_4)
                                refine G.ef rfl rfl rfl rfl rfl ?_
                                refine Ef.call go56 rfl rfl (wrap_one hse w19_4 f36.vec o19_4.vec ho hok) ?_
                                rintro _ w19_6 ⟨A19_6, c19_6, rfl, o19_6, cc19_6, h19_6⟩
                                refine ⟨_, rfl, ?_⟩
                                refine ⟨fun _ => h19_6, ?_⟩
                                have L37 := L35.trans h19_6
                                refine G.any rfl rfl (.move rfl) rfl rfl rfl ?_
                                refine G.any rfl rfl (.extract (v := .slice A19_6 680 c19_6) rfl rfl) rfl rfl rfl ?_
                                refine G.any rfl rfl (.extract (v := .int .i64 (0)) rfl rfl) rfl rfl rfl ?_
                                refine G.any rfl rfl (.assign rfl) rfl rfl rfl ?_
                                refine G.any rfl rfl (.assign rfl) rfl rfl rfl ?_
                                refine G.nil ?_
                                have f38 := (f32.le (h19_1.trans (h19_2.trans (h19_4.trans h19_6))))
                                have f39 := (m3_1.le (d19.trans (h19_1.trans (h19_2.trans (h19_4.trans h19_6)))))
                                have f40 := (m3_2.le (d19.trans (h19_1.trans (h19_2.trans (h19_4.trans h19_6)))))
                                refine E.meet (A19_6, c19_6) (.cons rfl (.cons rfl (.cons rfl (.cons rfl (.cons rfl (.cons rfl (.cons rfl (.cons rfl (.cons rfl (.cons rfl (.cons rfl (.nil _)))))))))))) ?_
                                exact ⟨by omega, L37, by have := d19.size; have := h19_1.size; have := h19_2.size; have := h19_4.size; have := h19_6.size; omega, f38, f39, f40, (o19_6.mono (by have := d19.size; have := h19_1.size; have := h19_2.size; have := h19_4.size; omega))⟩
                              · refine GT.last ?_
                                refine G.ef rfl rfl rfl rfl rfl ?_
                                refine Ef.buildSliceV (len := 1) [_] Try.underlying66 el95 rfl (by simp [Value.cells, hopV_row.len]) rfl (by decide) (by decide) ?_
                                intro g19_4_1 w19_4_1 hg19_4_1 b19_4_1 h19_4_1
                                refine ⟨fun _ => h19_4_1, ?_⟩
                                have L41 := L33.trans h19_4_1
                                have b19_4_1 : Blk w19_4_1 g19_4_1 95 (([hopH sec am bl i]).map hopV).flatten.toArray := b19_4_1
                                have o19_4_1 : OVec w19_4_1 w19_1.heap.size 95 hopV 6 (some ⟨g19_4_1, 0, none⟩) 1 1 ([hopH sec am bl i]) := b19_4_1.ovec hg19_4_1 hopV_row rfl rfl (by decide)
                                refine G.ef rfl rfl rfl rfl rfl ?_
                                refine Ef.buildSliceV (len := 1) [_] Try.underlying60 el31 rfl (by simp [Value.cells]) rfl (by decide) (by decide) ?_
                                intro g19_2_1 w19_2_1 hg19_2_1 b19_2_1 h19_2_1
                                refine ⟨fun _ => h19_2_1, ?_⟩
                                have L42 := L41.trans h19_2_1
                                have b19_2_1 : Blk w19_2_1 g19_2_1 31 (([base key]).map pv1).flatten.toArray := b19_2_1
                                have o19_2_1 : OVec w19_2_1 w19_4_1.heap.size 31 pv1 1 (some ⟨g19_2_1, 0, none⟩) 1 1 ([base key]) := b19_2_1.ovec hg19_2_1 pv1_row rfl rfl (by decide)
                                have f43 := (o19_4_1.le h19_2_1)
                                refine G.ef rfl rfl rfl rfl rfl ?_
                                refine Ef.call go56 rfl rfl (wrap_one hse w19_2_1 o19_2_1.vec f43.vec ho hok) ?_
                                rintro _ w19_6_1 ⟨A19_6_1, c19_6_1, rfl, o19_6_1, cc19_6_1, h19_6_1⟩
                                refine ⟨_, rfl, ?_⟩
                                refine ⟨fun _ => h19_6_1, ?_⟩
                                have L44 := L42.trans h19_6_1
                                refine G.any rfl rfl (.move rfl) rfl rfl rfl ?_
                                refine G.any rfl rfl (.extract (v := .slice A19_6_1 680 c19_6_1) rfl rfl) rfl rfl rfl ?_
                                refine G.any rfl rfl (.extract (v := .int .i64 (0)) rfl rfl) rfl rfl rfl ?_
                                refine G.any rfl rfl (.assign rfl) rfl rfl rfl ?_
                                refine G.any rfl rfl (.assign rfl) rfl rfl rfl ?_
                                refine G.nil ?_
                                have f45 := (f32.le (h19_1.trans (h19_4_1.trans (h19_2_1.trans h19_6_1))))
                                have f46 := (m3_1.le (d19.trans (h19_1.trans (h19_4_1.trans (h19_2_1.trans h19_6_1)))))
                                have f47 := (m3_2.le (d19.trans (h19_1.trans (h19_4_1.trans (h19_2_1.trans h19_6_1)))))
                                refine E.meet (A19_6_1, c19_6_1) (.cons rfl (.cons rfl (.cons rfl (.cons rfl (.cons rfl (.cons rfl (.cons rfl (.cons rfl (.cons rfl (.cons rfl (.cons rfl (.nil _)))))))))))) ?_
                                exact ⟨by omega, L44, by have := d19.size; have := h19_1.size; have := h19_4_1.size; have := h19_2_1.size; have := h19_6_1.size; omega, f45, f46, f47, (o19_6_1.mono (by have := d19.size; have := h19_1.size; have := h19_4_1.size; have := h19_2_1.size; omega))⟩
                            · refine GT.last ?_
                              refine G.ef rfl rfl rfl rfl rfl ?_
                              refine Ef.buildSliceV (len := 1) [_] Try.underlying66 el95 rfl (by simp [Value.cells, hopV_row.len]) rfl (by decide) (by decide) ?_
                              intro g19_4_2 w19_4_2 hg19_4_2 b19_4_2 h19_4_2
                              refine ⟨fun _ => h19_4_2, ?_⟩
                              have L48 := L30.trans h19_4_2
                              have b19_4_2 : Blk w19_4_2 g19_4_2 95 (([hopH sec am bl i]).map hopV).flatten.toArray := b19_4_2
                              have o19_4_2 : OVec w19_4_2 w19.heap.size 95 hopV 6 (some ⟨g19_4_2, 0, none⟩) 1 1 ([hopH sec am bl i]) := b19_4_2.ovec hg19_4_2 hopV_row rfl rfl (by decide)
                              refine G.ef rfl rfl rfl rfl rfl ?_
                              refine Ef.call go49 rfl rfl (base_ok key w19_4_2) ?_
                              rintro _ w19_1_1 ⟨rfl, h19_1_1⟩
                              refine ⟨_, rfl, ?_⟩
                              refine ⟨fun _ => h19_1_1, ?_⟩
                              have L49 := L48.trans h19_1_1
                              refine G.ef rfl rfl rfl rfl rfl ?_
                              refine Ef.buildSliceV (len := 1) [_] Try.underlying60 el31 rfl (by simp [Value.cells]) rfl (by decide) (by decide) ?_
                              intro g19_2_2 w19_2_2 hg19_2_2 b19_2_2 h19_2_2
                              refine ⟨fun _ => h19_2_2, ?_⟩
                              have L50 := L49.trans h19_2_2
                              have b19_2_2 : Blk w19_2_2 g19_2_2 31 (([base key]).map pv1).flatten.toArray := b19_2_2
                              have o19_2_2 : OVec w19_2_2 w19_1_1.heap.size 31 pv1 1 (some ⟨g19_2_2, 0, none⟩) 1 1 ([base key]) := b19_2_2.ovec hg19_2_2 pv1_row rfl rfl (by decide)
                              have f51 := (o19_4_2.le (h19_1_1.trans h19_2_2))
                              refine G.ef rfl rfl rfl rfl rfl ?_
                              refine Ef.call go56 rfl rfl (wrap_one hse w19_2_2 o19_2_2.vec f51.vec ho hok) ?_
                              rintro _ w19_6_2 ⟨A19_6_2, c19_6_2, rfl, o19_6_2, cc19_6_2, h19_6_2⟩
                              refine ⟨_, rfl, ?_⟩
                              refine ⟨fun _ => h19_6_2, ?_⟩
                              have L52 := L50.trans h19_6_2
                              refine G.any rfl rfl (.move rfl) rfl rfl rfl ?_
                              refine G.any rfl rfl (.extract (v := .slice A19_6_2 680 c19_6_2) rfl rfl) rfl rfl rfl ?_
                              refine G.any rfl rfl (.extract (v := .int .i64 (0)) rfl rfl) rfl rfl rfl ?_
                              refine G.any rfl rfl (.assign rfl) rfl rfl rfl ?_
                              refine G.any rfl rfl (.assign rfl) rfl rfl rfl ?_
                              refine G.nil ?_
                              have f53 := (f32.le (h19_4_2.trans (h19_1_1.trans (h19_2_2.trans h19_6_2))))
                              have f54 := (m3_1.le (d19.trans (h19_4_2.trans (h19_1_1.trans (h19_2_2.trans h19_6_2)))))
                              have f55 := (m3_2.le (d19.trans (h19_4_2.trans (h19_1_1.trans (h19_2_2.trans h19_6_2)))))
                              refine E.meet (A19_6_2, c19_6_2) (.cons rfl (.cons rfl (.cons rfl (.cons rfl (.cons rfl (.cons rfl (.cons rfl (.cons rfl (.cons rfl (.cons rfl (.cons rfl (.nil _)))))))))))) ?_
                              exact ⟨by omega, L52, by have := d19.size; have := h19_4_2.size; have := h19_1_1.size; have := h19_2_2.size; have := h19_6_2.size; omega, f53, f54, f55, (o19_6_2.mono (by have := d19.size; have := h19_4_2.size; have := h19_1_1.size; have := h19_2_2.size; omega))⟩
                          · rintro ⟨Aw, cw⟩ wc20 ⟨hcw, Lc4, sc4, m4_0, m4_1, m4_2, o4_18⟩
                            have lc4_5 : w12_3.heap.size ≤ wc20.heap.size := by have := lc3_5; have := sc4; omega
                            have lc4_10 : wc19.heap.size ≤ wc20.heap.size := by have := sc4; omega
                            refine WC.seq ?_
                            refine WC.region ?_
                            refine W.any (.move rfl) rfl rfl rfl ?_
                            refine W.any (.move rfl) rfl rfl rfl ?_
                            refine W.ef rfl rfl rfl ?_
                            refine Ef.call go57 rfl rfl (peel_one hkey wc20 o4_18.vec (by omega) hpe) ?_
                            rintro _ w20_2 ⟨A20_2, m20_2, c20_2, rfl, h20_2⟩
                            refine ⟨_, rfl, ?_⟩
                            have L56 := Lc4.trans h20_2
                            refine W.any (.move rfl) rfl rfl rfl ?_
                            refine W.any (.extract (v := .agg (hopV (hopH sec am bl i)).toArray) rfl rfl) rfl rfl rfl ?_
                            refine W.any (.extract (v := .slice A20_2 m20_2 c20_2) rfl rfl) rfl rfl rfl ?_
                            refine W.any (.extract (v := .agg (sum.map u8v).toArray) rfl rfl) rfl rfl rfl ?_
                            refine W.any (.extract (v := .int .i64 (0)) rfl rfl) rfl rfl rfl ?_
                            refine W.ef rfl rfl rfl ?_
                            refine Ef.allocA z95 ?_
                            intro g20_8 w20_8 hg20_8 b20_8 h20_8
                            have L57 := L56.trans h20_8
                            have b20_8 : Blk w20_8 g20_8 95 (hopV noHop).toArray := b20_8
                            refine W.ef rfl rfl rfl ?_
                            refine Ef.allocA z89 ?_
                            intro g20_9 w20_9 hg20_9 b20_9 h20_9
                            have L58 := L57.trans h20_9
                            have b20_9 : Blk w20_9 g20_9 89 #[.int .u8 (0), .int .u8 (0), .int .u8 (0), .int .u8 (0), .int .u8 (0), .int .u8 (0), .int .u8 (0), .int .u8 (0), .int .u8 (0), .int .u8 (0), .int .u8 (0), .int .u8 (0), .int .u8 (0), .int .u8 (0), .int .u8 (0), .int .u8 (0), .int .u8 (0), .int .u8 (0), .int .u8 (0), .int .u8 (0), .int .u8 (0), .int .u8 (0), .int .u8 (0), .int .u8 (0), .int .u8 (0), .int .u8 (0), .int .u8 (0), .int .u8 (0), .int .u8 (0), .int .u8 (0), .int .u8 (0), .int .u8 (0)] := b20_9
                            have f59 := (b20_8.le h20_9)
                            refine W.ef0 rfl rfl ?_
                            refine Ef.storeAll sz95 (by rfl) rfl rfl f59 (by rfl) (hopV_row.one (hopH sec am bl i)) ?_
                            intro w20_10 b20_10 h20_10
                            have b20_10 : Blk w20_10 g20_8 95 (hopV (hopH sec am bl i)).toArray := b20_10
                            have L60 : Le w w20_10 := L58.then_ h20_10 (fun q hq => by cases hq; exact Nat.le_trans L56.size hg20_8)
                            refine W.any (.assign rfl) rfl rfl rfl ?_
                            have f61 := (b20_9.ch h20_10 (fun h => (show g20_8 ≠ g20_9 from by have := b20_8.lt; omega) (Option.some.inj h)))
                            refine W.ef0 rfl rfl ?_
                            refine Ef.storeAll sz89 (by simp [hq32]) rfl rfl f61 (by simp [hq32]) (all_u8v _) ?_
                            intro w20_12 b20_12 h20_12
                            have b20_12 : Blk w20_12 g20_9 89 (sum.map u8v).toArray := b20_12
                            have L62 : Le w w20_12 := L60.then_ h20_12 (fun q hq => by cases hq; exact Nat.le_trans L57.size hg20_9)
                            refine W.any (.assign rfl) rfl rfl rfl ?_
                            refine W.nil ?_
                            refine E.thenN ?_
                            refine WC.seq ?_
                            refine WC.seq ?_
                            refine WC.region ?_
                            refine W.any (.move rfl) rfl rfl rfl ?_
                            refine W.any (.dec (.neq rfl rfl) (show _ = false from by decide)) rfl rfl rfl ?_
                            refine W.any (.move rfl) rfl rfl rfl ?_
                            refine W.rdg (Any.rd (.move rfl) _) rfl rfl rfl (rfl) rfl rfl ?_
                            refine W.rdg (Any.rd (.dec (.neq rfl rfl) (show _ = false from by decide)) _) rfl rfl rfl (rfl) rfl rfl ?_
                            refine W.any (.pickF rfl rfl rfl) rfl rfl rfl ?_
                            refine W.any (.move rfl) rfl rfl rfl ?_
                            refine W.rdg (Any.rd (.move rfl) _) rfl rfl rfl (rfl) rfl rfl ?_
                            refine W.rdg (.len Try.underlying38 rfl) rfl rfl rfl (rfl) rfl rfl ?_
                            refine W.rdg (Any.rd (.neq rfl rfl) _) rfl rfl rfl (rfl) rfl rfl ?_
                            refine W.any (.pickF rfl rfl rfl) rfl rfl rfl ?_
                            refine W.nil ?_
                            refine E.thenN ?_
                            refine WC.condN rfl (decide_eq_false (by rw [hox]; simp)) ?_
                            refine WC.skip ?_
                            refine E.thenN ?_
                            refine WC.seq ?_
                            refine WC.region ?_
                            refine W.any (.move rfl) rfl rfl rfl ?_
                            refine W.any (.field0 fa95_1 rfl) rfl rfl rfl ?_
                            have f63 := (b20_10.ch h20_12 (fun h => (show g20_9 ≠ g20_8 from by have := b20_8.lt; omega) (Option.some.inj h)))
                            refine W.rd (.loadB (v := .int .i64 ((hopH sec am bl i).2.1)) na3 rfl f63 rfl) rfl rfl rfl ?_
                            refine W.any (.move rfl) rfl rfl rfl ?_
                            refine W.any (.field0 fa95_2 rfl) rfl rfl rfl ?_
                            refine W.rd (.loadB (v := .int .i64 ((hopH sec am bl i).2.2.1)) na3 rfl f63 rfl) rfl rfl rfl ?_
                            refine W.any (.field0 fa95_3 rfl) rfl rfl rfl ?_
                            refine W.rd (.loadB (v := .int .i64 ((hopH sec am bl i).2.2.2.1)) na3 rfl f63 rfl) rfl rfl rfl ?_
                            refine W.any (.field0 fa95_4 rfl) rfl rfl rfl ?_
                            refine W.rd (.loadB (v := .int .u64 ((((hopH sec am bl i).2.2.2.2.1 : Nat) : Int))) na31 rfl f63 rfl) rfl rfl rfl ?_
                            refine W.any (.field0 fa95_5 rfl) rfl rfl rfl ?_
                            refine W.rd (.loadB (v := .int .u64 ((((hopH sec am bl i).2.2.2.2.2 : Nat) : Int))) na30 rfl f63 rfl) rfl rfl rfl ?_
                            refine W.any (.buildP (partV (prtH sec am bl i)) pl33 z33 rfl rfl) rfl rfl rfl ?_
                            have f64 := (((m4_1.le (h20_2.trans (h20_8.trans h20_9))).ch h20_10 (fun q hqq hF => by cases hqq; have := m4_1.lt hF; have := h20_2.size; have := hg20_8; omega)).ch h20_12 (fun q hqq hF => by cases hqq; have := m4_1.lt hF; have := h20_2.size; have := h20_8.size; have := hg20_9; omega))
                            refine W.ef rfl rfl rfl ?_
                            refine Ef.call go19 rfl rfl ((by have h := add_pool 9 (prtH sec am bl i) 10 f64; simp only [add_nine] at h; exact h)) ?_
                            rintro _ w23_13 ⟨F23_13, A23_13, c23_13, rfl, o23_13, p23_13, g23_13, n23_13, h23_13⟩
                            refine ⟨_, rfl, ?_⟩
                            have L65 := L62.chP_then h23_13 (fun i hi => Nat.le_trans L2.size (f64.old hi))
                            have f66 := (((m4_0.le (h20_2.trans (h20_8.trans h20_9))).ch h20_10 (fun h => (show g20_8 ≠ g0_0 from by have := m4_0.lt; have := h20_2.size; omega) (Option.some.inj h))).ch h20_12 (fun h => (show g20_9 ≠ g0_0 from by have := m4_0.lt; have := h20_2.size; have := h20_8.size; omega) (Option.some.inj h)))
                            have f67 := (((m4_2.le (h20_2.trans (h20_8.trans h20_9))).ch h20_10 (fun q hq => by cases hq; exact (fun he => by have := (m4_2.row he).2; have := h20_2.size; omega))).ch h20_12 (fun q hq => by cases hq; exact (fun he => by have := (m4_2.row he).2; have := h20_2.size; have := h20_8.size; omega)))
                            have f68 := (((o4_18.le (h20_2.trans (h20_8.trans h20_9))).ch h20_10 (fun q hq => by cases hq; exact (fun he => by have := (o4_18.row he).2; have := h20_2.size; omega))).ch h20_12 (fun q hq => by cases hq; exact (fun he => by have := (o4_18.row he).2; have := h20_2.size; have := h20_8.size; omega)))
                            have z69n := (show ¬ F g0_0 from (fun hF => by have := f64.old hF; have := b0_0.lt; have := h1_0.size; omega))
                            have z69 := f66.chP h23_13 z69n
                            have z69g : ¬ F23_13 g0_0 := fun hF => (g23_13 _ hF).elim z69n (fun hz => by have := f66.lt; omega)
                            have z70n := (show ∀ g, rowOf Aw cw = some g → ¬ F g from (fun g hg hF => by have := m3_1.lt hF;  have := (f68.row hg).1; omega))
                            have z70 := f68.chP h23_13 z70n
                            have z70g : ∀ g, rowOf Aw cw = some g → ¬ F23_13 g := fun g hg hF => (g23_13 _ hF).elim (z70n g hg) (fun hz => by have := (f68.row hg).2; omega)
                            have z71n := (show ¬ F g20_8 from (fun hF => by have := m4_1.lt hF; have := h20_2.size; have := hg20_8; omega))
                            have z71 := f63.chP h23_13 z71n
                            have z71g : ¬ F23_13 g20_8 := fun hF => (g23_13 _ hF).elim z71n (fun hz => by have := f63.lt; omega)
                            have z72n := (show ¬ F g20_9 from (fun hF => by have := m4_1.lt hF; have := h20_2.size; have := h20_8.size; have := hg20_9; omega))
                            have z72 := b20_12.chP h23_13 z72n
                            have z72g : ¬ F23_13 g20_9 := fun hF => (g23_13 _ hF).elim z72n (fun hz => by have := b20_12.lt; omega)
                            refine W.any (.move rfl) rfl rfl rfl ?_
                            refine W.any (.extract (v := .slice A23_13 ((outP p (prtH sec am bl i) 10).length) c23_13) rfl rfl) rfl rfl rfl ?_
                            refine W.any (.extract (v := .int .i64 ((errP p (prtH sec am bl i) 10))) rfl rfl) rfl rfl rfl ?_
                            refine W.any (.assign rfl) rfl rfl rfl ?_
                            refine W.any (.assign rfl) rfl rfl rfl ?_
                            refine W.nil ?_
                            refine E.thenN ?_
                            refine WC.seq ?_
                            refine WC.seq ?_
                            refine WC.region ?_
                            refine W.any (.move rfl) rfl rfl rfl ?_
                            refine W.any (.neq rfl rfl) rfl rfl rfl ?_
                            refine W.any (.dec (.move rfl) (decide_eq_false (by rw [k1]; simp))) rfl rfl rfl ?_
                            refine W.rdg (Any.rd (.move rfl) _) rfl rfl rfl (rfl) rfl rfl ?_
                            refine W.rdg (.len Try.underlying38 rfl) rfl rfl rfl (rfl) rfl rfl ?_
                            refine W.rdg (Any.rd (.gtr rfl rfl) _) rfl rfl rfl (rfl) rfl rfl ?_
                            refine W.rdg (Any.rd (.move rfl) _) rfl rfl rfl (rfl) rfl rfl ?_
                            refine W.rdg (Any.rd (.move rfl) _) rfl rfl rfl (rfl) rfl rfl ?_
                            refine W.rdg (.len Try.underlying61 rfl) rfl rfl rfl (rfl) rfl rfl ?_
                            refine W.rdg (Any.rd (.sub rfl rfl (by omega)) _) rfl rfl rfl (rfl) rfl rfl ?_
                            refine W.rdg (Any.rd (.eql rfl rfl) _) rfl rfl rfl (rfl) rfl rfl ?_
                            refine W.rdg (Any.rd (.bneq Try.underlying4 rfl rfl) _) rfl rfl rfl (rfl) rfl rfl ?_
                            refine W.any (.pickF rfl rfl rfl) rfl rfl rfl ?_
                            refine W.nil ?_
                            refine E.thenN ?_
                            refine WC.condN rfl ((Bool.eq_false_iff.2 (by rw [k2]; simp))) ?_
                            refine WC.skip ?_
                            refine E.thenN ?_
                            refine WC.region ?_
                            refine W.any (.move rfl) rfl rfl rfl ?_
                            refine W.any (.assign rfl) rfl rfl rfl ?_
                            refine W.nil ?_
                            refine E.blkN ?_
                            refine E.thenN ?_
                            refine WC.region ?_
                            refine W.any (.move rfl) rfl rfl rfl ?_
                            refine W.any (.add rfl rfl (by omega)) rfl rfl rfl ?_
                            refine W.any (.assign rfl) rfl rfl rfl ?_
                            refine W.nil ?_
                            refine E.again (i + 1, F23_13, nextP p (prtH sec am bl i) 10, A23_13, c23_13, (outP p (prtH sec am bl i) 10)) (.cons rfl (.cons rfl (.cons rfl (.cons rfl (.cons rfl (.cons rfl (.cons rfl (.cons rfl (.cons rfl (.nil _)))))))))) ?_ ?_
                            · exact ⟨by omega, k3, L65, by have := sz1; have := h20_2.size; have := h20_8.size; have := h20_9.size; have := h20_10.size; have := h20_12.size; have := h23_13.size; have := sz0; have := sc3; have := sc4; have := h0_0.size; have := h1_0.size; have := h2_0.size; have := h12_3.size; omega, z69, p23_13, (o23_13.mono (by have := sz1; have := h20_2.size; have := h20_8.size; have := h20_9.size; have := h20_10.size; have := h20_12.size; have := h23_13.size; have := sz0; have := sc3; have := sc4; have := h0_0.size; have := h1_0.size; have := h2_0.size; have := h12_3.size;  omega))⟩
                            · first | omega | (simp only []; omega)
                      · refine WC.condN rfl (decide_eq_false c4) ?_
                        obtain ⟨z1, z2, z3⟩ := hP.cls (by omega)
                        have z4 : ox.length = nb := by rw [z3]; simp
                        have z5 : ∀ k, k < nb → ox.getD k noPaid = paidOf sec (prtH sec am bl k) := fun k hk => by rw [z3]; exact paid_at hk
                        refine WC.exit ?_
                        refine E.thenX ?_
                        refine E.thenX ?_
                        refine E.blkH ?_
                        refine E.thenN ?_
                        refine WC.seq ?_
                        refine WC.seq ?_
                        refine WC.region ?_
                        refine W.any (.assign rfl) rfl rfl rfl ?_
                        refine W.nil ?_
                        refine E.thenN ?_
                        refine WC.block ?_
                        refine WC.loop (ι := Nat) (fun k => [(0, .int .u64 (((sec : Nat) : Int))), (2, .slice Ab nb cb), (11, .bool true), (12, .pointer (some ⟨gp2_0, 0, none⟩)), (15, .slice Ao ox.length co), (26, .int .i64 (((k : Nat) : Int)))]) (fun k wl2 => (k ≤ nb) ∧ Le w wl2 ∧ wl1.heap.size ≤ wl2.heap.size ∧ Pool wl2 w1_0.heap.size gp2_0 F ([(9, p)]) ∧ OVec wl2 w12_3.heap.size 57 paidV 3 Ao ox.length co ox) (fun k => nb - k) 0 ?_ ?_ ?_
                        · exact .cons rfl (.cons rfl (.cons rfl (.cons rfl (.cons rfl (.cons rfl (.nil _))))))
                        · exact ⟨Nat.zero_le _, Ll1, Nat.le_refl _, f1_1, f1_2⟩
                        · rintro k wl2 ⟨hk, Ll2, sz2, f2_0, f2_1⟩
                          have lb2_5 : w12_3.heap.size ≤ wl2.heap.size := Nat.le_trans lb1_5 (by omega)
                          refine WC.seq ?_
                          refine WC.seq ?_
                          refine WC.region ?_
                          refine W.any (.move rfl) rfl rfl rfl ?_
                          refine W.any (.move rfl) rfl rfl rfl ?_
                          refine W.rd (.len Try.underlying38 rfl) rfl rfl rfl ?_
                          refine W.any (.lss rfl rfl) rfl rfl rfl ?_
                          refine W.nil ?_
                          refine E.thenN ?_
                          by_cases c7 : ((k : Nat) : Int) < ((ox.length : Nat) : Int)
                          · refine WC.condY rfl (decide_eq_true c7) ?_
                            refine WC.skip ?_
                            refine E.thenN ?_
                            refine WC.seq ?_
                            refine WC.block ?_
                            refine WC.seq ?_
                            refine WC.draw [0, 1, 2, 3, 4, 5, 6, 7, 8, 9, 10, 11, 12, 13, 14, 15, 16, 17, 18, 19, 20] mixed (by kernel_rfl) ?_
                            intro w30 d30
                            have L73 := Ll2.trans d30
                            refine G.any rfl rfl (.move rfl) rfl rfl rfl ?_
                            refine G.any rfl rfl (.move rfl) rfl rfl rfl ?_
                            refine G.any rfl rfl (.idxS (k) Try.underlying38 sz57 rfl rfl (f1_2.vec.isSome paidV_row (by omega)) (rfl) (by omega)) rfl rfl rfl ?_
                            refine G.any rfl rfl (.vfield fa57_1 (f1_2.vec.isSome paidV_row (by omega)) rfl) rfl rfl rfl ?_
                            have f74 := (f2_1.le d30)
                            refine G.rd rfl rfl (.vcell (j := k) (o := 1) (v := .int .i64 ((ox.getD k noPaid).id)) na3 rfl f74.vec paidV_row (getS ox noPaid (by first | omega | (simp only [List.length_cons, List.length_nil]; omega))) rfl) rfl rfl rfl ?_
                            refine G.any rfl rfl (.move rfl) rfl rfl rfl ?_
                            refine G.any rfl rfl (.neq rfl rfl) rfl rfl rfl ?_
                            refine G.any rfl rfl (.dec (.move rfl) (decide_eq_false (fun hne => hne (by rw [z5 k (by omega)]; rfl)))) rfl rfl rfl ?_
                            refine G.anyg rfl rfl (.move rfl) rfl rfl rfl (rfl) rfl rfl ?_
                            refine G.anyg rfl rfl (.move rfl) rfl rfl rfl (rfl) rfl rfl ?_
                            refine G.anyg rfl rfl (.idxS (k) Try.underlying38 sz57 rfl rfl (f1_2.vec.isSome paidV_row (by omega)) (rfl) (by omega)) rfl rfl rfl (rfl) rfl rfl ?_
                            refine G.anyg rfl rfl (.vfield fa57_2 (f1_2.vec.isSome paidV_row (by omega)) rfl) rfl rfl rfl (rfl) rfl rfl ?_
                            refine G.rdg rfl rfl (.vcell (j := k) (o := 2) (v := .int .u64 ((((ox.getD k noPaid).sec : Nat) : Int))) na30 rfl f74.vec paidV_row (getS ox noPaid (by first | omega | (simp only [List.length_cons, List.length_nil]; omega))) rfl) rfl rfl rfl (rfl) rfl rfl ?_
                            refine G.anyg rfl rfl (.move rfl) rfl rfl rfl (rfl) rfl rfl ?_
                            refine G.anyg rfl rfl (.move rfl) rfl rfl rfl (rfl) rfl rfl ?_
                            refine G.anyg rfl rfl (.move rfl) rfl rfl rfl (rfl) rfl rfl ?_
                            refine G.anyg rfl rfl (.idxS (k) Try.underlying61 sz30 rfl rfl (hb.isSome pv1_row (by omega)) (rfl) (by omega)) rfl rfl rfl (rfl) rfl rfl ?_
                            refine G.rdg rfl rfl (.vone (v := .int .u64 ((((bl.getD k 0) : Nat) : Int))) na30 rfl (hb.le L73) pv1_row (getS bl 0 (by first | omega | (simp only [List.length_cons, List.length_nil]; omega))) rfl) rfl rfl rfl (rfl) rfl rfl ?_
                            refine G.efg rfl rfl rfl rfl rfl (rfl) rfl rfl ?_
                            refine Ef.call go55 rfl rfl (fadd_ok sec (bl.getD k 0) w30) ?_
                            rintro _ w30_18 ⟨rfl, h30_18⟩
                            refine ⟨_, rfl, ?_⟩
                            refine ⟨fun _ => h30_18, ?_⟩
                            have L75 := L73.trans h30_18
                            refine G.anyg rfl rfl (.neq rfl rfl) rfl rfl rfl (rfl) rfl rfl ?_
                            refine G.any rfl rfl (.pickF rfl rfl rfl) rfl rfl rfl ?_
                            refine G.nil ?_
                            refine E.thenN ?_
                            refine WC.condN rfl (decide_eq_false (fun hne => hne (by rw [z5 k (by omega)]; rfl))) ?_
                            refine WC.skip ?_
                            refine E.blkN ?_
                            refine E.thenN ?_
                            refine WC.region ?_
                            refine W.any (.move rfl) rfl rfl rfl ?_
                            refine W.any (.add rfl rfl (by omega)) rfl rfl rfl ?_
                            refine W.any (.assign rfl) rfl rfl rfl ?_
                            refine W.nil ?_
                            have f76 := (f2_0.le (d30.trans h30_18))
                            have f77 := (f74.le h30_18)
                            refine E.again (k + 1) (.cons rfl (.cons rfl (.cons rfl (.cons rfl (.cons rfl (.cons rfl (.nil _))))))) ?_ ?_
                            · exact ⟨by omega, L75, by have := sz2; have := d30.size; have := h30_18.size; omega, f76, f77⟩
                            · first | omega | (simp only []; omega)
                          · refine WC.condN rfl (decide_eq_false c7) ?_
                            refine WC.exit ?_
                            refine E.thenX ?_
                            refine E.thenX ?_
                            refine E.blkH ?_
                            refine E.thenN ?_
                            refine WC.seq ?_
                            refine WC.region ?_
                            refine W.any (.move rfl) rfl rfl rfl ?_
                            refine W.ef rfl rfl rfl ?_
                            refine Ef.call go25 rfl rfl ((by have h := over_pool 9 f2_0; simp only [over_nine] at h; exact h)) ?_
                            rintro _ w32_1 ⟨rfl, h32_1⟩
                            refine ⟨_, rfl, ?_⟩
                            have L78 := Ll2.trans h32_1
                            refine W.any (.move rfl) rfl rfl rfl ?_
                            refine W.any (.extract (v := .bool (p.ovr)) rfl rfl) rfl rfl rfl ?_
                            refine W.any (.extract (v := .bool (p.paid)) rfl rfl) rfl rfl rfl ?_
                            refine W.any (.assign rfl) rfl rfl rfl ?_
                            refine W.any (.assign rfl) rfl rfl rfl ?_
                            refine W.nil ?_
                            refine E.thenN ?_
                            refine WC.seq ?_
                            refine WC.region ?_
                            refine W.any (.move rfl) rfl rfl rfl ?_
                            refine W.any (.move rfl) rfl rfl rfl ?_
                            refine W.rdg (Any.rd (.move rfl) _) rfl rfl rfl (rfl) rfl rfl ?_
                            refine W.rdg (.len Try.underlying38 rfl) rfl rfl rfl (rfl) rfl rfl ?_
                            refine W.rdg (Any.rd (.move rfl) _) rfl rfl rfl (rfl) rfl rfl ?_
                            refine W.rdg (.len Try.underlying61 rfl) rfl rfl rfl (rfl) rfl rfl ?_
                            refine W.rdg (Any.rd (.eql rfl rfl) _) rfl rfl rfl (rfl) rfl rfl ?_
                            refine W.any (.pickT rfl rfl rfl) rfl rfl rfl ?_
                            refine W.any (.dec (.move rfl) (decide_eq_true (by omega))) rfl rfl rfl ?_
                            refine W.rdg (Any.rd (.move rfl) _) rfl rfl rfl (rfl) rfl rfl ?_
                            refine W.any (.pickT rfl rfl rfl) rfl rfl rfl ?_
                            refine W.any (.dec (.move rfl) (z1)) rfl rfl rfl ?_
                            refine W.rdg (Any.rd (.move rfl) _) rfl rfl rfl (rfl) rfl rfl ?_
                            refine W.any (.pickT rfl rfl rfl) rfl rfl rfl ?_
                            refine W.any (.dec (.move rfl) (z2)) rfl rfl rfl ?_
                            refine W.rdg (Any.rd (.move rfl) _) rfl rfl rfl (rfl) rfl rfl ?_
                            have f79 := (f2_0.le h32_1)
                            refine W.efg rfl rfl rfl (rfl) rfl rfl ?_
                            refine Ef.call go22 rfl rfl ((by have h := late_pool 99 f79 (by simp); simp only [late_nine] at h; exact h)) ?_
                            rintro _ w33_16 ⟨F33_16, A33_16, c33_16, rfl, o33_16, p33_16, g33_16, n33_16, h33_16⟩
                            refine ⟨_, rfl, ?_⟩
                            have L80 := L78.chP_then h33_16 (fun i hi => Nat.le_trans L2.size (f79.old hi))
                            have f81 := (f2_1.le h32_1)
                            refine W.rdg (.len Try.underlying46 rfl) rfl rfl rfl (rfl) rfl rfl ?_
                            refine W.rdg (Any.rd (.dec (.eql rfl rfl) (decide_eq_true (by rw [if_neg (by simp [dueP, z1])]; rfl))) _) rfl rfl rfl (rfl) rfl rfl ?_
                            refine W.any (.pickT rfl rfl rfl) rfl rfl rfl ?_
                            refine W.any (.assign rfl) rfl rfl rfl ?_
                            refine W.nil ?_
                            refine E.thenN ?_
                            refine WC.ret ?_
                            refine E.retG1 rfl rfl ?_
                            exact ⟨rfl, L80⟩
end Go.Proofs.Ytfgakofjkldcjaa

