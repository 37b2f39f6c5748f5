/- GraphAds: for every input the law answers true and leaves its arguments as they were. -/
import Derived.Test.YtgpdfkplkaojcaaGreatGraphAdsL
import Derived.OrdersHeld
import Derived.WalkKit
import Derived.Deep.AppendSrc
import Derived.Deep.MidRow
import Derived.Laws.OwnMore
import Derived.WalkSpells
import Derived.Lib.ConvBytes
import Derived.Lib.AppendZerosOnto
import Derived.Laws.StructEq
import Derived.Maps.RangeRun
import Derived.Laws.Pointers
import Derived.Test.YtgpdfkplkaojcaaGreatProg
import Derived.KernelRfl
import Derived.Lib.Mul64
namespace Go.Proofs.YtgpdfkplkaojcaaGreat
open Go Go.Sx Go.Hsp Go.Num Go.Osp Go.Gsp Go.Asp
set_option maxRecDepth 20000
set_option linter.unusedSimpArgs false
set_option linter.unusedVariables false
def adV (a : Asp.Ad) : List Value := [.int .i64 a.e.f, .int .i64 a.e.t, .int .i64 a.e.c, .int .i64 a.e.r, .int .i64 a.e.pol.b, .int .i64 a.e.pol.p, .int .i64 a.e.pol.d, .int .i64 a.e.pol.l, .int .i64 a.e.pol.m, .int .i64 a.no, .bool a.gone, .int .u64 (a.sg.r : Nat), .int .u64 (a.sg.s : Nat)]
theorem adV_row : RowF adV 13 := ⟨fun _ => rfl, fun x v hv => by simp [adV] at hv; rcases hv with rfl | rfl | rfl | rfl | rfl | rfl | rfl | rfl | rfl | rfl | rfl | rfl | rfl <;> rfl, by decide⟩
def idxI (pr : Int → Bool) (xs : List Int) : Int := if xs.any pr then (xs.findIdx pr : Int) else -1
theorem idxI_at {pr : Int → Bool} {xs : List Int} {k : Nat} (hk : k < xs.length) (hb : ∀ j, j < k → ¬ pr (xs.getD j 0) = true) (h : pr (xs.getD k 0) = true) : (k : Int) = idxI pr xs := by
  have hx : xs.getD k 0 = xs[k] := by simp [List.getD, hk]
  have : xs.findIdx pr = k := by
    rw [List.findIdx_eq hk]
    exact ⟨by rw [← hx]; exact h, fun j hj => by have := hb j hj; simpa [List.getD, show j < xs.length by omega] using this⟩
  rw [idxI, if_pos (by rw [List.any_eq_true]; exact ⟨xs[k], List.getElem_mem hk, by rw [← hx]; exact h⟩), this]
theorem idxI_no {pr : Int → Bool} {xs : List Int} {k : Nat} (hk : xs.length ≤ k) (hb : ∀ j, j < k → j < xs.length → ¬ pr (xs.getD j 0) = true) : -1 = idxI pr xs := by
  rw [idxI, if_neg]
  rw [List.any_eq_true]
  rintro ⟨y, hy, hp⟩
  obtain ⟨j, hj, rfl⟩ := List.mem_iff_getElem.1 hy
  exact hb j (by omega) hj (by simpa [List.getD, hj] using hp)
theorem idxI_any (pr : Int → Bool) (xs : List Int) : decide (idxI pr xs ≥ 0) = xs.any pr := by
  unfold idxI; split
  · rename_i h; rw [h]; exact decide_eq_true (by omega)
  · rename_i h; rw [Bool.not_eq_true] at h; rw [h]; rfl
theorem all_not (lo hi : Int) (xs : List Int) : (!xs.any fun n => !inB n lo hi) = xs.all fun n => inB n lo hi := by
  rw [List.all_eq_not_any_not]
theorem rowsN_snoc {ns : List Int} : ∀ {k : Nat}, k < ns.length → rowsN (ns.take (k + 1)) = rowsN (ns.take k) ++ rowN (ns.getD k 0).toNat := by
  induction ns with
  | nil => intro k h; simp at h
  | cons a l ih =>
    intro k h
    cases k with
    | zero => simp [rowsN]
    | succ k =>
      have := ih (k := k) (by simpa using h)
      rw [List.take_succ_cons, List.take_succ_cons, rowsN, rowsN, this, List.append_assoc]; rfl
theorem rowsN_len {ns : List Int} (h : ∀ k, ns.getD k 0 ≤ 1125899906842624) : ∀ k, (rowsN (ns.take k)).length ≤ 10 * k
  | 0 => by simp [rowsN]
  | k + 1 => by
    have ih := rowsN_len h k
    by_cases hk : k < ns.length
    · rw [rowsN_snoc hk, List.length_append]
      have := rowN_length (ns.getD k 0).toNat (by have := h k; omega)
      omega
    · rw [List.take_of_length_le (by omega), ← List.take_of_length_le (show ns.length ≤ k by omega)]; omega
theorem adNums_in {e : Gsp.Edge} {no : Int} {g : Bool} (h : mayA e no = true) (k : Nat) : 0 ≤ (adNums e no g).getD k 0 ∧ (adNums e no g).getD k 0 ≤ 1125899906842624 := by
  obtain ⟨h1, h2⟩ := mayA_T h
  have h3 := edgeA_T h1
  unfold adNums
  rcases k with _ | _ | _ | _ | _ | _ | _ | _ | _ | _ | _ | k <;> simp <;> (try split) <;> omega
theorem within1_ok (n lo hi : Int) {g1 g2 : Nat} (w : World) (hg1 : Blk w g1 3 #[.int .i64 lo]) (hg2 : Blk w g2 3 #[.int .i64 hi]) : Calls Tryz.prog 65 #[.int .i64 (n), .pointer (some ⟨g1, 0, none⟩), .pointer (some ⟨g2, 0, none⟩)] w fun r w' => r = .returned (.bool (!inB n lo hi)) ∧ Le w w' := by
  refine enter Tryz.func65 rfl rfl ?_
  have L0 := Le.refl w
  refine WC.seq ?_
  refine WC.region ?_
  refine W.any (.assign rfl) rfl rfl rfl ?_
  refine W.nil ?_
  refine E.thenN ?_
  refine WC.seq ?_
  refine WC.region ?_
  refine W.any (.move rfl) rfl rfl rfl ?_
  refine W.rd (.loadB (v := .int .i64 (lo)) na3 rfl (hg1.le L0) rfl) rfl rfl rfl ?_
  refine W.any (.lss rfl rfl) rfl rfl rfl ?_
  by_cases q1_3 : n < lo
  · refine W.any (.dec (.move rfl) (decide_eq_true q1_3)) rfl rfl rfl ?_
    refine W.skip rfl rfl rfl (rfl) rfl rfl ?_
    refine W.skip rfl rfl rfl (rfl) rfl rfl ?_
    refine W.skip rfl rfl rfl (rfl) rfl rfl ?_
    refine W.any (.pickT rfl rfl rfl) rfl rfl rfl ?_
    refine W.any (.assign rfl) rfl rfl rfl ?_
    refine W.nil ?_
    refine E.thenN ?_
    refine WC.ret ?_
    refine E.retG1 rfl rfl ?_
    exact ⟨congrArg (fun b => Ending.returned (Value.bool b)) (by rw [Bool.eq_iff_iff]; simp [inB]; omega), L0⟩
  · refine W.any (.dec (.move rfl) (decide_eq_false q1_3)) rfl rfl rfl ?_
    refine W.rdg (Any.rd (.move rfl) _) rfl rfl rfl (rfl) rfl rfl ?_
    refine W.rdg (.loadB (v := .int .i64 (hi)) na3 rfl (hg2.le L0) rfl) rfl rfl rfl (rfl) rfl rfl ?_
    refine W.rdg (Any.rd (.gtr rfl rfl) _) rfl rfl rfl (rfl) rfl rfl ?_
    refine W.any (.pickF rfl rfl rfl) rfl rfl rfl ?_
    refine W.any (.assign rfl) rfl rfl rfl ?_
    refine W.nil ?_
    refine E.thenN ?_
    refine WC.ret ?_
    refine E.retG1 rfl rfl ?_
    exact ⟨congrArg (fun b => Ending.returned (Value.bool b)) (by rw [Bool.eq_iff_iff]; simp [inB]; omega), L0⟩

theorem indexi_ok {A : Option Addr} {n c : Nat} {xs : List Int} {F : Nat} {caps : Array Value} (pr : Int → Bool) (hgo : IsGo Tryz.prog F) (w : World) (hV : Vec w iv 1 A n xs) (hn : n ≤ 1000000) (hf : ∀ (i : Int) (w1 : World), Le w w1 → Calls Tryz.prog F (#[.int .i64 i] ++ caps) w1 fun r w2 => r = .returned (.bool (pr i)) ∧ Le w1 w2) : Calls Tryz.prog 67 #[.slice A n c, .func (.func F) #[] caps] w fun r w' => r = .returned (.int .i64 (idxI pr xs)) ∧ Le w w' := by
  have hl := hV.1
  refine enter Tryz.func67 rfl rfl ?_
  have L0 := Le.refl w
  refine WC.seq ?_
  refine WC.region ?_
  refine W.any (.assign rfl) rfl rfl rfl ?_
  refine W.nil ?_
  refine E.thenN ?_
  refine WC.seq ?_
  refine WC.seq ?_
  refine WC.region ?_
  refine W.any (.move rfl) rfl rfl rfl ?_
  refine W.rd (.len Tryz.underlying23 rfl) rfl rfl rfl ?_
  refine W.any (.move rfl) rfl rfl rfl ?_
  refine W.nil ?_
  refine E.thenN ?_
  refine WC.block ?_
  refine WC.loop (ι := Nat) (fun k => [(0, .slice A n c), (1, .func (.func F) #[] caps), (7, .int .i64 (((n : Nat) : Int))), (8, .int .i64 (((k : Nat) : Int)))]) (fun k wl0 => (k ≤ n) ∧ (∀ j, j < k → ¬ pr (xs.getD j 0) = true) ∧ Le w wl0 ∧ w.heap.size ≤ wl0.heap.size) (fun k => n - k) 0 ?_ ?_ ?_
  · exact .cons rfl (.cons rfl (.cons rfl (.cons rfl (.nil _))))
  · exact ⟨Nat.zero_le _, fun j hj => absurd hj (Nat.not_lt_zero _), L0, Nat.le_refl _⟩
  · rintro k wl0 ⟨hk, hz, Ll0, zl0⟩
    refine WC.seq ?_
    refine WC.region ?_
    refine W.any (.lss rfl rfl) rfl rfl rfl ?_
    refine W.nil ?_
    refine E.thenN ?_
    refine WC.seq ?_
    by_cases c0 : ((k : Nat) : Int) < ((n : Nat) : Int)
    · refine WC.condY rfl (decide_eq_true c0) ?_
      refine WC.skip ?_
      refine E.thenN ?_
      refine WC.seq ?_
      refine WC.block ?_
      refine WC.seq ?_
      refine WC.region ?_
      refine W.any (.move rfl) rfl rfl rfl ?_
      refine W.any (.assign rfl) rfl rfl rfl ?_
      refine W.nil ?_
      refine E.thenN ?_
      refine WC.seq ?_
      refine WC.region ?_
      refine W.any (.move rfl) rfl rfl rfl ?_
      refine W.any (.move rfl) rfl rfl rfl ?_
      refine W.any (.move rfl) rfl rfl rfl ?_
      refine W.any (.idxS (k) Tryz.underlying23 sz3 rfl rfl (hV.isSome iv_row (by omega)) (rfl) (by omega)) rfl rfl rfl ?_
      refine W.rd (.vone (v := .int .i64 ((xs.getD k 0))) na3 rfl (hV.le Ll0) iv_row (getS xs 0 (by first | omega | (simp only [List.length_cons, List.length_nil]; omega))) rfl) rfl rfl rfl ?_
      refine W.ef rfl rfl rfl ?_
      refine Ef.callC hgo rfl rfl rfl (hf _ _ Ll0) ?_
      rintro _ w4_5 ⟨rfl, h4_5⟩
      refine ⟨_, rfl, ?_⟩
      have L1 := Ll0.trans h4_5
      refine W.nil ?_
      refine E.thenN ?_
      by_cases c1 : (pr (xs.getD k 0)) = true
      · refine WC.condY rfl (c1) ?_
        refine WC.seq ?_
        refine WC.region ?_
        refine W.any (.move rfl) rfl rfl rfl ?_
        refine W.any (.assign rfl) rfl rfl rfl ?_
        refine W.nil ?_
        refine E.thenN ?_
        refine WC.ret ?_
        refine E.blkR ?_
        refine E.thenR ?_
        refine E.thenR ?_
        refine E.blkR ?_
        refine E.thenR ?_
        refine E.retG1 rfl rfl ?_
        exact ⟨by rw [idxI_at (by omega) hz c1], L1⟩
      · refine WC.condN rfl ((Bool.eq_false_iff.2 c1)) ?_
        refine WC.skip ?_
        refine E.blkN ?_
        refine E.thenN ?_
        refine WC.region ?_
        refine W.any (.add rfl rfl (by omega)) rfl rfl rfl ?_
        refine W.any (.move rfl) rfl rfl rfl ?_
        refine W.nil ?_
        refine E.again (k + 1) (.cons rfl (.cons rfl (.cons rfl (.cons rfl (.nil _))))) ?_ ?_
        · exact ⟨by omega, fun j hj => by rcases Nat.lt_or_ge j k with h | h; exact hz j h; rw [show j = k by omega]; exact c1, L1, by have := zl0; have := h4_5.size; omega⟩
        · first | omega | (simp only []; omega)
    · refine WC.condN rfl (decide_eq_false c0) ?_
      refine WC.exit ?_
      refine E.thenX ?_
      refine E.thenX ?_
      refine E.blkH ?_
      refine E.thenN ?_
      refine WC.seq ?_
      refine WC.region ?_
      refine W.any (.assign rfl) rfl rfl rfl ?_
      refine W.nil ?_
      refine E.thenN ?_
      refine WC.ret ?_
      refine E.retG1 rfl rfl ?_
      exact ⟨by rw [idxI_no (k := k) (by omega) (fun j h1 _ => hz j h1)], Ll0⟩

theorem contains_ok {A : Option Addr} {n c : Nat} {xs : List Int} {F : Nat} {caps : Array Value} (pr : Int → Bool) (hgo : IsGo Tryz.prog F) (w : World) (hV : Vec w iv 1 A n xs) (hn : n ≤ 1000000) (hf : ∀ (i : Int) (w1 : World), Le w w1 → Calls Tryz.prog F (#[.int .i64 i] ++ caps) w1 fun r w2 => r = .returned (.bool (pr i)) ∧ Le w1 w2) : Calls Tryz.prog 64 #[.slice A n c, .func (.func F) #[] caps] w fun r w' => r = .returned (.bool (xs.any pr)) ∧ Le w w' := by
  have hl := hV.1
  refine enter Tryz.func64 rfl rfl ?_
  have L0 := Le.refl w
  refine WC.seq ?_
  refine WC.region ?_
  refine W.any (.assign rfl) rfl rfl rfl ?_
  refine W.nil ?_
  refine E.thenN ?_
  refine WC.seq ?_
  refine WC.region ?_
  refine W.any (.move rfl) rfl rfl rfl ?_
  refine W.any (.move rfl) rfl rfl rfl ?_
  refine W.ef rfl rfl rfl ?_
  refine Ef.call go67 rfl rfl (indexi_ok pr hgo w (hV.le L0) hn hf) ?_
  rintro _ w1_2 ⟨rfl, h1_2⟩
  refine ⟨_, rfl, ?_⟩
  have L1 := L0.trans h1_2
  refine W.any (.geq rfl rfl) rfl rfl rfl ?_
  refine W.any (.assign rfl) rfl rfl rfl ?_
  refine W.nil ?_
  refine E.thenN ?_
  refine WC.ret ?_
  refine E.retG1 rfl rfl ?_
  exact ⟨by rw [← idxI_any], L1⟩

theorem within_ok (lo hi : Int) {A : Option Addr} {n c : Nat} {xs : List Int} (w : World) (hV : Vec w iv 1 A n xs) (hn : n ≤ 1000000) : Calls Tryz.prog 29 #[.int .i64 (lo), .int .i64 (hi), .slice A n c] w fun r w' => r = .returned (.bool (xs.all fun n => inB n lo hi)) ∧ Le w w' := by
  have hl := hV.1
  refine enter Tryz.func29 rfl rfl ?_
  have L0 := Le.refl w
  refine WC.seq ?_
  refine WC.region ?_
  refine W.ef rfl rfl rfl ?_
  refine Ef.box rfl ?_
  intro g0_0 w0_0 hg0_0 b0_0 h0_0
  have L1 := L0.trans h0_0
  have b0_0 : Blk w0_0 g0_0 3 #[.int .i64 (lo)] := b0_0
  refine W.ef rfl rfl rfl ?_
  refine Ef.box rfl ?_
  intro g0_1 w0_1 hg0_1 b0_1 h0_1
  have L2 := L1.trans h0_1
  have b0_1 : Blk w0_1 g0_1 3 #[.int .i64 (hi)] := b0_1
  refine W.any (.assign rfl) rfl rfl rfl ?_
  refine W.nil ?_
  refine E.thenN ?_
  refine WC.seq ?_
  refine WC.region ?_
  refine W.any (.move rfl) rfl rfl rfl ?_
  refine W.any (.makeFunc rfl) rfl rfl rfl ?_
  have f3 := (b0_0.le h0_1)
  refine W.ef rfl rfl rfl ?_
  refine Ef.call go64 rfl rfl (contains_ok (fun n => !inB n lo hi) go65 w0_1 (hV.le L2) (by omega) (fun n w1 hl => within1_ok n lo hi w1 (f3.le hl) (b0_1.le hl))) ?_
  rintro _ w1_2 ⟨rfl, h1_2⟩
  refine ⟨_, rfl, ?_⟩
  have L4 := L2.trans h1_2
  refine W.any (.not rfl) rfl rfl rfl ?_
  refine W.any (.assign rfl) rfl rfl rfl ?_
  refine W.nil ?_
  refine E.thenN ?_
  refine WC.ret ?_
  refine E.retG1 rfl rfl ?_
  exact ⟨by rw [← all_not], L4⟩

theorem withinc1_ok (lo hi : Int) {A : Option Addr} {c : Nat} {a : Int} (w : World) (hV : Vec w iv 1 A 1 [a]) : Calls Tryz.prog 29 #[.int .i64 lo, .int .i64 hi, .slice A 1 c] w fun r w' => r = .returned (.bool (inB a lo hi)) ∧ Le w w' := by
  have := within_ok lo hi (c := c) w hV (by decide)
  simpa using this
theorem withinc2_ok (lo hi : Int) {A : Option Addr} {c : Nat} {a b : Int} (w : World) (hV : Vec w iv 1 A 2 [a, b]) : Calls Tryz.prog 29 #[.int .i64 lo, .int .i64 hi, .slice A 2 c] w fun r w' => r = .returned (.bool (inB a lo hi && inB b lo hi)) ∧ Le w w' := by
  have := within_ok lo hi (c := c) w hV (by decide)
  simpa using this

theorem aright_ok (e : Gsp.Edge) (w : World) : Calls Tryz.prog 57 #[.agg (edgeV e).toArray] w fun r w' => r = .returned (.bool (edgeA e)) ∧ Le w w' := by
  refine enter Tryz.func57 rfl rfl ?_
  have L0 := Le.refl w
  refine WC.seq ?_
  refine WC.region ?_
  refine W.ef rfl rfl rfl ?_
  refine Ef.boxA rfl ?_
  intro g0_0 w0_0 hg0_0 b0_0 h0_0
  have L1 := L0.trans h0_0
  have b0_0 : Blk w0_0 g0_0 36 (edgeV e).toArray := b0_0
  refine W.any (.assign rfl) rfl rfl rfl ?_
  refine W.nil ?_
  refine E.thenN ?_
  refine WC.seq ?_
  refine WC.region ?_
  refine W.any (.field0 fa36_4 rfl) rfl rfl rfl ?_
  refine W.rd (.bpart (polV e.pol) ag34 rfl (by decide) rfl b0_0 rfl) rfl rfl rfl ?_
  refine W.ef rfl rfl rfl ?_
  refine Ef.allocA z34 ?_
  intro g1_2 w1_2 hg1_2 b1_2 h1_2
  have L2 := L1.trans h1_2
  have b1_2 : Blk w1_2 g1_2 34 (polV noPol).toArray := b1_2
  refine W.ef0 rfl rfl ?_
  refine Ef.storeAll sz34 (by rfl) rfl rfl b1_2 (by simp only [List.size_toArray, polV_row.len]) (polV_row.one e.pol) ?_
  intro w1_3 b1_3 h1_3
  have b1_3 : Blk w1_3 g1_2 34 (polV e.pol).toArray := b1_3
  have L3 : Le w w1_3 := L2.then_ h1_3 (fun q hq => by cases hq; exact Nat.le_trans L1.size hg1_2)
  refine W.nil ?_
  refine E.thenN ?_
  refine WC.seq ?_
  refine WC.region ?_
  refine W.any (.field0 fa36_0 rfl) rfl rfl rfl ?_
  have f4 := ((b0_0.le h1_2).ch h1_3 (fun h => (show g1_2 ≠ g0_0 from by have := b0_0.lt; omega) (Option.some.inj h)))
  refine W.rd (.loadB (v := .int .i64 (e.f)) na3 rfl f4 rfl) rfl rfl rfl ?_
  refine W.any (.field0 fa36_1 rfl) rfl rfl rfl ?_
  refine W.rd (.loadB (v := .int .i64 (e.t)) na3 rfl f4 rfl) rfl rfl rfl ?_
  refine W.ef rfl rfl rfl ?_
  refine Ef.buildSliceV (len := 2) [_, _] Tryz.underlying23 el3 rfl (by simp [Value.cells]) rfl (by decide) (by decide) ?_
  intro g2_4 w2_4 hg2_4 b2_4 h2_4
  have L5 := L3.trans h2_4
  have b2_4 : Blk w2_4 g2_4 3 (([e.f, e.t]).map iv).flatten.toArray := b2_4
  have o2_4 : OVec w2_4 w1_3.heap.size 3 iv 1 (some ⟨g2_4, 0, none⟩) 2 2 ([e.f, e.t]) := b2_4.ovec hg2_4 iv_row rfl rfl (by decide)
  refine W.ef rfl rfl rfl ?_
  refine Ef.call go29 rfl rfl (withinc2_ok 0 11 w2_4 o2_4.vec) ?_
  rintro _ w2_5 ⟨rfl, h2_5⟩
  refine ⟨_, rfl, ?_⟩
  have L6 := L5.trans h2_5
  by_cases q2_6 : (inB e.f 0 11 && inB e.t 0 11) = true
  · refine W.any (.dec (.move rfl) (q2_6)) rfl rfl rfl ?_
    refine W.rdg (Any.rd (.field0 fa36_0 rfl) _) rfl rfl rfl (rfl) rfl rfl ?_
    have f7 := (f4.le (h2_4.trans h2_5))
    refine W.rdg (.loadB (v := .int .i64 (e.f)) na3 rfl f7 rfl) rfl rfl rfl (rfl) rfl rfl ?_
    refine W.rdg (Any.rd (.field0 fa36_1 rfl) _) rfl rfl rfl (rfl) rfl rfl ?_
    refine W.rdg (.loadB (v := .int .i64 (e.t)) na3 rfl f7 rfl) rfl rfl rfl (rfl) rfl rfl ?_
    refine W.rdg (Any.rd (.neq rfl rfl) _) rfl rfl rfl (rfl) rfl rfl ?_
    refine W.any (.pickT rfl rfl rfl) rfl rfl rfl ?_
    by_cases q2_13 : e.f ≠ e.t
    · refine W.any (.dec (.move rfl) (decide_eq_true q2_13)) rfl rfl rfl ?_
      refine W.rdg (Any.rd (.field0 fa36_2 rfl) _) rfl rfl rfl (rfl) rfl rfl ?_
      refine W.rdg (.loadB (v := .int .i64 (e.c)) na3 rfl f7 rfl) rfl rfl rfl (rfl) rfl rfl ?_
      refine W.efg rfl rfl rfl (rfl) rfl rfl ?_
      refine Ef.buildSliceV (len := 1) [_] Tryz.underlying23 el3 rfl (by simp [Value.cells]) rfl (by decide) (by decide) ?_
      intro g2_16 w2_16 hg2_16 b2_16 h2_16
      have L8 := L6.trans h2_16
      have b2_16 : Blk w2_16 g2_16 3 (([e.c]).map iv).flatten.toArray := b2_16
      have o2_16 : OVec w2_16 w2_5.heap.size 3 iv 1 (some ⟨g2_16, 0, none⟩) 1 1 ([e.c]) := b2_16.ovec hg2_16 iv_row rfl rfl (by decide)
      refine W.efg rfl rfl rfl (rfl) rfl rfl ?_
      refine Ef.call go29 rfl rfl (withinc1_ok 0 39 w2_16 o2_16.vec) ?_
      rintro _ w2_17 ⟨rfl, h2_17⟩
      refine ⟨_, rfl, ?_⟩
      have L9 := L8.trans h2_17
      refine W.any (.pickT rfl rfl rfl) rfl rfl rfl ?_
      by_cases q2_19 : (inB e.c 0 39) = true
      · refine W.any (.dec (.move rfl) (q2_19)) rfl rfl rfl ?_
        refine W.rdg (Any.rd (.field0 fa36_3 rfl) _) rfl rfl rfl (rfl) rfl rfl ?_
        have f10 := (f7.le (h2_16.trans h2_17))
        refine W.rdg (.loadB (v := .int .i64 (e.r)) na3 rfl f10 rfl) rfl rfl rfl (rfl) rfl rfl ?_
        refine W.efg rfl rfl rfl (rfl) rfl rfl ?_
        refine Ef.buildSliceV (len := 1) [_] Tryz.underlying23 el3 rfl (by simp [Value.cells]) rfl (by decide) (by decide) ?_
        intro g2_22 w2_22 hg2_22 b2_22 h2_22
        have L11 := L9.trans h2_22
        have b2_22 : Blk w2_22 g2_22 3 (([e.r]).map iv).flatten.toArray := b2_22
        have o2_22 : OVec w2_22 w2_17.heap.size 3 iv 1 (some ⟨g2_22, 0, none⟩) 1 1 ([e.r]) := b2_22.ovec hg2_22 iv_row rfl rfl (by decide)
        refine W.efg rfl rfl rfl (rfl) rfl rfl ?_
        refine Ef.call go29 rfl rfl (withinc1_ok 1 1125899906842624 w2_22 o2_22.vec) ?_
        rintro _ w2_23 ⟨rfl, h2_23⟩
        refine ⟨_, rfl, ?_⟩
        have L12 := L11.trans h2_23
        refine W.any (.pickT rfl rfl rfl) rfl rfl rfl ?_
        by_cases q2_25 : (inB e.r 1 1125899906842624) = true
        · refine W.any (.dec (.move rfl) (q2_25)) rfl rfl rfl ?_
          refine W.rdg (Any.rd (.field0 fa34_0 rfl) _) rfl rfl rfl (rfl) rfl rfl ?_
          have f13 := (b1_3.le (h2_4.trans (h2_5.trans (h2_16.trans (h2_17.trans (h2_22.trans h2_23))))))
          refine W.rdg (.loadB (v := .int .i64 (e.pol.b)) na3 rfl f13 rfl) rfl rfl rfl (rfl) rfl rfl ?_
          refine W.efg rfl rfl rfl (rfl) rfl rfl ?_
          refine Ef.buildSliceV (len := 1) [_] Tryz.underlying23 el3 rfl (by simp [Value.cells]) rfl (by decide) (by decide) ?_
          intro g2_28 w2_28 hg2_28 b2_28 h2_28
          have L14 := L12.trans h2_28
          have b2_28 : Blk w2_28 g2_28 3 (([e.pol.b]).map iv).flatten.toArray := b2_28
          have o2_28 : OVec w2_28 w2_23.heap.size 3 iv 1 (some ⟨g2_28, 0, none⟩) 1 1 ([e.pol.b]) := b2_28.ovec hg2_28 iv_row rfl rfl (by decide)
          refine W.efg rfl rfl rfl (rfl) rfl rfl ?_
          refine Ef.call go29 rfl rfl (withinc1_ok 0 1125899906842624 w2_28 o2_28.vec) ?_
          rintro _ w2_29 ⟨rfl, h2_29⟩
          refine ⟨_, rfl, ?_⟩
          have L15 := L14.trans h2_29
          refine W.any (.pickT rfl rfl rfl) rfl rfl rfl ?_
          by_cases q2_31 : (inB e.pol.b 0 1125899906842624) = true
          · refine W.any (.dec (.move rfl) (q2_31)) rfl rfl rfl ?_
            refine W.rdg (Any.rd (.field0 fa34_1 rfl) _) rfl rfl rfl (rfl) rfl rfl ?_
            have f16 := (f13.le (h2_28.trans h2_29))
            refine W.rdg (.loadB (v := .int .i64 (e.pol.p)) na3 rfl f16 rfl) rfl rfl rfl (rfl) rfl rfl ?_
            refine W.efg rfl rfl rfl (rfl) rfl rfl ?_
            refine Ef.buildSliceV (len := 1) [_] Tryz.underlying23 el3 rfl (by simp [Value.cells]) rfl (by decide) (by decide) ?_
            intro g2_34 w2_34 hg2_34 b2_34 h2_34
            have L17 := L15.trans h2_34
            have b2_34 : Blk w2_34 g2_34 3 (([e.pol.p]).map iv).flatten.toArray := b2_34
            have o2_34 : OVec w2_34 w2_29.heap.size 3 iv 1 (some ⟨g2_34, 0, none⟩) 1 1 ([e.pol.p]) := b2_34.ovec hg2_34 iv_row rfl rfl (by decide)
            refine W.efg rfl rfl rfl (rfl) rfl rfl ?_
            refine Ef.call go29 rfl rfl (withinc1_ok 0 1000000 w2_34 o2_34.vec) ?_
            rintro _ w2_35 ⟨rfl, h2_35⟩
            refine ⟨_, rfl, ?_⟩
            have L18 := L17.trans h2_35
            refine W.any (.pickT rfl rfl rfl) rfl rfl rfl ?_
            by_cases q2_37 : (inB e.pol.p 0 1000000) = true
            · refine W.any (.dec (.move rfl) (q2_37)) rfl rfl rfl ?_
              refine W.rdg (Any.rd (.field0 fa34_2 rfl) _) rfl rfl rfl (rfl) rfl rfl ?_
              have f19 := (f16.le (h2_34.trans h2_35))
              refine W.rdg (.loadB (v := .int .i64 (e.pol.d)) na3 rfl f19 rfl) rfl rfl rfl (rfl) rfl rfl ?_
              refine W.efg rfl rfl rfl (rfl) rfl rfl ?_
              refine Ef.buildSliceV (len := 1) [_] Tryz.underlying23 el3 rfl (by simp [Value.cells]) rfl (by decide) (by decide) ?_
              intro g2_40 w2_40 hg2_40 b2_40 h2_40
              have L20 := L18.trans h2_40
              have b2_40 : Blk w2_40 g2_40 3 (([e.pol.d]).map iv).flatten.toArray := b2_40
              have o2_40 : OVec w2_40 w2_35.heap.size 3 iv 1 (some ⟨g2_40, 0, none⟩) 1 1 ([e.pol.d]) := b2_40.ovec hg2_40 iv_row rfl rfl (by decide)
              refine W.efg rfl rfl rfl (rfl) rfl rfl ?_
              refine Ef.call go29 rfl rfl (withinc1_ok 1 4096 w2_40 o2_40.vec) ?_
              rintro _ w2_41 ⟨rfl, h2_41⟩
              refine ⟨_, rfl, ?_⟩
              have L21 := L20.trans h2_41
              refine W.any (.pickT rfl rfl rfl) rfl rfl rfl ?_
              by_cases q2_43 : (inB e.pol.d 1 4096) = true
              · refine W.any (.dec (.move rfl) (q2_43)) rfl rfl rfl ?_
                refine W.rdg (Any.rd (.field0 fa34_4 rfl) _) rfl rfl rfl (rfl) rfl rfl ?_
                have f22 := (f19.le (h2_40.trans h2_41))
                refine W.rdg (.loadB (v := .int .i64 (e.pol.m)) na3 rfl f22 rfl) rfl rfl rfl (rfl) rfl rfl ?_
                refine W.rdg (Any.rd (.field0 fa34_3 rfl) _) rfl rfl rfl (rfl) rfl rfl ?_
                refine W.rdg (.loadB (v := .int .i64 (e.pol.l)) na3 rfl f22 rfl) rfl rfl rfl (rfl) rfl rfl ?_
                refine W.efg rfl rfl rfl (rfl) rfl rfl ?_
                refine Ef.buildSliceV (len := 1) [_] Tryz.underlying23 el3 rfl (by simp [Value.cells]) rfl (by decide) (by decide) ?_
                intro g2_48 w2_48 hg2_48 b2_48 h2_48
                have L23 := L21.trans h2_48
                have b2_48 : Blk w2_48 g2_48 3 (([e.pol.l]).map iv).flatten.toArray := b2_48
                have o2_48 : OVec w2_48 w2_41.heap.size 3 iv 1 (some ⟨g2_48, 0, none⟩) 1 1 ([e.pol.l]) := b2_48.ovec hg2_48 iv_row rfl rfl (by decide)
                refine W.efg rfl rfl rfl (rfl) rfl rfl ?_
                refine Ef.call go29 rfl rfl (withinc1_ok 1 e.pol.m w2_48 o2_48.vec) ?_
                rintro _ w2_49 ⟨rfl, h2_49⟩
                refine ⟨_, rfl, ?_⟩
                have L24 := L23.trans h2_49
                refine W.any (.pickT rfl rfl rfl) rfl rfl rfl ?_
                by_cases q2_51 : (inB e.pol.l 1 e.pol.m) = true
                · refine W.any (.dec (.move rfl) (q2_51)) rfl rfl rfl ?_
                  refine W.rdg (Any.rd (.field0 fa34_4 rfl) _) rfl rfl rfl (rfl) rfl rfl ?_
                  have f25 := (f22.le (h2_48.trans h2_49))
                  refine W.rdg (.loadB (v := .int .i64 (e.pol.m)) na3 rfl f25 rfl) rfl rfl rfl (rfl) rfl rfl ?_
                  refine W.rdg (Any.rd (.field0 fa36_3 rfl) _) rfl rfl rfl (rfl) rfl rfl ?_
                  have f26 := (f10.le (h2_22.trans (h2_23.trans (h2_28.trans (h2_29.trans (h2_34.trans (h2_35.trans (h2_40.trans (h2_41.trans (h2_48.trans h2_49))))))))))
                  refine W.rdg (.loadB (v := .int .i64 (e.r)) na3 rfl f26 rfl) rfl rfl rfl (rfl) rfl rfl ?_
                  refine W.rdg (Any.rd (.leq rfl rfl) _) rfl rfl rfl (rfl) rfl rfl ?_
                  refine W.any (.pickT rfl rfl rfl) rfl rfl rfl ?_
                  refine W.any (.assign rfl) rfl rfl rfl ?_
                  refine W.nil ?_
                  refine E.thenN ?_
                  refine WC.ret ?_
                  refine E.retG1 rfl rfl ?_
                  exact ⟨(by first | rfl | (simp [edgeA, q2_6, q2_13, q2_19, q2_25, q2_31, q2_37, q2_43, q2_51]; done) | (simp [edgeA, q2_6, q2_13, q2_19, q2_25, q2_31, q2_37, q2_43, q2_51]; omega) | (simp [edgeA, q2_6, q2_13, q2_19, q2_25, q2_31, q2_37, q2_43, q2_51]; split <;> first | (exfalso; omega) | (simp; done) | (simp; omega))), L24⟩
                · refine W.any (.dec (.move rfl) ((Bool.eq_false_iff.2 q2_51))) rfl rfl rfl ?_
                  refine W.skip rfl rfl rfl (rfl) rfl rfl ?_
                  refine W.skip rfl rfl rfl (rfl) rfl rfl ?_
                  refine W.skip rfl rfl rfl (rfl) rfl rfl ?_
                  refine W.skip rfl rfl rfl (rfl) rfl rfl ?_
                  refine W.skip rfl rfl rfl (rfl) rfl rfl ?_
                  refine W.any (.pickF rfl rfl rfl) rfl rfl rfl ?_
                  refine W.any (.assign rfl) rfl rfl rfl ?_
                  refine W.nil ?_
                  refine E.thenN ?_
                  refine WC.ret ?_
                  refine E.retG1 rfl rfl ?_
                  exact ⟨(by first | rfl | (simp [edgeA, q2_6, q2_13, q2_19, q2_25, q2_31, q2_37, q2_43, q2_51]; done) | (simp [edgeA, q2_6, q2_13, q2_19, q2_25, q2_31, q2_37, q2_43, q2_51]; omega) | (simp [edgeA, q2_6, q2_13, q2_19, q2_25, q2_31, q2_37, q2_43, q2_51]; split <;> first | (exfalso; omega) | (simp; done) | (simp; omega))), L24⟩
              · refine W.any (.dec (.move rfl) ((Bool.eq_false_iff.2 q2_43))) rfl rfl rfl ?_
                refine W.skip rfl rfl rfl (rfl) rfl rfl ?_
                refine W.skip rfl rfl rfl (rfl) rfl rfl ?_
                refine W.skip rfl rfl rfl (rfl) rfl rfl ?_
                refine W.skip rfl rfl rfl (rfl) rfl rfl ?_
                refine W.skip rfl rfl rfl (rfl) rfl rfl ?_
                refine W.skip rfl rfl rfl (rfl) rfl rfl ?_
                refine W.any (.pickF rfl rfl rfl) rfl rfl rfl ?_
                refine W.any (.move rfl) rfl rfl rfl ?_
                refine W.skip rfl rfl rfl (rfl) rfl rfl ?_
                refine W.skip rfl rfl rfl (rfl) rfl rfl ?_
                refine W.skip rfl rfl rfl (rfl) rfl rfl ?_
                refine W.skip rfl rfl rfl (rfl) rfl rfl ?_
                refine W.skip rfl rfl rfl (rfl) rfl rfl ?_
                refine W.any (.pickF rfl rfl rfl) rfl rfl rfl ?_
                refine W.any (.assign rfl) rfl rfl rfl ?_
                refine W.nil ?_
                refine E.thenN ?_
                refine WC.ret ?_
                refine E.retG1 rfl rfl ?_
                exact ⟨(by first | rfl | (simp [edgeA, q2_6, q2_13, q2_19, q2_25, q2_31, q2_37, q2_43]; done) | (simp [edgeA, q2_6, q2_13, q2_19, q2_25, q2_31, q2_37, q2_43]; omega) | (simp [edgeA, q2_6, q2_13, q2_19, q2_25, q2_31, q2_37, q2_43]; split <;> first | (exfalso; omega) | (simp; done) | (simp; omega))), L21⟩
            · refine W.any (.dec (.move rfl) ((Bool.eq_false_iff.2 q2_37))) rfl rfl rfl ?_
              refine W.skip rfl rfl rfl (rfl) rfl rfl ?_
              refine W.skip rfl rfl rfl (rfl) rfl rfl ?_
              refine W.skip rfl rfl rfl (rfl) rfl rfl ?_
              refine W.skip rfl rfl rfl (rfl) rfl rfl ?_
              refine W.any (.pickF rfl rfl rfl) rfl rfl rfl ?_
              refine W.any (.move rfl) rfl rfl rfl ?_
              refine W.skip rfl rfl rfl (rfl) rfl rfl ?_
              refine W.skip rfl rfl rfl (rfl) rfl rfl ?_
              refine W.skip rfl rfl rfl (rfl) rfl rfl ?_
              refine W.skip rfl rfl rfl (rfl) rfl rfl ?_
              refine W.skip rfl rfl rfl (rfl) rfl rfl ?_
              refine W.skip rfl rfl rfl (rfl) rfl rfl ?_
              refine W.any (.pickF rfl rfl rfl) rfl rfl rfl ?_
              refine W.any (.move rfl) rfl rfl rfl ?_
              refine W.skip rfl rfl rfl (rfl) rfl rfl ?_
              refine W.skip rfl rfl rfl (rfl) rfl rfl ?_
              refine W.skip rfl rfl rfl (rfl) rfl rfl ?_
              refine W.skip rfl rfl rfl (rfl) rfl rfl ?_
              refine W.skip rfl rfl rfl (rfl) rfl rfl ?_
              refine W.any (.pickF rfl rfl rfl) rfl rfl rfl ?_
              refine W.any (.assign rfl) rfl rfl rfl ?_
              refine W.nil ?_
              refine E.thenN ?_
              refine WC.ret ?_
              refine E.retG1 rfl rfl ?_
              exact ⟨(by first | rfl | (simp [edgeA, q2_6, q2_13, q2_19, q2_25, q2_31, q2_37]; done) | (simp [edgeA, q2_6, q2_13, q2_19, q2_25, q2_31, q2_37]; omega) | (simp [edgeA, q2_6, q2_13, q2_19, q2_25, q2_31, q2_37]; split <;> first | (exfalso; omega) | (simp; done) | (simp; omega))), L18⟩
          · refine W.any (.dec (.move rfl) ((Bool.eq_false_iff.2 q2_31))) rfl rfl rfl ?_
            refine W.skip rfl rfl rfl (rfl) rfl rfl ?_
            refine W.skip rfl rfl rfl (rfl) rfl rfl ?_
            refine W.skip rfl rfl rfl (rfl) rfl rfl ?_
            refine W.skip rfl rfl rfl (rfl) rfl rfl ?_
            refine W.any (.pickF rfl rfl rfl) rfl rfl rfl ?_
            refine W.any (.move rfl) rfl rfl rfl ?_
            refine W.skip rfl rfl rfl (rfl) rfl rfl ?_
            refine W.skip rfl rfl rfl (rfl) rfl rfl ?_
            refine W.skip rfl rfl rfl (rfl) rfl rfl ?_
            refine W.skip rfl rfl rfl (rfl) rfl rfl ?_
            refine W.any (.pickF rfl rfl rfl) rfl rfl rfl ?_
            refine W.any (.move rfl) rfl rfl rfl ?_
            refine W.skip rfl rfl rfl (rfl) rfl rfl ?_
            refine W.skip rfl rfl rfl (rfl) rfl rfl ?_
            refine W.skip rfl rfl rfl (rfl) rfl rfl ?_
            refine W.skip rfl rfl rfl (rfl) rfl rfl ?_
            refine W.skip rfl rfl rfl (rfl) rfl rfl ?_
            refine W.skip rfl rfl rfl (rfl) rfl rfl ?_
            refine W.any (.pickF rfl rfl rfl) rfl rfl rfl ?_
            refine W.any (.move rfl) rfl rfl rfl ?_
            refine W.skip rfl rfl rfl (rfl) rfl rfl ?_
            refine W.skip rfl rfl rfl (rfl) rfl rfl ?_
            refine W.skip rfl rfl rfl (rfl) rfl rfl ?_
            refine W.skip rfl rfl rfl (rfl) rfl rfl ?_
            refine W.skip rfl rfl rfl (rfl) rfl rfl ?_
            refine W.any (.pickF rfl rfl rfl) rfl rfl rfl ?_
            refine W.any (.assign rfl) rfl rfl rfl ?_
            refine W.nil ?_
            refine E.thenN ?_
            refine WC.ret ?_
            refine E.retG1 rfl rfl ?_
            exact ⟨(by first | rfl | (simp [edgeA, q2_6, q2_13, q2_19, q2_25, q2_31]; done) | (simp [edgeA, q2_6, q2_13, q2_19, q2_25, q2_31]; omega) | (simp [edgeA, q2_6, q2_13, q2_19, q2_25, q2_31]; split <;> first | (exfalso; omega) | (simp; done) | (simp; omega))), L15⟩
        · refine W.any (.dec (.move rfl) ((Bool.eq_false_iff.2 q2_25))) rfl rfl rfl ?_
          refine W.skip rfl rfl rfl (rfl) rfl rfl ?_
          refine W.skip rfl rfl rfl (rfl) rfl rfl ?_
          refine W.skip rfl rfl rfl (rfl) rfl rfl ?_
          refine W.skip rfl rfl rfl (rfl) rfl rfl ?_
          refine W.any (.pickF rfl rfl rfl) rfl rfl rfl ?_
          refine W.any (.move rfl) rfl rfl rfl ?_
          refine W.skip rfl rfl rfl (rfl) rfl rfl ?_
          refine W.skip rfl rfl rfl (rfl) rfl rfl ?_
          refine W.skip rfl rfl rfl (rfl) rfl rfl ?_
          refine W.skip rfl rfl rfl (rfl) rfl rfl ?_
          refine W.any (.pickF rfl rfl rfl) rfl rfl rfl ?_
          refine W.any (.move rfl) rfl rfl rfl ?_
          refine W.skip rfl rfl rfl (rfl) rfl rfl ?_
          refine W.skip rfl rfl rfl (rfl) rfl rfl ?_
          refine W.skip rfl rfl rfl (rfl) rfl rfl ?_
          refine W.skip rfl rfl rfl (rfl) rfl rfl ?_
          refine W.any (.pickF rfl rfl rfl) rfl rfl rfl ?_
          refine W.any (.move rfl) rfl rfl rfl ?_
          refine W.skip rfl rfl rfl (rfl) rfl rfl ?_
          refine W.skip rfl rfl rfl (rfl) rfl rfl ?_
          refine W.skip rfl rfl rfl (rfl) rfl rfl ?_
          refine W.skip rfl rfl rfl (rfl) rfl rfl ?_
          refine W.skip rfl rfl rfl (rfl) rfl rfl ?_
          refine W.skip rfl rfl rfl (rfl) rfl rfl ?_
          refine W.any (.pickF rfl rfl rfl) rfl rfl rfl ?_
          refine W.any (.move rfl) rfl rfl rfl ?_
          refine W.skip rfl rfl rfl (rfl) rfl rfl ?_
          refine W.skip rfl rfl rfl (rfl) rfl rfl ?_
          refine W.skip rfl rfl rfl (rfl) rfl rfl ?_
          refine W.skip rfl rfl rfl (rfl) rfl rfl ?_
          refine W.skip rfl rfl rfl (rfl) rfl rfl ?_
          refine W.any (.pickF rfl rfl rfl) rfl rfl rfl ?_
          refine W.any (.assign rfl) rfl rfl rfl ?_
          refine W.nil ?_
          refine E.thenN ?_
          refine WC.ret ?_
          refine E.retG1 rfl rfl ?_
          exact ⟨(by first | rfl | (simp [edgeA, q2_6, q2_13, q2_19, q2_25]; done) | (simp [edgeA, q2_6, q2_13, q2_19, q2_25]; omega) | (simp [edgeA, q2_6, q2_13, q2_19, q2_25]; split <;> first | (exfalso; omega) | (simp; done) | (simp; omega))), L12⟩
      · refine W.any (.dec (.move rfl) ((Bool.eq_false_iff.2 q2_19))) rfl rfl rfl ?_
        refine W.skip rfl rfl rfl (rfl) rfl rfl ?_
        refine W.skip rfl rfl rfl (rfl) rfl rfl ?_
        refine W.skip rfl rfl rfl (rfl) rfl rfl ?_
        refine W.skip rfl rfl rfl (rfl) rfl rfl ?_
        refine W.any (.pickF rfl rfl rfl) rfl rfl rfl ?_
        refine W.any (.move rfl) rfl rfl rfl ?_
        refine W.skip rfl rfl rfl (rfl) rfl rfl ?_
        refine W.skip rfl rfl rfl (rfl) rfl rfl ?_
        refine W.skip rfl rfl rfl (rfl) rfl rfl ?_
        refine W.skip rfl rfl rfl (rfl) rfl rfl ?_
        refine W.any (.pickF rfl rfl rfl) rfl rfl rfl ?_
        refine W.any (.move rfl) rfl rfl rfl ?_
        refine W.skip rfl rfl rfl (rfl) rfl rfl ?_
        refine W.skip rfl rfl rfl (rfl) rfl rfl ?_
        refine W.skip rfl rfl rfl (rfl) rfl rfl ?_
        refine W.skip rfl rfl rfl (rfl) rfl rfl ?_
        refine W.any (.pickF rfl rfl rfl) rfl rfl rfl ?_
        refine W.any (.move rfl) rfl rfl rfl ?_
        refine W.skip rfl rfl rfl (rfl) rfl rfl ?_
        refine W.skip rfl rfl rfl (rfl) rfl rfl ?_
        refine W.skip rfl rfl rfl (rfl) rfl rfl ?_
        refine W.skip rfl rfl rfl (rfl) rfl rfl ?_
        refine W.any (.pickF rfl rfl rfl) rfl rfl rfl ?_
        refine W.any (.move rfl) rfl rfl rfl ?_
        refine W.skip rfl rfl rfl (rfl) rfl rfl ?_
        refine W.skip rfl rfl rfl (rfl) rfl rfl ?_
        refine W.skip rfl rfl rfl (rfl) rfl rfl ?_
        refine W.skip rfl rfl rfl (rfl) rfl rfl ?_
        refine W.skip rfl rfl rfl (rfl) rfl rfl ?_
        refine W.skip rfl rfl rfl (rfl) rfl rfl ?_
        refine W.any (.pickF rfl rfl rfl) rfl rfl rfl ?_
        refine W.any (.move rfl) rfl rfl rfl ?_
        refine W.skip rfl rfl rfl (rfl) rfl rfl ?_
        refine W.skip rfl rfl rfl (rfl) rfl rfl ?_
        refine W.skip rfl rfl rfl (rfl) rfl rfl ?_
        refine W.skip rfl rfl rfl (rfl) rfl rfl ?_
        refine W.skip rfl rfl rfl (rfl) rfl rfl ?_
        refine W.any (.pickF rfl rfl rfl) rfl rfl rfl ?_
        refine W.any (.assign rfl) rfl rfl rfl ?_
        refine W.nil ?_
        refine E.thenN ?_
        refine WC.ret ?_
        refine E.retG1 rfl rfl ?_
        exact ⟨(by first | rfl | (simp [edgeA, q2_6, q2_13, q2_19]; done) | (simp [edgeA, q2_6, q2_13, q2_19]; omega) | (simp [edgeA, q2_6, q2_13, q2_19]; split <;> first | (exfalso; omega) | (simp; done) | (simp; omega))), L9⟩
    · refine W.any (.dec (.move rfl) (decide_eq_false q2_13)) rfl rfl rfl ?_
      refine W.skip rfl rfl rfl (rfl) rfl rfl ?_
      refine W.skip rfl rfl rfl (rfl) rfl rfl ?_
      refine W.skip rfl rfl rfl (rfl) rfl rfl ?_
      refine W.skip rfl rfl rfl (rfl) rfl rfl ?_
      refine W.any (.pickF rfl rfl rfl) rfl rfl rfl ?_
      refine W.any (.move rfl) rfl rfl rfl ?_
      refine W.skip rfl rfl rfl (rfl) rfl rfl ?_
      refine W.skip rfl rfl rfl (rfl) rfl rfl ?_
      refine W.skip rfl rfl rfl (rfl) rfl rfl ?_
      refine W.skip rfl rfl rfl (rfl) rfl rfl ?_
      refine W.any (.pickF rfl rfl rfl) rfl rfl rfl ?_
      refine W.any (.move rfl) rfl rfl rfl ?_
      refine W.skip rfl rfl rfl (rfl) rfl rfl ?_
      refine W.skip rfl rfl rfl (rfl) rfl rfl ?_
      refine W.skip rfl rfl rfl (rfl) rfl rfl ?_
      refine W.skip rfl rfl rfl (rfl) rfl rfl ?_
      refine W.any (.pickF rfl rfl rfl) rfl rfl rfl ?_
      refine W.any (.move rfl) rfl rfl rfl ?_
      refine W.skip rfl rfl rfl (rfl) rfl rfl ?_
      refine W.skip rfl rfl rfl (rfl) rfl rfl ?_
      refine W.skip rfl rfl rfl (rfl) rfl rfl ?_
      refine W.skip rfl rfl rfl (rfl) rfl rfl ?_
      refine W.any (.pickF rfl rfl rfl) rfl rfl rfl ?_
      refine W.any (.move rfl) rfl rfl rfl ?_
      refine W.skip rfl rfl rfl (rfl) rfl rfl ?_
      refine W.skip rfl rfl rfl (rfl) rfl rfl ?_
      refine W.skip rfl rfl rfl (rfl) rfl rfl ?_
      refine W.skip rfl rfl rfl (rfl) rfl rfl ?_
      refine W.any (.pickF rfl rfl rfl) rfl rfl rfl ?_
      refine W.any (.move rfl) rfl rfl rfl ?_
      refine W.skip rfl rfl rfl (rfl) rfl rfl ?_
      refine W.skip rfl rfl rfl (rfl) rfl rfl ?_
      refine W.skip rfl rfl rfl (rfl) rfl rfl ?_
      refine W.skip rfl rfl rfl (rfl) rfl rfl ?_
      refine W.skip rfl rfl rfl (rfl) rfl rfl ?_
      refine W.skip rfl rfl rfl (rfl) rfl rfl ?_
      refine W.any (.pickF rfl rfl rfl) rfl rfl rfl ?_
      refine W.any (.move rfl) rfl rfl rfl ?_
      refine W.skip rfl rfl rfl (rfl) rfl rfl ?_
      refine W.skip rfl rfl rfl (rfl) rfl rfl ?_
      refine W.skip rfl rfl rfl (rfl) rfl rfl ?_
      refine W.skip rfl rfl rfl (rfl) rfl rfl ?_
      refine W.skip rfl rfl rfl (rfl) rfl rfl ?_
      refine W.any (.pickF rfl rfl rfl) rfl rfl rfl ?_
      refine W.any (.assign rfl) rfl rfl rfl ?_
      refine W.nil ?_
      refine E.thenN ?_
      refine WC.ret ?_
      refine E.retG1 rfl rfl ?_
      exact ⟨(by first | rfl | (simp [edgeA, q2_6, q2_13]; done) | (simp [edgeA, q2_6, q2_13]; omega) | (simp [edgeA, q2_6, q2_13]; split <;> first | (exfalso; omega) | (simp; done) | (simp; omega))), L6⟩
  · refine W.any (.dec (.move rfl) ((Bool.eq_false_iff.2 q2_6))) rfl rfl rfl ?_
    refine W.skip rfl rfl rfl (rfl) rfl rfl ?_
    refine W.skip rfl rfl rfl (rfl) rfl rfl ?_
    refine W.skip rfl rfl rfl (rfl) rfl rfl ?_
    refine W.skip rfl rfl rfl (rfl) rfl rfl ?_
    refine W.skip rfl rfl rfl (rfl) rfl rfl ?_
    refine W.any (.pickF rfl rfl rfl) rfl rfl rfl ?_
    refine W.any (.move rfl) rfl rfl rfl ?_
    refine W.skip rfl rfl rfl (rfl) rfl rfl ?_
    refine W.skip rfl rfl rfl (rfl) rfl rfl ?_
    refine W.skip rfl rfl rfl (rfl) rfl rfl ?_
    refine W.skip rfl rfl rfl (rfl) rfl rfl ?_
    refine W.any (.pickF rfl rfl rfl) rfl rfl rfl ?_
    refine W.any (.move rfl) rfl rfl rfl ?_
    refine W.skip rfl rfl rfl (rfl) rfl rfl ?_
    refine W.skip rfl rfl rfl (rfl) rfl rfl ?_
    refine W.skip rfl rfl rfl (rfl) rfl rfl ?_
    refine W.skip rfl rfl rfl (rfl) rfl rfl ?_
    refine W.any (.pickF rfl rfl rfl) rfl rfl rfl ?_
    refine W.any (.move rfl) rfl rfl rfl ?_
    refine W.skip rfl rfl rfl (rfl) rfl rfl ?_
    refine W.skip rfl rfl rfl (rfl) rfl rfl ?_
    refine W.skip rfl rfl rfl (rfl) rfl rfl ?_
    refine W.skip rfl rfl rfl (rfl) rfl rfl ?_
    refine W.any (.pickF rfl rfl rfl) rfl rfl rfl ?_
    refine W.any (.move rfl) rfl rfl rfl ?_
    refine W.skip rfl rfl rfl (rfl) rfl rfl ?_
    refine W.skip rfl rfl rfl (rfl) rfl rfl ?_
    refine W.skip rfl rfl rfl (rfl) rfl rfl ?_
    refine W.skip rfl rfl rfl (rfl) rfl rfl ?_
    refine W.any (.pickF rfl rfl rfl) rfl rfl rfl ?_
    refine W.any (.move rfl) rfl rfl rfl ?_
    refine W.skip rfl rfl rfl (rfl) rfl rfl ?_
    refine W.skip rfl rfl rfl (rfl) rfl rfl ?_
    refine W.skip rfl rfl rfl (rfl) rfl rfl ?_
    refine W.skip rfl rfl rfl (rfl) rfl rfl ?_
    refine W.any (.pickF rfl rfl rfl) rfl rfl rfl ?_
    refine W.any (.move rfl) rfl rfl rfl ?_
    refine W.skip rfl rfl rfl (rfl) rfl rfl ?_
    refine W.skip rfl rfl rfl (rfl) rfl rfl ?_
    refine W.skip rfl rfl rfl (rfl) rfl rfl ?_
    refine W.skip rfl rfl rfl (rfl) rfl rfl ?_
    refine W.skip rfl rfl rfl (rfl) rfl rfl ?_
    refine W.skip rfl rfl rfl (rfl) rfl rfl ?_
    refine W.any (.pickF rfl rfl rfl) rfl rfl rfl ?_
    refine W.any (.move rfl) rfl rfl rfl ?_
    refine W.skip rfl rfl rfl (rfl) rfl rfl ?_
    refine W.skip rfl rfl rfl (rfl) rfl rfl ?_
    refine W.skip rfl rfl rfl (rfl) rfl rfl ?_
    refine W.skip rfl rfl rfl (rfl) rfl rfl ?_
    refine W.skip rfl rfl rfl (rfl) rfl rfl ?_
    refine W.any (.pickF rfl rfl rfl) rfl rfl rfl ?_
    refine W.any (.assign rfl) rfl rfl rfl ?_
    refine W.nil ?_
    refine E.thenN ?_
    refine WC.ret ?_
    refine E.retG1 rfl rfl ?_
    exact ⟨(by first | rfl | (simp [edgeA, q2_6]; done) | (simp [edgeA, q2_6]; omega) | (simp [edgeA, q2_6]; split <;> first | (exfalso; omega) | (simp; done) | (simp; omega))), L6⟩

theorem amay_ok (e : Gsp.Edge) (no : Int) (w : World) : Calls Tryz.prog 26 #[.agg (edgeV e).toArray, .int .i64 (no)] w fun r w' => r = .returned (.bool (mayA e no)) ∧ Le w w' := by
  refine enter Tryz.func26 rfl rfl ?_
  have L0 := Le.refl w
  refine WC.seq ?_
  refine WC.region ?_
  refine W.ef rfl rfl rfl ?_
  refine Ef.boxA rfl ?_
  intro g0_0 w0_0 hg0_0 b0_0 h0_0
  have L1 := L0.trans h0_0
  have b0_0 : Blk w0_0 g0_0 36 (edgeV e).toArray := b0_0
  refine W.any (.assign rfl) rfl rfl rfl ?_
  refine W.nil ?_
  refine E.thenN ?_
  refine WC.seq ?_
  refine WC.region ?_
  refine W.rd (.loadAll ag36 (by rfl) rfl b0_0) rfl rfl rfl ?_
  refine W.ef rfl rfl rfl ?_
  refine Ef.call go57 rfl rfl (aright_ok e w0_0) ?_
  rintro _ w1_1 ⟨rfl, h1_1⟩
  refine ⟨_, rfl, ?_⟩
  have L2 := L1.trans h1_1
  by_cases q1_2 : (edgeA e) = true
  · refine W.any (.dec (.move rfl) (q1_2)) rfl rfl rfl ?_
    refine W.rdg (Any.rd (.move rfl) _) rfl rfl rfl (rfl) rfl rfl ?_
    refine W.efg rfl rfl rfl (rfl) rfl rfl ?_
    refine Ef.buildSliceV (len := 1) [_] Tryz.underlying23 el3 rfl (by simp [Value.cells]) rfl (by decide) (by decide) ?_
    intro g1_4 w1_4 hg1_4 b1_4 h1_4
    have L3 := L2.trans h1_4
    have b1_4 : Blk w1_4 g1_4 3 (([no]).map iv).flatten.toArray := b1_4
    have o1_4 : OVec w1_4 w1_1.heap.size 3 iv 1 (some ⟨g1_4, 0, none⟩) 1 1 ([no]) := b1_4.ovec hg1_4 iv_row rfl rfl (by decide)
    refine W.efg rfl rfl rfl (rfl) rfl rfl ?_
    refine Ef.call go29 rfl rfl (withinc1_ok 1 1048576 w1_4 o1_4.vec) ?_
    rintro _ w1_5 ⟨rfl, h1_5⟩
    refine ⟨_, rfl, ?_⟩
    have L4 := L3.trans h1_5
    refine W.any (.pickT rfl rfl rfl) rfl rfl rfl ?_
    refine W.any (.assign rfl) rfl rfl rfl ?_
    refine W.nil ?_
    refine E.thenN ?_
    refine WC.ret ?_
    refine E.retG1 rfl rfl ?_
    exact ⟨(by first | rfl | (simp [mayA, q1_2]; done) | (simp [mayA, q1_2]; omega) | (simp [mayA, q1_2]; split <;> first | (exfalso; omega) | (simp; done) | (simp; omega))), L4⟩
  · refine W.any (.dec (.move rfl) ((Bool.eq_false_iff.2 q1_2))) rfl rfl rfl ?_
    refine W.skip rfl rfl rfl (rfl) rfl rfl ?_
    refine W.skip rfl rfl rfl (rfl) rfl rfl ?_
    refine W.skip rfl rfl rfl (rfl) rfl rfl ?_
    refine W.any (.pickF rfl rfl rfl) rfl rfl rfl ?_
    refine W.any (.assign rfl) rfl rfl rfl ?_
    refine W.nil ?_
    refine E.thenN ?_
    refine WC.ret ?_
    refine E.retG1 rfl rfl ?_
    exact ⟨(by first | rfl | (simp [mayA, q1_2]; done) | (simp [mayA, q1_2]; omega) | (simp [mayA, q1_2]; split <;> first | (exfalso; omega) | (simp; done) | (simp; omega))), L2⟩

theorem alike_ok (a b : Gsp.Edge) (w : World) : Calls Tryz.prog 31 #[.agg (edgeV a).toArray, .agg (edgeV b).toArray] w fun r w' => r = .returned (.bool (alikeE a b)) ∧ Le w w' := by
  refine enter Tryz.func31 rfl rfl ?_
  have L0 := Le.refl w
  refine WC.seq ?_
  refine WC.region ?_
  refine W.ef rfl rfl rfl ?_
  refine Ef.boxA rfl ?_
  intro g0_0 w0_0 hg0_0 b0_0 h0_0
  have L1 := L0.trans h0_0
  have b0_0 : Blk w0_0 g0_0 36 (edgeV a).toArray := b0_0
  refine W.ef rfl rfl rfl ?_
  refine Ef.boxA rfl ?_
  intro g0_1 w0_1 hg0_1 b0_1 h0_1
  have L2 := L1.trans h0_1
  have b0_1 : Blk w0_1 g0_1 36 (edgeV b).toArray := b0_1
  refine W.any (.assign rfl) rfl rfl rfl ?_
  refine W.nil ?_
  refine E.thenN ?_
  refine WC.seq ?_
  refine WC.region ?_
  refine W.any (.field0 fa36_3 rfl) rfl rfl rfl ?_
  have f3 := (b0_0.le h0_1)
  refine W.rd (.loadB (v := .int .i64 (a.r)) na3 rfl f3 rfl) rfl rfl rfl ?_
  refine W.any (.field0 fa36_3 rfl) rfl rfl rfl ?_
  refine W.rd (.loadB (v := .int .i64 (b.r)) na3 rfl b0_1 rfl) rfl rfl rfl ?_
  refine W.any (.eql rfl rfl) rfl rfl rfl ?_
  by_cases q1_5 : a.r = b.r
  · refine W.any (.dec (.move rfl) (decide_eq_true q1_5)) rfl rfl rfl ?_
    refine W.rdg (Any.rd (.field0 fa36_0 rfl) _) rfl rfl rfl (rfl) rfl rfl ?_
    refine W.rdg (.loadB (v := .int .i64 (a.f)) na3 rfl f3 rfl) rfl rfl rfl (rfl) rfl rfl ?_
    refine W.rdg (Any.rd (.field0 fa36_0 rfl) _) rfl rfl rfl (rfl) rfl rfl ?_
    refine W.rdg (.loadB (v := .int .i64 (b.f)) na3 rfl b0_1 rfl) rfl rfl rfl (rfl) rfl rfl ?_
    refine W.rdg (Any.rd (.eql rfl rfl) _) rfl rfl rfl (rfl) rfl rfl ?_
    by_cases q1_11 : a.f = b.f
    · refine W.rdg (Any.rd (.dec (.move rfl) (decide_eq_true q1_11)) _) rfl rfl rfl (rfl) rfl rfl ?_
      refine W.rdg (Any.rd (.field0 fa36_1 rfl) _) rfl rfl rfl (rfl) rfl rfl ?_
      refine W.rdg (.loadB (v := .int .i64 (a.t)) na3 rfl f3 rfl) rfl rfl rfl (rfl) rfl rfl ?_
      refine W.rdg (Any.rd (.field0 fa36_1 rfl) _) rfl rfl rfl (rfl) rfl rfl ?_
      refine W.rdg (.loadB (v := .int .i64 (b.t)) na3 rfl b0_1 rfl) rfl rfl rfl (rfl) rfl rfl ?_
      refine W.rdg (Any.rd (.eql rfl rfl) _) rfl rfl rfl (rfl) rfl rfl ?_
      refine W.rdg (Any.rd (.pickT rfl rfl rfl) _) rfl rfl rfl (rfl) rfl rfl ?_
      by_cases q1_18 : a.t = b.t
      · refine W.rdg (Any.rd (.dec (.move rfl) (decide_eq_true q1_18)) _) rfl rfl rfl (rfl) rfl rfl ?_
        refine W.skip rfl rfl rfl (rfl) rfl rfl ?_
        refine W.skip rfl rfl rfl (rfl) rfl rfl ?_
        refine W.skip rfl rfl rfl (rfl) rfl rfl ?_
        refine W.skip rfl rfl rfl (rfl) rfl rfl ?_
        refine W.skip rfl rfl rfl (rfl) rfl rfl ?_
        refine W.skip rfl rfl rfl (rfl) rfl rfl ?_
        refine W.skipu rfl rfl rfl rfl rfl ?_
        refine W.skipu rfl rfl rfl rfl rfl ?_
        refine W.skipu rfl rfl rfl rfl rfl ?_
        refine W.skipu rfl rfl rfl rfl rfl ?_
        refine W.skipu rfl rfl rfl rfl rfl ?_
        refine W.skip rfl rfl rfl (rfl) rfl rfl ?_
        refine W.rdg (Any.rd (.pickT rfl rfl rfl) _) rfl rfl rfl (rfl) rfl rfl ?_
        refine W.any (.pickT rfl rfl rfl) rfl rfl rfl ?_
        refine W.any (.assign rfl) rfl rfl rfl ?_
        refine W.nil ?_
        refine E.thenN ?_
        refine WC.ret ?_
        refine E.retG1 rfl rfl ?_
        exact ⟨(by first | rfl | (simp [alikeE, q1_5, q1_11, q1_18]; done) | (simp [alikeE, q1_5, q1_11, q1_18]; omega) | (simp [alikeE, q1_5, q1_11, q1_18]; split <;> first | (exfalso; omega) | (simp; done) | (simp; omega))), L2⟩
      · refine W.rdg (Any.rd (.dec (.move rfl) (decide_eq_false q1_18)) _) rfl rfl rfl (rfl) rfl rfl ?_
        refine W.rdg (Any.rd (.field0 fa36_0 rfl) _) rfl rfl rfl (rfl) rfl rfl ?_
        refine W.rdg (.loadB (v := .int .i64 (a.f)) na3 rfl f3 rfl) rfl rfl rfl (rfl) rfl rfl ?_
        refine W.rdg (Any.rd (.field0 fa36_1 rfl) _) rfl rfl rfl (rfl) rfl rfl ?_
        refine W.rdg (.loadB (v := .int .i64 (b.t)) na3 rfl b0_1 rfl) rfl rfl rfl (rfl) rfl rfl ?_
        refine W.rdg (Any.rd (.eql rfl rfl) _) rfl rfl rfl (rfl) rfl rfl ?_
        by_cases q1_24 : a.f = b.t
        · refine W.rdg (Any.rd (.dec (.move rfl) (decide_eq_true q1_24)) _) rfl rfl rfl (rfl) rfl rfl ?_
          refine W.rdg (Any.rd (.field0 fa36_1 rfl) _) rfl rfl rfl (rfl) rfl rfl ?_
          refine W.rdg (.loadB (v := .int .i64 (a.t)) na3 rfl f3 rfl) rfl rfl rfl (rfl) rfl rfl ?_
          refine W.rdg (Any.rd (.field0 fa36_0 rfl) _) rfl rfl rfl (rfl) rfl rfl ?_
          refine W.rdg (.loadB (v := .int .i64 (b.f)) na3 rfl b0_1 rfl) rfl rfl rfl (rfl) rfl rfl ?_
          refine W.rdg (Any.rd (.eql rfl rfl) _) rfl rfl rfl (rfl) rfl rfl ?_
          refine W.rdg (Any.rd (.pickT rfl rfl rfl) _) rfl rfl rfl (rfl) rfl rfl ?_
          refine W.rdg (Any.rd (.pickF rfl rfl rfl) _) rfl rfl rfl (rfl) rfl rfl ?_
          refine W.any (.pickT rfl rfl rfl) rfl rfl rfl ?_
          refine W.any (.assign rfl) rfl rfl rfl ?_
          refine W.nil ?_
          refine E.thenN ?_
          refine WC.ret ?_
          refine E.retG1 rfl rfl ?_
          exact ⟨(by first | rfl | (simp [alikeE, q1_5, q1_11, q1_18, q1_24]; done) | (simp [alikeE, q1_5, q1_11, q1_18, q1_24]; omega) | (simp [alikeE, q1_5, q1_11, q1_18, q1_24]; split <;> first | (exfalso; omega) | (simp; done) | (simp; omega))), L2⟩
        · refine W.rdg (Any.rd (.dec (.move rfl) (decide_eq_false q1_24)) _) rfl rfl rfl (rfl) rfl rfl ?_
          refine W.skip rfl rfl rfl (rfl) rfl rfl ?_
          refine W.skip rfl rfl rfl (rfl) rfl rfl ?_
          refine W.skip rfl rfl rfl (rfl) rfl rfl ?_
          refine W.skip rfl rfl rfl (rfl) rfl rfl ?_
          refine W.skip rfl rfl rfl (rfl) rfl rfl ?_
          refine W.rdg (Any.rd (.pickF rfl rfl rfl) _) rfl rfl rfl (rfl) rfl rfl ?_
          refine W.rdg (Any.rd (.pickF rfl rfl rfl) _) rfl rfl rfl (rfl) rfl rfl ?_
          refine W.any (.pickT rfl rfl rfl) rfl rfl rfl ?_
          refine W.any (.assign rfl) rfl rfl rfl ?_
          refine W.nil ?_
          refine E.thenN ?_
          refine WC.ret ?_
          refine E.retG1 rfl rfl ?_
          exact ⟨(by first | rfl | (simp [alikeE, q1_5, q1_11, q1_18, q1_24]; done) | (simp [alikeE, q1_5, q1_11, q1_18, q1_24]; omega) | (simp [alikeE, q1_5, q1_11, q1_18, q1_24]; split <;> first | (exfalso; omega) | (simp; done) | (simp; omega))), L2⟩
    · refine W.rdg (Any.rd (.dec (.move rfl) (decide_eq_false q1_11)) _) rfl rfl rfl (rfl) rfl rfl ?_
      refine W.skip rfl rfl rfl (rfl) rfl rfl ?_
      refine W.skip rfl rfl rfl (rfl) rfl rfl ?_
      refine W.skip rfl rfl rfl (rfl) rfl rfl ?_
      refine W.skip rfl rfl rfl (rfl) rfl rfl ?_
      refine W.skip rfl rfl rfl (rfl) rfl rfl ?_
      refine W.rdg (Any.rd (.pickF rfl rfl rfl) _) rfl rfl rfl (rfl) rfl rfl ?_
      refine W.rdg (Any.rd (.move rfl) _) rfl rfl rfl (rfl) rfl rfl ?_
      refine W.rdg (Any.rd (.field0 fa36_0 rfl) _) rfl rfl rfl (rfl) rfl rfl ?_
      refine W.rdg (.loadB (v := .int .i64 (a.f)) na3 rfl f3 rfl) rfl rfl rfl (rfl) rfl rfl ?_
      refine W.rdg (Any.rd (.field0 fa36_1 rfl) _) rfl rfl rfl (rfl) rfl rfl ?_
      refine W.rdg (.loadB (v := .int .i64 (b.t)) na3 rfl b0_1 rfl) rfl rfl rfl (rfl) rfl rfl ?_
      refine W.rdg (Any.rd (.eql rfl rfl) _) rfl rfl rfl (rfl) rfl rfl ?_
      by_cases q1_24 : a.f = b.t
      · refine W.rdg (Any.rd (.dec (.move rfl) (decide_eq_true q1_24)) _) rfl rfl rfl (rfl) rfl rfl ?_
        refine W.rdg (Any.rd (.field0 fa36_1 rfl) _) rfl rfl rfl (rfl) rfl rfl ?_
        refine W.rdg (.loadB (v := .int .i64 (a.t)) na3 rfl f3 rfl) rfl rfl rfl (rfl) rfl rfl ?_
        refine W.rdg (Any.rd (.field0 fa36_0 rfl) _) rfl rfl rfl (rfl) rfl rfl ?_
        refine W.rdg (.loadB (v := .int .i64 (b.f)) na3 rfl b0_1 rfl) rfl rfl rfl (rfl) rfl rfl ?_
        refine W.rdg (Any.rd (.eql rfl rfl) _) rfl rfl rfl (rfl) rfl rfl ?_
        refine W.rdg (Any.rd (.pickT rfl rfl rfl) _) rfl rfl rfl (rfl) rfl rfl ?_
        refine W.rdg (Any.rd (.pickF rfl rfl rfl) _) rfl rfl rfl (rfl) rfl rfl ?_
        refine W.any (.pickT rfl rfl rfl) rfl rfl rfl ?_
        refine W.any (.assign rfl) rfl rfl rfl ?_
        refine W.nil ?_
        refine E.thenN ?_
        refine WC.ret ?_
        refine E.retG1 rfl rfl ?_
        exact ⟨(by first | rfl | (simp [alikeE, q1_5, q1_11, q1_24]; done) | (simp [alikeE, q1_5, q1_11, q1_24]; omega) | (simp [alikeE, q1_5, q1_11, q1_24]; split <;> first | (exfalso; omega) | (simp; done) | (simp; omega))), L2⟩
      · refine W.rdg (Any.rd (.dec (.move rfl) (decide_eq_false q1_24)) _) rfl rfl rfl (rfl) rfl rfl ?_
        refine W.skip rfl rfl rfl (rfl) rfl rfl ?_
        refine W.skip rfl rfl rfl (rfl) rfl rfl ?_
        refine W.skip rfl rfl rfl (rfl) rfl rfl ?_
        refine W.skip rfl rfl rfl (rfl) rfl rfl ?_
        refine W.skip rfl rfl rfl (rfl) rfl rfl ?_
        refine W.rdg (Any.rd (.pickF rfl rfl rfl) _) rfl rfl rfl (rfl) rfl rfl ?_
        refine W.rdg (Any.rd (.pickF rfl rfl rfl) _) rfl rfl rfl (rfl) rfl rfl ?_
        refine W.any (.pickT rfl rfl rfl) rfl rfl rfl ?_
        refine W.any (.assign rfl) rfl rfl rfl ?_
        refine W.nil ?_
        refine E.thenN ?_
        refine WC.ret ?_
        refine E.retG1 rfl rfl ?_
        exact ⟨(by first | rfl | (simp [alikeE, q1_5, q1_11, q1_24]; done) | (simp [alikeE, q1_5, q1_11, q1_24]; omega) | (simp [alikeE, q1_5, q1_11, q1_24]; split <;> first | (exfalso; omega) | (simp; done) | (simp; omega))), L2⟩
  · refine W.any (.dec (.move rfl) (decide_eq_false q1_5)) rfl rfl rfl ?_
    refine W.skip rfl rfl rfl (rfl) rfl rfl ?_
    refine W.skip rfl rfl rfl (rfl) rfl rfl ?_
    refine W.skip rfl rfl rfl (rfl) rfl rfl ?_
    refine W.skip rfl rfl rfl (rfl) rfl rfl ?_
    refine W.skip rfl rfl rfl (rfl) rfl rfl ?_
    refine W.skip rfl rfl rfl (rfl) rfl rfl ?_
    refine W.skipu rfl rfl rfl rfl rfl ?_
    refine W.skipu rfl rfl rfl rfl rfl ?_
    refine W.skipu rfl rfl rfl rfl rfl ?_
    refine W.skipu rfl rfl rfl rfl rfl ?_
    refine W.skipu rfl rfl rfl rfl rfl ?_
    refine W.skip rfl rfl rfl (rfl) rfl rfl ?_
    refine W.skip rfl rfl rfl (rfl) rfl rfl ?_
    refine W.skipu rfl rfl rfl rfl rfl ?_
    refine W.skipu rfl rfl rfl rfl rfl ?_
    refine W.skipu rfl rfl rfl rfl rfl ?_
    refine W.skipu rfl rfl rfl rfl rfl ?_
    refine W.skipu rfl rfl rfl rfl rfl ?_
    refine W.skipu rfl rfl rfl rfl rfl ?_
    refine W.skipu rfl rfl rfl rfl rfl ?_
    refine W.skipu rfl rfl rfl rfl rfl ?_
    refine W.skipu rfl rfl rfl rfl rfl ?_
    refine W.skipu rfl rfl rfl rfl rfl ?_
    refine W.skipu rfl rfl rfl rfl rfl ?_
    refine W.skipu rfl rfl rfl rfl rfl ?_
    refine W.skip rfl rfl rfl (rfl) rfl rfl ?_
    refine W.any (.pickF rfl rfl rfl) rfl rfl rfl ?_
    refine W.any (.assign rfl) rfl rfl rfl ?_
    refine W.nil ?_
    refine E.thenN ?_
    refine WC.ret ?_
    refine E.retG1 rfl rfl ?_
    exact ⟨(by first | rfl | (simp [alikeE, q1_5]; done) | (simp [alikeE, q1_5]; omega) | (simp [alikeE, q1_5]; split <;> first | (exfalso; omega) | (simp; done) | (simp; omega))), L2⟩

theorem asum_ok (e : Gsp.Edge) (no : Int) (gone : Bool) (w : World) : Calls Tryz.prog 28 #[.agg (edgeV e).toArray, .int .i64 (no), .bool (gone)] w fun r w' => r = .returned (.agg ((sumA e no gone).map u8v).toArray) ∧ Le w w' := by
  refine enter Tryz.func28 rfl rfl ?_
  have L0 := Le.refl w
  refine WC.seq ?_
  refine WC.region ?_
  refine W.ef rfl rfl rfl ?_
  refine Ef.boxA rfl ?_
  intro g0_0 w0_0 hg0_0 b0_0 h0_0
  have L1 := L0.trans h0_0
  have b0_0 : Blk w0_0 g0_0 36 (edgeV e).toArray := b0_0
  refine W.ef rfl rfl rfl ?_
  refine Ef.allocA z61 ?_
  intro g0_1 w0_1 hg0_1 b0_1 h0_1
  have L2 := L1.trans h0_1
  have b0_1 : Blk w0_1 g0_1 61 ((List.replicate 32 (0 : BitVec 8)).map u8v).toArray := b0_1
  refine W.nil ?_
  refine E.thenN ?_
  refine WC.seq ?_
  refine WC.seq ?_
  refine WC.region ?_
  have f3 := (b0_0.le h0_1)
  refine W.rd (.loadAll ag36 (by rfl) rfl f3) rfl rfl rfl ?_
  refine W.any (.move rfl) rfl rfl rfl ?_
  refine W.ef rfl rfl rfl ?_
  refine Ef.call go26 rfl rfl (amay_ok e no w0_1) ?_
  rintro _ w1_2 ⟨rfl, h1_2⟩
  refine ⟨_, rfl, ?_⟩
  have L4 := L2.trans h1_2
  refine W.any (.not rfl) rfl rfl rfl ?_
  refine W.nil ?_
  refine E.thenN ?_
  by_cases c0 : (mayA e no) = true
  · refine WC.condN rfl (congrArg not (c0)) ?_
    have hnn := fun k => adNums_in (g := gone) (show mayA e no = true by assumption) k
    have hrl := rowsN_len (fun k => (hnn k).2)
    refine WC.skip ?_
    refine E.thenN ?_
    refine WC.seq ?_
    refine WC.region ?_
    refine W.any (.field0 fa36_4 rfl) rfl rfl rfl ?_
    have f5 := (f3.le h1_2)
    refine W.rd (.bpart (polV e.pol) ag34 rfl (by decide) rfl f5 rfl) rfl rfl rfl ?_
    refine W.ef rfl rfl rfl ?_
    refine Ef.allocA z34 ?_
    intro g3_2 w3_2 hg3_2 b3_2 h3_2
    have L6 := L4.trans h3_2
    have b3_2 : Blk w3_2 g3_2 34 (polV noPol).toArray := b3_2
    refine W.ef0 rfl rfl ?_
    refine Ef.storeAll sz34 (by rfl) rfl rfl b3_2 (by simp only [List.size_toArray, polV_row.len]) (polV_row.one e.pol) ?_
    intro w3_3 b3_3 h3_3
    have b3_3 : Blk w3_3 g3_2 34 (polV e.pol).toArray := b3_3
    have L7 : Le w w3_3 := L6.then_ h3_3 (fun q hq => by cases hq; exact Nat.le_trans L4.size hg3_2)
    refine W.any (.assign rfl) rfl rfl rfl ?_
    refine W.nil ?_
    refine E.thenN ?_
    have f8 := ((f5.le h3_2).ch h3_3 (fun h => (show g3_2 ≠ g0_0 from by have := f5.lt; omega) (Option.some.inj h)))
    have f9 := ((b0_1.le (h1_2.trans h3_2)).ch h3_3 (fun h => (show g3_2 ≠ g0_1 from by have := b0_1.lt; have := h1_2.size; omega) (Option.some.inj h)))
    refine WC.cut (ι := Nat) (fun u0 => [(1, .int .i64 (no)), (3, .pointer (some ⟨g0_0, 0, none⟩)), (6, .pointer (some ⟨g0_1, 0, none⟩)), (7, .pointer (some ⟨g3_2, 0, none⟩)), (8, .int .i64 ((if gone = true then 1 else 0)))]) (fun u0 wc6 => (u0 = u0) ∧ Le w wc6 ∧ w3_3.heap.size ≤ wc6.heap.size ∧ Blk wc6 g0_0 36 (edgeV e).toArray ∧ Blk wc6 g0_1 61 ((List.replicate 32 (0 : BitVec 8)).map u8v).toArray ∧ Blk wc6 g3_2 34 (polV e.pol).toArray) ?_ ?_
    · refine WC.seq ?_
      refine WC.region ?_
      refine W.any (.move rfl) rfl rfl rfl ?_
      refine W.nil ?_
      refine E.thenN ?_
      by_cases c1 : gone = true
      · refine WC.condY rfl (c1) ?_
        refine WC.region ?_
        refine W.any (.assign rfl) rfl rfl rfl ?_
        refine W.nil ?_
        refine E.meet 0 (.cons rfl (.cons rfl (.cons rfl (.cons rfl (.cons' rfl (int_eq (by simp [*])) (.nil _)))))) ?_
        exact ⟨rfl, L7, Nat.le_refl _, f8, f9, b3_3⟩
      · refine WC.condN rfl ((Bool.eq_false_iff.2 c1)) ?_
        refine WC.skip ?_
        refine E.meet 0 (.cons rfl (.cons rfl (.cons rfl (.cons rfl (.cons' rfl (int_eq (by simp [*])) (.nil _)))))) ?_
        exact ⟨rfl, L7, Nat.le_refl _, f8, f9, b3_3⟩
    · rintro u0 wc6 ⟨_hu, Lc1, sc1, m1_0, m1_1, m1_2⟩
      refine WC.seq ?_
      refine WC.region ?_
      refine W.any (.assign rfl) rfl rfl rfl ?_
      refine W.nil ?_
      refine E.thenN ?_
      refine WC.seq ?_
      refine WC.seq ?_
      refine WC.region ?_
      refine W.any (.field0 fa36_0 rfl) rfl rfl rfl ?_
      refine W.rd (.loadB (v := .int .i64 (e.f)) na3 rfl m1_0 rfl) rfl rfl rfl ?_
      refine W.any (.field0 fa36_1 rfl) rfl rfl rfl ?_
      refine W.rd (.loadB (v := .int .i64 (e.t)) na3 rfl m1_0 rfl) rfl rfl rfl ?_
      refine W.any (.field0 fa36_2 rfl) rfl rfl rfl ?_
      refine W.rd (.loadB (v := .int .i64 (e.c)) na3 rfl m1_0 rfl) rfl rfl rfl ?_
      refine W.any (.field0 fa36_3 rfl) rfl rfl rfl ?_
      refine W.rd (.loadB (v := .int .i64 (e.r)) na3 rfl m1_0 rfl) rfl rfl rfl ?_
      refine W.any (.field0 fa34_0 rfl) rfl rfl rfl ?_
      refine W.rd (.loadB (v := .int .i64 (e.pol.b)) na3 rfl m1_2 rfl) rfl rfl rfl ?_
      refine W.any (.field0 fa34_1 rfl) rfl rfl rfl ?_
      refine W.rd (.loadB (v := .int .i64 (e.pol.p)) na3 rfl m1_2 rfl) rfl rfl rfl ?_
      refine W.any (.field0 fa34_2 rfl) rfl rfl rfl ?_
      refine W.rd (.loadB (v := .int .i64 (e.pol.d)) na3 rfl m1_2 rfl) rfl rfl rfl ?_
      refine W.any (.field0 fa34_3 rfl) rfl rfl rfl ?_
      refine W.rd (.loadB (v := .int .i64 (e.pol.l)) na3 rfl m1_2 rfl) rfl rfl rfl ?_
      refine W.any (.field0 fa34_4 rfl) rfl rfl rfl ?_
      refine W.rd (.loadB (v := .int .i64 (e.pol.m)) na3 rfl m1_2 rfl) rfl rfl rfl ?_
      refine W.any (.move rfl) rfl rfl rfl ?_
      refine W.any (.move rfl) rfl rfl rfl ?_
      refine W.ef rfl rfl rfl ?_
      refine Ef.buildSliceV (len := 11) [_, _, _, _, _, _, _, _, _, _, _] Tryz.underlying23 el3 rfl (by simp [Value.cells]) rfl (by decide) (by decide) ?_
      intro g7_20 w7_20 hg7_20 b7_20 h7_20
      have L10 := Lc1.trans h7_20
      have b7_20 : Blk w7_20 g7_20 3 (([e.f, e.t, e.c, e.r, e.pol.b, e.pol.p, e.pol.d, e.pol.l, e.pol.m, no, (if gone = true then 1 else 0)]).map iv).flatten.toArray := b7_20
      have o7_20 : OVec w7_20 wc6.heap.size 3 iv 1 (some ⟨g7_20, 0, none⟩) 11 11 ([e.f, e.t, e.c, e.r, e.pol.b, e.pol.p, e.pol.d, e.pol.l, e.pol.m, no, (if gone = true then 1 else 0)]) := b7_20.ovec hg7_20 iv_row rfl rfl (by decide)
      have o11 := o7_20.cast (m' := 11) (ys := (adNums e no gone)) (rfl) (rfl)
      refine W.rd (.len Tryz.underlying23 rfl) rfl rfl rfl ?_
      refine W.any (.move rfl) rfl rfl rfl ?_
      refine W.nil ?_
      refine E.thenN ?_
      refine WC.block ?_
      have f12 := (m1_1.le h7_20)
      refine WC.loop (ι := Nat × (Option Addr) × Nat) (fun ⟨k, Aa, ca⟩ => [(6, .pointer (some ⟨g0_1, 0, none⟩)), (9, .slice Aa ((rowsN ((adNums e no gone).take k)).length) ca), (40, .slice (some ⟨g7_20, 0, none⟩) 11 11), (41, .int .i64 (11)), (42, .int .i64 (((k : Nat) : Int)))]) (fun ⟨k, Aa, ca⟩ wl0 => (k ≤ 11) ∧ Le w wl0 ∧ w7_20.heap.size ≤ wl0.heap.size ∧ Blk wl0 g0_1 61 ((List.replicate 32 (0 : BitVec 8)).map u8v).toArray ∧ OVec wl0 w7_20.heap.size 5 byteV 1 Aa ((rowsN ((adNums e no gone).take k)).length) ca (rowsN ((adNums e no gone).take k)) ∧ OVec wl0 wc6.heap.size 3 iv 1 (some ⟨g7_20, 0, none⟩) 11 11 (adNums e no gone)) (fun ⟨k, Aa, ca⟩ => 11 - k) (0, none, 0) ?_ ?_ ?_
      · exact .cons rfl (.cons rfl (.cons rfl (.cons rfl (.cons rfl (.nil _)))))
      · exact ⟨Nat.zero_le _, L10, Nat.le_refl _, f12, (OVec.nil w7_20 w7_20.heap.size 5 byteV 1 none), o11⟩
      · rintro ⟨k, Aa, ca⟩ wl0 ⟨hk, Ll0, zl0, f0_0, f0_1, f0_2⟩
        have lb0_5 : w7_20.heap.size ≤ wl0.heap.size := by omega
        have lb0_4 : wc6.heap.size ≤ wl0.heap.size := by have := h7_20.size; omega
        have hrk := hrl k
        have hnl : (adNums e no gone).length = 11 := rfl
        have hsn := fun h => rowsN_snoc (ns := (adNums e no gone)) (k := k) h
        refine WC.seq ?_
        refine WC.region ?_
        refine W.any (.lss rfl rfl) rfl rfl rfl ?_
        refine W.nil ?_
        refine E.thenN ?_
        refine WC.seq ?_
        by_cases c2 : ((k : Nat) : Int) < 11
        · refine WC.condY rfl (decide_eq_true c2) ?_
          refine WC.skip ?_
          refine E.thenN ?_
          refine WC.seq ?_
          refine WC.block ?_
          refine WC.seq ?_
          refine WC.region ?_
          refine W.any (.idxS (k) Tryz.underlying23 sz3 rfl rfl (o7_20.vec.isSome iv_row (by omega)) (rfl) (by omega)) rfl rfl rfl ?_
          refine W.rd (.vone (v := .int .i64 (((adNums e no gone).getD k 0))) na3 rfl f0_2.vec iv_row (getS (adNums e no gone) 0 (by first | omega | (simp only [List.length_cons, List.length_nil]; omega))) rfl) rfl rfl rfl ?_
          refine W.any (.assign rfl) rfl rfl rfl ?_
          refine W.nil ?_
          refine E.thenN ?_
          refine WC.region ?_
          refine W.any (.move rfl) rfl rfl rfl ?_
          refine W.any (.move rfl) rfl rfl rfl ?_
          refine W.ef rfl rfl rfl ?_
          refine Ef.call go63 rfl rfl ((by have q := put_ok (((adNums e no gone).getD k 0)).toNat (by have := (hnn k).2; omega) (c := ca) wl0 f0_1.vec (by omega); rw [Int.toNat_of_nonneg (hnn k).1] at q; exact q)) ?_
          rintro _ w10_2 ⟨Ag10_2, cg10_2, rfl, o10_2, h10_2⟩
          refine ⟨_, rfl, ?_⟩
          have L13 := Ll0.trans h10_2
          refine W.any (.assign rfl) rfl rfl rfl ?_
          refine W.nil ?_
          refine E.blkN ?_
          refine E.thenN ?_
          refine WC.region ?_
          refine W.any (.add rfl rfl (by omega)) rfl rfl rfl ?_
          refine W.any (.move rfl) rfl rfl rfl ?_
          refine W.nil ?_
          have f14 := (f0_0.le h10_2)
          have f15 := (f0_2.le h10_2)
          refine E.again (k + 1, Ag10_2, cg10_2) (.cons rfl (.cons' rfl (slice_eq (by rw [hsn (by omega)])) (.cons rfl (.cons rfl (.cons rfl (.nil _)))))) ?_ ?_
          · exact ⟨by omega, L13, by have := zl0; have := h10_2.size; omega, f14, ((o10_2.mono zl0).cast (by rw [hsn (by omega)]) (by rw [hsn (by omega)])), f15⟩
          · first | omega | (simp only []; omega)
        · refine WC.condN rfl (decide_eq_false c2) ?_
          refine WC.exit ?_
          refine E.thenX ?_
          refine E.thenX ?_
          refine E.blkH ?_
          refine E.thenN ?_
          refine WC.seq ?_
          refine WC.region ?_
          refine W.any (.move rfl) rfl rfl rfl ?_
          refine W.ef rfl rfl rfl ?_
          refine Ef.buildSliceN [_] Tryz.underlying134 el99 rfl (by intro v hv; simp at hv; rcases hv with rfl <;> rfl) rfl (by decide) (by decide) ?_
          intro g12_1 w12_1 hg12_1 b12_1 h12_1
          have L16 := Ll0.trans h12_1
          have b12_1 : Blk w12_1 g12_1 99 #[.slice Aa ((rowsN ((adNums e no gone).take k)).length) ca] := b12_1
          have f17 := (f0_1.le h12_1)
          refine W.ef rfl rfl rfl ?_
          refine Ef.call go61 rfl rfl (tag_ok _ nAd w12_1 (ps := [(rowsN ((adNums e no gone).take k))]) rfl (b12_1.sl (s := 1) (n := 1) rfl) (.cons (byte_sb f17.vec) (.nil _)) (by rw [tagLen1]; show 16 + 2 + _ ≤ _; omega)) ?_
          rintro _ w12_2 ⟨rfl, h12_2⟩
          refine ⟨_, rfl, ?_⟩
          have L18 := L16.trans h12_2
          have f19 := (f0_0.le (h12_1.trans h12_2))
          refine W.ef0 rfl rfl ?_
          refine Ef.storeAll sz61 (by simp [(tag_length _ _), List.length_replicate]) rfl rfl f19 (by simp [(tag_length _ _), List.length_replicate]) (all_u8v _) ?_
          intro w12_3 b12_3 h12_3
          have b12_3 : Blk w12_3 g0_1 61 ((tag nAd [(rowsN ((adNums e no gone).take k))]).map u8v).toArray := b12_3
          have L20 : Le w w12_3 := L18.then_ h12_3 (fun q hq => by cases hq; exact Nat.le_trans L1.size hg0_1)
          refine W.nil ?_
          refine E.thenN ?_
          refine WC.ret ?_
          refine E.retG1 rfl (resA rfl b12_3 ag61 (by simp [(tag_length _ _)])) ?_
          exact ⟨by rw [sumA, if_pos (by assumption), List.take_of_length_le (by omega)], L20⟩
  · refine WC.condY rfl (congrArg not ((Bool.eq_false_iff.2 c0))) ?_
    refine WC.seq ?_
    refine WC.region ?_
    refine W.any (.buildA (cells := ((List.replicate 32 (0 : BitVec 8)).map u8v).toArray) Tryz.underlying61 sz5 z61 rfl rfl) rfl rfl rfl ?_
    have f21 := (b0_1.le h1_2)
    refine W.ef0 rfl rfl ?_
    refine Ef.storeAll sz61 (by simp [List.length_replicate, List.length_replicate]) rfl rfl f21 (by simp [List.length_replicate, List.length_replicate]) (all_u8v _) ?_
    intro w2_1 b2_1 h2_1
    have b2_1 : Blk w2_1 g0_1 61 ((List.replicate 32 (0 : BitVec 8)).map u8v).toArray := b2_1
    have L22 : Le w w2_1 := L4.then_ h2_1 (fun q hq => by cases hq; exact Nat.le_trans L1.size hg0_1)
    refine W.nil ?_
    refine E.thenN ?_
    refine WC.ret ?_
    refine E.thenR ?_
    refine E.retG1 rfl (resA rfl b2_1 ag61 (by simp [List.length_replicate])) ?_
    exact ⟨by rw [sumA, if_neg (by assumption)], L22⟩

theorem asign_ok (k : Nat) (e : Gsp.Edge) (no : Int) (gone : Bool) (w : World) : Calls Tryz.prog 7 #[.int .u64 (((k : Nat) : Int)), .agg (edgeV e).toArray, .int .i64 (no), .bool (gone)] w fun r w' => r = .returned (.agg (adV (signA k e no gone)).toArray) ∧ Le w w' := by
  refine enter Tryz.func7 rfl rfl ?_
  have L0 := Le.refl w
  refine WC.seq ?_
  refine WC.region ?_
  refine W.ef rfl rfl rfl ?_
  refine Ef.boxA rfl ?_
  intro g0_0 w0_0 hg0_0 b0_0 h0_0
  have L1 := L0.trans h0_0
  have b0_0 : Blk w0_0 g0_0 36 (edgeV e).toArray := b0_0
  refine W.ef rfl rfl rfl ?_
  refine Ef.allocA z40 ?_
  intro g0_1 w0_1 hg0_1 b0_1 h0_1
  have L2 := L1.trans h0_1
  have b0_1 : Blk w0_1 g0_1 40 (adV noAd).toArray := b0_1
  refine W.nil ?_
  refine E.thenN ?_
  refine WC.seq ?_
  refine WC.seq ?_
  refine WC.region ?_
  have f3 := (b0_0.le h0_1)
  refine W.rd (.loadAll ag36 (by rfl) rfl f3) rfl rfl rfl ?_
  refine W.any (.move rfl) rfl rfl rfl ?_
  refine W.ef rfl rfl rfl ?_
  refine Ef.call go26 rfl rfl (amay_ok e no w0_1) ?_
  rintro _ w1_2 ⟨rfl, h1_2⟩
  refine ⟨_, rfl, ?_⟩
  have L4 := L2.trans h1_2
  refine W.any (.not rfl) rfl rfl rfl ?_
  refine W.nil ?_
  refine E.thenN ?_
  by_cases c0 : (mayA e no) = true
  · refine WC.condN rfl (congrArg not (c0)) ?_
    refine WC.skip ?_
    refine E.thenN ?_
    refine WC.seq ?_
    refine WC.draw [0, 1, 2, 3, 4, 5, 6, 7, 8, 9, 10] mixed (by kernel_rfl) ?_
    intro w3 d3
    have L5 := L4.trans d3
    have f6 := (f3.le (h1_2.trans d3))
    refine G.rd rfl rfl (.loadAll ag36 (by rfl) rfl f6) rfl rfl rfl ?_
    refine G.any rfl rfl (.move rfl) rfl rfl rfl ?_
    refine G.any rfl rfl (.move rfl) rfl rfl rfl ?_
    refine G.any rfl rfl (.move rfl) rfl rfl rfl ?_
    refine G.rd rfl rfl (.loadAll ag36 (by rfl) rfl f6) rfl rfl rfl ?_
    refine G.any rfl rfl (.move rfl) rfl rfl rfl ?_
    refine G.any rfl rfl (.move rfl) rfl rfl rfl ?_
    refine G.ef rfl rfl rfl rfl rfl ?_
    refine Ef.call go28 rfl rfl (asum_ok e no gone w3) ?_
    rintro _ w3_7 ⟨rfl, h3_7⟩
    refine ⟨_, rfl, ?_⟩
    refine ⟨fun _ => h3_7, ?_⟩
    have L7 := L5.trans h3_7
    refine G.ef rfl rfl rfl rfl rfl ?_
    refine Ef.call go27 rfl rfl (ssign_ok k (sumA e no gone) (sumA_length _ _ _) w3_7) ?_
    rintro _ w3_8 ⟨rfl, h3_8⟩
    refine ⟨_, rfl, ?_⟩
    refine ⟨fun _ => h3_8, ?_⟩
    have L8 := L7.trans h3_8
    refine G.any rfl rfl (.buildP (adV (Asp.Ad.mk e no gone (signB k (sumA e no gone)))) pl40 z40 rfl rfl) rfl rfl rfl ?_
    have f9 := (b0_1.le (h1_2.trans (d3.trans (h3_7.trans h3_8))))
    refine G.ef0 rfl rfl rfl rfl ?_
    refine Ef.storeAll sz40 (by rfl) rfl rfl f9 (by simp only [List.size_toArray, adV_row.len]) (adV_row.one (Asp.Ad.mk e no gone (signB k (sumA e no gone)))) ?_
    intro w3_10 b3_10 h3_10
    refine ⟨fun h => absurd h (ne_true_of_eq_false (by kernel_rfl)), ?_⟩
    have b3_10 : Blk w3_10 g0_1 40 (adV (Asp.Ad.mk e no gone (signB k (sumA e no gone)))).toArray := b3_10
    have L10 : Le w w3_10 := L8.then_ h3_10 (fun q hq => by cases hq; exact Nat.le_trans L1.size hg0_1)
    refine G.nil ?_
    refine E.thenN ?_
    refine WC.ret ?_
    refine E.retG1 rfl (resA rfl b3_10 ag40 (by rfl)) ?_
    exact ⟨(by first | rfl | (simp [signA, c0]; done) | (simp [signA, c0]; omega) | (simp [signA, c0]; split <;> first | (exfalso; omega) | (simp; done) | (simp; omega))), L10⟩
  · refine WC.condY rfl (congrArg not ((Bool.eq_false_iff.2 c0))) ?_
    refine WC.seq ?_
    refine WC.region ?_
    refine W.any (.buildP (adV noAd) pl40 z40 rfl rfl) rfl rfl rfl ?_
    have f11 := (b0_1.le h1_2)
    refine W.ef0 rfl rfl ?_
    refine Ef.storeAll sz40 (by rfl) rfl rfl f11 (by simp only [List.size_toArray, adV_row.len]) (adV_row.one noAd) ?_
    intro w2_1 b2_1 h2_1
    have b2_1 : Blk w2_1 g0_1 40 (adV noAd).toArray := b2_1
    have L12 : Le w w2_1 := L4.then_ h2_1 (fun q hq => by cases hq; exact Nat.le_trans L1.size hg0_1)
    refine W.nil ?_
    refine E.thenN ?_
    refine WC.ret ?_
    refine E.thenR ?_
    refine E.retG1 rfl (resA rfl b2_1 ag40 (by rfl)) ?_
    exact ⟨(by first | rfl | (simp [signA, c0]; done) | (simp [signA, c0]; omega) | (simp [signA, c0]; split <;> first | (exfalso; omega) | (simp; done) | (simp; omega))), L12⟩

theorem averify_ok (p : Nat) (a : Asp.Ad) (hp : p < 18446744073709551616) (hr : a.sg.r < 18446744073709551616) (w : World) : Calls Tryz.prog 30 #[.int .u64 (((p : Nat) : Int)), .agg (adV a).toArray] w fun r w' => r = .returned (.bool (verifyA p a)) ∧ Le w w' := by
  refine enter Tryz.func30 rfl rfl ?_
  have L0 := Le.refl w
  refine WC.seq ?_
  refine WC.region ?_
  refine W.ef rfl rfl rfl ?_
  refine Ef.boxA rfl ?_
  intro g0_0 w0_0 hg0_0 b0_0 h0_0
  have L1 := L0.trans h0_0
  have b0_0 : Blk w0_0 g0_0 40 (adV a).toArray := b0_0
  refine W.any (.assign rfl) rfl rfl rfl ?_
  refine W.nil ?_
  refine E.thenN ?_
  refine WC.seq ?_
  refine WC.draw [0, 1, 2, 3, 4, 5, 6, 7, 8, 9, 10, 11, 12, 14, 15, 13, 16, 17, 18] mixed (by kernel_rfl) ?_
  intro w1 d1
  have L2 := L1.trans d1
  refine G.any rfl rfl (.field0 fa40_0 rfl) rfl rfl rfl ?_
  have f3 := (b0_0.le d1)
  refine G.rd rfl rfl (.bpart (edgeV a.e) ag36 rfl (by decide) rfl f3 rfl) rfl rfl rfl ?_
  refine G.any rfl rfl (.field0 fa40_1 rfl) rfl rfl rfl ?_
  refine G.rd rfl rfl (.loadB (v := .int .i64 (a.no)) na3 rfl f3 rfl) rfl rfl rfl ?_
  refine G.ef rfl rfl rfl rfl rfl ?_
  refine Ef.call go26 rfl rfl (amay_ok a.e a.no w1) ?_
  rintro _ w1_4 ⟨rfl, h1_4⟩
  refine ⟨_, rfl, ?_⟩
  refine ⟨fun _ => h1_4, ?_⟩
  have L4 := L2.trans h1_4
  by_cases q1_5 : (mayA a.e a.no) = true
  · refine G.any rfl rfl (.dec (.move rfl) (q1_5)) rfl rfl rfl ?_
    refine G.anyg rfl rfl (.move rfl) rfl rfl rfl (rfl) rfl rfl ?_
    refine G.anyg rfl rfl (.field0 fa40_0 rfl) rfl rfl rfl (rfl) rfl rfl ?_
    have f5 := (f3.le h1_4)
    refine G.rdg rfl rfl (.bpart (edgeV a.e) ag36 rfl (by decide) rfl f5 rfl) rfl rfl rfl (rfl) rfl rfl ?_
    refine G.anyg rfl rfl (.field0 fa40_1 rfl) rfl rfl rfl (rfl) rfl rfl ?_
    refine G.rdg rfl rfl (.loadB (v := .int .i64 (a.no)) na3 rfl f5 rfl) rfl rfl rfl (rfl) rfl rfl ?_
    refine G.anyg rfl rfl (.field0 fa40_2 rfl) rfl rfl rfl (rfl) rfl rfl ?_
    refine G.rdg rfl rfl (.loadB (v := .bool (a.gone)) na4 rfl f5 rfl) rfl rfl rfl (rfl) rfl rfl ?_
    refine G.anyg rfl rfl (.field0 fa40_3 rfl) rfl rfl rfl (rfl) rfl rfl ?_
    refine G.rdg rfl rfl (.bpart (sigV a.sg) ag38 rfl (by decide) rfl f5 rfl) rfl rfl rfl (rfl) rfl rfl ?_
    refine G.efg rfl rfl rfl rfl rfl (rfl) rfl rfl ?_
    refine Ef.call go28 rfl rfl (asum_ok a.e a.no a.gone w1_4) ?_
    rintro _ w1_13 ⟨rfl, h1_13⟩
    refine ⟨_, rfl, ?_⟩
    refine ⟨fun _ => h1_13, ?_⟩
    have L6 := L4.trans h1_13
    refine G.efg rfl rfl rfl rfl rfl (rfl) rfl rfl ?_
    refine Ef.call go66 rfl rfl (verify_ok p (sumA a.e a.no a.gone) (sumA_length _ _ _) a.sg hp hr w1_13) ?_
    rintro _ w1_16 ⟨rfl, h1_16⟩
    refine ⟨_, rfl, ?_⟩
    refine ⟨fun _ => h1_16, ?_⟩
    have L7 := L6.trans h1_16
    refine G.any rfl rfl (.pickT rfl rfl rfl) rfl rfl rfl ?_
    refine G.any rfl rfl (.assign rfl) rfl rfl rfl ?_
    refine G.nil ?_
    refine E.thenN ?_
    refine WC.ret ?_
    refine E.retG1 rfl rfl ?_
    exact ⟨(by first | rfl | (simp [verifyA, q1_5]; done) | (simp [verifyA, q1_5]; omega) | (simp [verifyA, q1_5]; split <;> first | (exfalso; omega) | (simp; done) | (simp; omega))), L7⟩
  · refine G.any rfl rfl (.dec (.move rfl) ((Bool.eq_false_iff.2 q1_5))) rfl rfl rfl ?_
    refine G.skip rfl rfl rfl rfl (rfl) rfl rfl ?_
    refine G.skip rfl rfl rfl rfl (rfl) rfl rfl ?_
    refine G.skip rfl rfl rfl rfl (rfl) rfl rfl ?_
    refine G.skip rfl rfl rfl rfl (rfl) rfl rfl ?_
    refine G.skip rfl rfl rfl rfl (rfl) rfl rfl ?_
    refine G.skip rfl rfl rfl rfl (rfl) rfl rfl ?_
    refine G.skip rfl rfl rfl rfl (rfl) rfl rfl ?_
    refine G.skip rfl rfl rfl rfl (rfl) rfl rfl ?_
    refine G.skip rfl rfl rfl rfl (rfl) rfl rfl ?_
    refine G.skip rfl rfl rfl rfl (rfl) rfl rfl ?_
    refine G.skip rfl rfl rfl rfl (rfl) rfl rfl ?_
    refine G.any rfl rfl (.pickF rfl rfl rfl) rfl rfl rfl ?_
    refine G.any rfl rfl (.assign rfl) rfl rfl rfl ?_
    refine G.nil ?_
    refine E.thenN ?_
    refine WC.ret ?_
    refine E.retG1 rfl rfl ?_
    exact ⟨(by first | rfl | (simp [verifyA, q1_5]; done) | (simp [verifyA, q1_5]; omega) | (simp [verifyA, q1_5]; split <;> first | (exfalso; omega) | (simp; done) | (simp; omega))), L4⟩
end Go.Proofs.YtgpdfkplkaojcaaGreat

namespace Go.Proofs.YtgpdfkplkaojcaaGreat
open Go Go.Sx Go.Hsp Go.Num Go.Osp Go.Gsp Go.Asp
set_option maxRecDepth 20000
set_option linter.unusedSimpArgs false
set_option linter.unusedVariables false
theorem filt_T {pr : Int → Bool} (xs : List Int) (k : Nat) (hk : k < xs.length) (h : pr (xs.getD k 0) = true) : (xs.take (k + 1)).filter pr = (xs.take k).filter pr ++ [xs.getD k 0] := by
  rw [List.take_add_one, getS xs 0 hk, List.filter_append]
  simp [List.filter_cons, -List.getD_eq_getElem?_getD, h]
theorem filt_F {pr : Int → Bool} (xs : List Int) (k : Nat) (hk : k < xs.length) (h : pr (xs.getD k 0) = false) : (xs.take (k + 1)).filter pr = (xs.take k).filter pr := by
  rw [List.take_add_one, getS xs 0 hk, List.filter_append]
  simp [List.filter_cons, -List.getD_eq_getElem?_getD, h]
theorem filt_no {pr : Int → Bool} {xs : List Int} (h : idxI pr xs = -1) : xs.filter (fun i => !pr i) = xs := by
  rw [List.filter_eq_self]
  intro a ha
  unfold idxI at h
  split at h
  · omega
  · rename_i hn
    rw [List.any_eq_true] at hn
    cases e : pr a
    · rfl
    · exact absurd ⟨a, ha, e⟩ hn
theorem filt_one {pr : Int → Bool} {xs : List Int} (h : ¬ idxI pr xs = -1) : ∃ i : Nat, idxI pr xs = i ∧ i < xs.length ∧ pr (xs.getD i 0) = true ∧ xs.take i = (xs.take (i + 1)).filter (fun i => !pr i) := by
  unfold idxI at h ⊢
  split at h
  · rename_i hy
    have hlt : xs.findIdx pr < xs.length := List.findIdx_lt_length_of_exists (by simpa using hy)
    have hat : pr (xs.getD (xs.findIdx pr) 0) = true := by
      have := List.findIdx_getElem (w := hlt); simpa [List.getD, hlt] using this
    refine ⟨_, if_pos hy, hlt, hat, ?_⟩
    rw [filt_F xs _ hlt (by rw [hat]; rfl), eq_comm, List.filter_eq_self]
    intro a ha
    obtain ⟨j, hj, rfl⟩ := List.mem_iff_getElem.1 ha
    have hj2 : j < xs.findIdx pr := by simp at hj; omega
    have := List.not_of_lt_findIdx hj2
    simpa using this
  · exact absurd rfl h
theorem take_set {ys : List Int} {i : Nat} {v : Int} (h : i < ys.length) : (ys.set i v).take (i + 1) = ys.take i ++ [v] := by
  rw [List.take_add_one, List.take_set, List.set_eq_of_length_le (by simp; omega)]
  simp [h]
theorem giclone_ok {Aq : Option Addr} {n cq : Nat} {xs : List Int} (w : World) (hO : Vec w iv 1 Aq n xs) (hn : n ≤ 1000000) : Calls Tryz.prog 33 #[.slice Aq n cq] w fun r w' => ∃ (A : Option Addr) (c : Nat), r = .returned (.slice A n c) ∧ OVec w' w.heap.size 3 iv 1 A n c xs ∧ Le w w' := by
  refine enter Tryz.func33 rfl rfl ?_
  have L0 := Le.refl w
  refine WC.seq ?_
  refine WC.region ?_
  refine W.any (.assign rfl) rfl rfl rfl ?_
  refine W.nil ?_
  refine E.thenN ?_
  refine WC.seq ?_
  refine WC.seq ?_
  refine WC.region ?_
  refine W.any (.move rfl) rfl rfl rfl ?_
  refine W.any (.isNil Tryz.underlying23 rfl) rfl rfl rfl ?_
  refine W.nil ?_
  refine E.thenN ?_
  by_cases c0 : Aq.isNone = true
  · refine WC.condY rfl (c0) ?_
    refine WC.seq ?_
    refine WC.region ?_
    refine W.any (.assign rfl) rfl rfl rfl ?_
    refine W.nil ?_
    refine E.thenN ?_
    refine WC.ret ?_
    refine E.thenR ?_
    refine E.retG1 rfl rfl ?_
    have h0 : n = 0 := (by rcases Nat.eq_zero_or_pos n with h | h; exact h; have := hO.isSome iv_row h; rw [Option.isNone_iff_eq_none] at c0; rw [c0] at this; cases this); subst h0; have hx := List.length_eq_zero_iff.1 hO.1; subst hx; exact ⟨none, 0, rfl, OVec.nil _ _ _ _ _ _, L0⟩
  · refine WC.condN rfl ((Bool.eq_false_iff.2 c0)) ?_
    refine WC.skip ?_
    refine E.thenN ?_
    refine WC.seq ?_
    refine WC.region ?_
    refine W.ef rfl rfl rfl ?_
    refine Ef.buildSlice0 Tryz.underlying23 el3 ?_
    intro g3_0 w3_0 hg3_0 b3_0 h3_0
    have L1 := L0.trans h3_0
    have o3_0 : OVec w3_0 w.heap.size 3 iv 1 (some ⟨g3_0, 0, none⟩) 0 0 [] := OVec.nil _ _ _ _ _ _
    refine W.any (.move rfl) rfl rfl rfl ?_
    refine W.ef rfl rfl rfl ?_
    refine Ef.vcat Tryz.underlying23 el3 Tryz.underlying23 iv_row rfl o3_0 rfl (hO.le L1) (by omega) (by unfold maxLen; omega) (by have := h3_0.size; omega) ?_
    intro A3_2 c3_2 w3_2 o3_2 h3_2 at3_2
    have L2 : Le w w3_2 := L1.then_ h3_2 (fun q hq => Nat.le_trans L0.size (o3_0.row hq).1)
    refine W.any (.assign rfl) rfl rfl rfl ?_
    refine W.nil ?_
    refine E.thenN ?_
    refine WC.ret ?_
    refine E.retG1 rfl rfl ?_
    exact ⟨A3_2, c3_2, by rw [Nat.zero_add], (by simpa using (o3_2.mono L0.size)), L2⟩

theorem gpclone_ok {Aq : Option Addr} {n cq : Nat} {xs : List Nat} (w : World) (hO : Vec w pv1 1 Aq n xs) (hn : n ≤ 1000000) : Calls Tryz.prog 25 #[.slice Aq n cq] w fun r w' => ∃ (A : Option Addr) (c : Nat), r = .returned (.slice A n c) ∧ OVec w' w.heap.size 28 pv1 1 A n c xs ∧ Le w w' := by
  refine enter Tryz.func25 rfl rfl ?_
  have L0 := Le.refl w
  refine WC.seq ?_
  refine WC.region ?_
  refine W.any (.assign rfl) rfl rfl rfl ?_
  refine W.nil ?_
  refine E.thenN ?_
  refine WC.seq ?_
  refine WC.seq ?_
  refine WC.region ?_
  refine W.any (.move rfl) rfl rfl rfl ?_
  refine W.any (.isNil Tryz.underlying26 rfl) rfl rfl rfl ?_
  refine W.nil ?_
  refine E.thenN ?_
  by_cases c0 : Aq.isNone = true
  · refine WC.condY rfl (c0) ?_
    refine WC.seq ?_
    refine WC.region ?_
    refine W.any (.assign rfl) rfl rfl rfl ?_
    refine W.nil ?_
    refine E.thenN ?_
    refine WC.ret ?_
    refine E.thenR ?_
    refine E.retG1 rfl rfl ?_
    have h0 : n = 0 := (by rcases Nat.eq_zero_or_pos n with h | h; exact h; have := hO.isSome pv1_row h; rw [Option.isNone_iff_eq_none] at c0; rw [c0] at this; cases this); subst h0; have hx := List.length_eq_zero_iff.1 hO.1; subst hx; exact ⟨none, 0, rfl, OVec.nil _ _ _ _ _ _, L0⟩
  · refine WC.condN rfl ((Bool.eq_false_iff.2 c0)) ?_
    refine WC.skip ?_
    refine E.thenN ?_
    refine WC.seq ?_
    refine WC.region ?_
    refine W.ef rfl rfl rfl ?_
    refine Ef.buildSlice0 Tryz.underlying26 el28 ?_
    intro g3_0 w3_0 hg3_0 b3_0 h3_0
    have L1 := L0.trans h3_0
    have o3_0 : OVec w3_0 w.heap.size 28 pv1 1 (some ⟨g3_0, 0, none⟩) 0 0 [] := OVec.nil _ _ _ _ _ _
    refine W.any (.move rfl) rfl rfl rfl ?_
    refine W.ef rfl rfl rfl ?_
    refine Ef.vcat Tryz.underlying26 el28 Tryz.underlying26 pv1_row rfl o3_0 rfl (hO.le L1) (by omega) (by unfold maxLen; omega) (by have := h3_0.size; omega) ?_
    intro A3_2 c3_2 w3_2 o3_2 h3_2 at3_2
    have L2 : Le w w3_2 := L1.then_ h3_2 (fun q hq => Nat.le_trans L0.size (o3_0.row hq).1)
    refine W.any (.assign rfl) rfl rfl rfl ?_
    refine W.nil ?_
    refine E.thenN ?_
    refine WC.ret ?_
    refine E.retG1 rfl rfl ?_
    exact ⟨A3_2, c3_2, by rw [Nat.zero_add], (by simpa using (o3_2.mono L0.size)), L2⟩

theorem take1_ok (i h : Int) (hh : 0 ≤ h ∧ h ≤ 1048576) {g1 : Nat} (w : World) (hg1 : Blk w g1 3 #[.int .i64 h]) : Calls Tryz.prog 34 #[.int .i64 (i), .pointer (some ⟨g1, 0, none⟩)] w fun r w' => r = .returned (.bool (decide (i ≤ h - 100))) ∧ Le w w' := by
  refine enter Tryz.func34 rfl rfl ?_
  have L0 := Le.refl w
  refine WC.seq ?_
  refine WC.region ?_
  refine W.any (.assign rfl) rfl rfl rfl ?_
  refine W.nil ?_
  refine E.thenN ?_
  refine WC.seq ?_
  refine WC.region ?_
  refine W.any (.move rfl) rfl rfl rfl ?_
  refine W.rd (.loadB (v := .int .i64 (h)) na3 rfl (hg1.le L0) rfl) rfl rfl rfl ?_
  refine W.any (.sub rfl rfl (by omega)) rfl rfl rfl ?_
  refine W.any (.leq rfl rfl) rfl rfl rfl ?_
  refine W.any (.assign rfl) rfl rfl rfl ?_
  refine W.nil ?_
  refine E.thenN ?_
  refine WC.ret ?_
  refine E.retG1 rfl rfl ?_
  exact ⟨rfl, L0⟩

theorem delf_ok {base : Nat} {A : Option Addr} {n c : Nat} {xs : List Int} {F : Nat} {caps : Array Value} (pr : Int → Bool) (hgo : IsGo Tryz.prog F) (w : World) (hO : OVec w base 3 iv 1 A n c xs) (hn : n ≤ 1000000) (hf : ∀ (i : Int) (w1 : World), Ch w w1 (rowOf A c) → Calls Tryz.prog F (#[.int .i64 i] ++ caps) w1 fun r w2 => r = .returned (.bool (pr i)) ∧ Le w1 w2) : Calls Tryz.prog 32 #[.slice A n c, .func (.func F) #[] caps] w fun r w' => r = .returned (.slice A (xs.filter (fun i => !pr i)).length c) ∧ OVec w' base 3 iv 1 A (xs.filter (fun i => !pr i)).length c (xs.filter (fun i => !pr i)) ∧ Ch w w' (rowOf A c) := by
  have hl := hO.1
  refine enter Tryz.func32 rfl rfl ?_
  have L0 := Ch.refl w (rowOf A c)
  refine WC.seq ?_
  refine WC.region ?_
  refine W.any (.assign rfl) rfl rfl rfl ?_
  refine W.nil ?_
  refine E.thenN ?_
  refine WC.seq ?_
  refine WC.region ?_
  refine W.any (.move rfl) rfl rfl rfl ?_
  refine W.any (.move rfl) rfl rfl rfl ?_
  refine W.ef rfl rfl rfl ?_
  refine Ef.call go67 rfl rfl (indexi_ok pr hgo w hO.vec hn (fun i w1 hl => hf i w1 (L0.trans (hl.ch _)))) ?_
  rintro _ w1_2 ⟨rfl, h1_2⟩
  refine ⟨_, rfl, ?_⟩
  have L1 := L0.trans (h1_2.ch _)
  refine W.any (.assign rfl) rfl rfl rfl ?_
  refine W.nil ?_
  refine E.thenN ?_
  refine WC.seq ?_
  refine WC.seq ?_
  refine WC.region ?_
  refine W.any (.move rfl) rfl rfl rfl ?_
  refine W.any (.eql rfl rfl) rfl rfl rfl ?_
  refine W.nil ?_
  refine E.thenN ?_
  by_cases c0 : (idxI pr xs) = (-1)
  · refine WC.condY rfl (decide_eq_true c0) ?_
    have hno := filt_no (by assumption)
    refine WC.seq ?_
    refine WC.region ?_
    refine W.any (.move rfl) rfl rfl rfl ?_
    refine W.any (.assign rfl) rfl rfl rfl ?_
    refine W.nil ?_
    refine E.thenN ?_
    refine WC.ret ?_
    refine E.thenR ?_
    have f2 := (hO.le h1_2)
    refine E.retG1 rfl rfl ?_
    exact ⟨by rw [hno, hl], f2.cast (by rw [hno, hl]) hno.symm, L1⟩
  · refine WC.condN rfl (decide_eq_false c0) ?_
    obtain ⟨i0, hi0, hi1, hi2, hi3⟩ := filt_one (by assumption)
    refine WC.skip ?_
    refine E.thenN ?_
    refine WC.seq ?_
    refine WC.seq ?_
    refine WC.region ?_
    refine W.any (.as (.move rfl) (int_eq (b := ((i0 : Nat) : Int)) hi0)) rfl rfl rfl ?_
    refine W.any (.add rfl rfl (by omega)) rfl rfl rfl ?_
    refine W.any (.assign rfl) rfl rfl rfl ?_
    refine W.nil ?_
    refine E.thenN ?_
    refine WC.block ?_
    have f3 := (hO.le h1_2)
    refine WC.loop (ι := Nat × Nat × (List Int)) (fun ⟨i, j, ys⟩ => [(0, .slice A n c), (1, .func (.func F) #[] caps), (5, .int .i64 (((i : Nat) : Int))), (6, .int .i64 (((j : Nat) : Int)))]) (fun ⟨i, j, ys⟩ wl0 => (i < j ∧ j ≤ n) ∧ (ys.length = n) ∧ (ys.take i = (xs.take j).filter (fun i => !pr i)) ∧ (∀ q, j ≤ q → ys.getD q 0 = xs.getD q 0) ∧ Ch w wl0 (rowOf A c) ∧ w1_2.heap.size ≤ wl0.heap.size ∧ OVec wl0 base 3 iv 1 A n c ys) (fun ⟨i, j, ys⟩ => n - j) (i0, i0 + 1, xs) ?_ ?_ ?_
    · exact .cons rfl (.cons rfl (.cons' rfl (int_eq hi0) (.cons rfl (.nil _))))
    · exact ⟨by omega, hl, hi3, fun q _ => rfl, L1, Nat.le_refl _, f3⟩
    · rintro ⟨i, j, ys⟩ wl0 ⟨hij, hyl, hya, hyb, Ll0, zl0, f0_0⟩
      refine WC.seq ?_
      refine WC.seq ?_
      refine WC.region ?_
      refine W.any (.move rfl) rfl rfl rfl ?_
      refine W.any (.move rfl) rfl rfl rfl ?_
      refine W.rd (.len Tryz.underlying23 rfl) rfl rfl rfl ?_
      refine W.any (.lss rfl rfl) rfl rfl rfl ?_
      refine W.nil ?_
      refine E.thenN ?_
      by_cases c1 : ((j : Nat) : Int) < ((n : Nat) : Int)
      · refine WC.condY rfl (decide_eq_true c1) ?_
        refine WC.skip ?_
        refine E.thenN ?_
        refine WC.seq ?_
        refine WC.block ?_
        refine WC.seq ?_
        refine WC.region ?_
        refine W.any (.move rfl) rfl rfl rfl ?_
        refine W.any (.move rfl) rfl rfl rfl ?_
        refine W.any (.idxS (j) Tryz.underlying23 sz3 rfl rfl (hO.vec.isSome iv_row (by omega)) (rfl) (by omega)) rfl rfl rfl ?_
        refine W.rd (.vone (v := .int .i64 ((ys.getD j 0))) na3 rfl f0_0.vec iv_row (getS ys 0 (by first | omega | (simp only [List.length_cons, List.length_nil]; omega))) rfl) rfl rfl rfl ?_
        refine W.any (.assign rfl) rfl rfl rfl ?_
        refine W.nil ?_
        refine E.thenN ?_
        refine WC.seq ?_
        refine WC.region ?_
        refine W.any (.move rfl) rfl rfl rfl ?_
        refine W.any (.move rfl) rfl rfl rfl ?_
        refine W.ef rfl rfl rfl ?_
        refine Ef.callC hgo rfl rfl rfl (hf _ _ Ll0) ?_
        rintro _ w8_2 ⟨rfl, h8_2⟩
        refine ⟨_, rfl, ?_⟩
        have L4 := Ll0.trans (h8_2.ch _)
        refine W.any (.not rfl) rfl rfl rfl ?_
        refine W.nil ?_
        refine E.thenN ?_
        by_cases c2 : (pr (ys.getD j 0)) = true
        · refine WC.condN rfl (congrArg not (c2)) ?_
          refine WC.skip ?_
          refine E.blkN ?_
          refine E.thenN ?_
          refine WC.region ?_
          refine W.any (.move rfl) rfl rfl rfl ?_
          refine W.any (.add rfl rfl (by omega)) rfl rfl rfl ?_
          refine W.any (.assign rfl) rfl rfl rfl ?_
          refine W.nil ?_
          have f5 := (f0_0.le h8_2)
          refine E.again (i, j + 1, ys) (.cons rfl (.cons rfl (.cons rfl (.cons rfl (.nil _))))) ?_ ?_
          · exact ⟨by omega, hyl, by rw [hya, filt_F xs j (by omega) (by rw [← hyb j (Nat.le_refl _)]; have hq : pr (ys.getD j 0) = true := (by assumption); rw [hq]; rfl)], fun q hq => hyb q (by omega), L4, by have := zl0; have := h8_2.size; omega, f5⟩
          · first | omega | (simp only []; omega)
        · refine WC.condY rfl (congrArg not ((Bool.eq_false_iff.2 c2))) ?_
          refine WC.seq ?_
          refine WC.region ?_
          refine W.any (.move rfl) rfl rfl rfl ?_
          refine W.any (.move rfl) rfl rfl rfl ?_
          refine W.any (.move rfl) rfl rfl rfl ?_
          refine W.any (.idxS (i) Tryz.underlying23 sz3 rfl rfl (hO.vec.isSome iv_row (by omega)) (rfl) (by omega)) rfl rfl rfl ?_
          have f6 := (f0_0.le h8_2)
          refine W.ef0 rfl rfl ?_
          refine Ef.vset (j := i) (o := 0) (ys.getD j 0) sz3 rfl (by omega) rfl f6 iv_row (getS ys 0 (by omega)) (by decide) rfl rfl ?_
          intro w9_4 o9_4 h9_4
          have L7 := L4.trans h9_4
          refine W.nil ?_
          refine E.thenN ?_
          refine WC.region ?_
          refine W.any (.move rfl) rfl rfl rfl ?_
          refine W.any (.add rfl rfl (by omega)) rfl rfl rfl ?_
          refine W.any (.assign rfl) rfl rfl rfl ?_
          refine W.nil ?_
          refine E.blkN ?_
          refine E.thenN ?_
          refine WC.region ?_
          refine W.any (.move rfl) rfl rfl rfl ?_
          refine W.any (.add rfl rfl (by omega)) rfl rfl rfl ?_
          refine W.any (.assign rfl) rfl rfl rfl ?_
          refine W.nil ?_
          refine E.again (i + 1, j + 1, (ys.set i (ys.getD j 0))) (.cons rfl (.cons rfl (.cons rfl (.cons rfl (.nil _))))) ?_ ?_
          · exact ⟨by omega, by rw [List.length_set]; exact hyl, by rw [take_set (by omega), hya, hyb j (Nat.le_refl _) , ← filt_T xs j (by omega) (by rw [← hyb j (Nat.le_refl _)]; have hq : ¬ pr (ys.getD j 0) = true := (by assumption); simp [-List.getD_eq_getElem?_getD, hq])], fun q hq => by rw [List.getD_eq_getElem?_getD, List.getElem?_set_ne (by omega), ← List.getD_eq_getElem?_getD]; exact hyb q (by omega), L7, by have := zl0; have := h8_2.size; have := h9_4.size; omega, o9_4⟩
          · first | omega | (simp only []; omega)
      · refine WC.condN rfl (decide_eq_false c1) ?_
        refine WC.exit ?_
        refine E.thenX ?_
        refine E.thenX ?_
        refine E.blkH ?_
        refine E.thenN ?_
        refine WC.seq ?_
        refine WC.region ?_
        refine W.any (.move rfl) rfl rfl rfl ?_
        refine W.any (.move rfl) rfl rfl rfl ?_
        have cp8 := f0_0.cap
        have v9 := f0_0.vec.cutL c i (by omega) (by omega) iv_row
        have v9l := v9.1
        refine W.any (.cutL (i) Tryz.underlying23 sz3 rfl rfl (rfl) (by omega) (by omega)) rfl rfl rfl ?_
        refine W.ef0 rfl rfl ?_
        refine Ef.vclear (j := i) 0 Tryz.underlying23 el3 rfl rfl rfl f0_0 iv_row (by omega) ?_
        intro w11_3 o11_3 h11_3
        have L10 := Ll0.trans h11_3
        refine W.nil ?_
        refine E.thenN ?_
        refine WC.seq ?_
        refine WC.region ?_
        refine W.any (.move rfl) rfl rfl rfl ?_
        refine W.any (.move rfl) rfl rfl rfl ?_
        have cp11 := o11_3.cap
        have v12 := o11_3.front i (by omega) iv_row
        have v12l := v12.1
        refine W.any (.cutH (i) Tryz.underlying23 sz3 rfl rfl (rfl) (by omega)) rfl rfl rfl ?_
        refine W.any (.assign rfl) rfl rfl rfl ?_
        refine W.nil ?_
        refine E.thenN ?_
        refine WC.ret ?_
        refine E.retG1 rfl rfl ?_
        have hfin : (ys.take i ++ List.replicate (n - i) 0).take i = (xs.filter (fun i => !pr i)) := by rw [List.take_append_of_le_length (by simp; omega), List.take_take, Nat.min_self, hya, List.take_of_length_le (by omega)]
        have hlen : i = (xs.filter (fun i => !pr i)).length := by rw [← hfin]; simp; omega
        exact ⟨by rw [← hlen], v12.cast hlen hfin, L10⟩
end Go.Proofs.YtgpdfkplkaojcaaGreat

