/- GraphAds: for every input the law answers true and leaves its arguments as they were. -/
import Derived.Test.YtgpdfkplkaojcaaGreatGraphAdsJ
import Derived.OrdersHeld
import Derived.WalkKit
import Derived.Deep.AppendSrc
import Derived.Deep.MidRow
import Derived.Laws.OwnMore
import Derived.WalkSpells
import Derived.Lib.ConvBytes
import Derived.Lib.AppendZerosOnto
import Derived.Laws.StructEq
import Derived.Maps.RangeRun
import Derived.Laws.Pointers
import Derived.Test.YtgpdfkplkaojcaaGreatProg
import Derived.KernelRfl
import Derived.Lib.Mul64
namespace Go.Proofs.YtgpdfkplkaojcaaGreat
open Go Go.Sx Go.Hsp Go.Num Go.Osp Go.Gsp
set_option maxRecDepth 20000
set_option linter.unusedSimpArgs false
set_option linter.unusedVariables false
theorem filter_T {pr : Gsp.Edge → Bool} (xs : List Gsp.Edge) (k : Nat) (hk : k < xs.length) (h : pr (xs.getD k noEdge) = true) : (xs.take k).filter pr ++ [xs.getD k noEdge] = (xs.take (k + 1)).filter pr := by
  rw [List.take_add_one, getS xs noEdge hk, List.filter_append]
  simp [List.filter_cons, -List.getD_eq_getElem?_getD, h]
theorem filter_F {pr : Gsp.Edge → Bool} (xs : List Gsp.Edge) (k : Nat) (hk : k < xs.length) (h : ¬ pr (xs.getD k noEdge) = true) : (xs.take k).filter pr = (xs.take (k + 1)).filter pr := by
  rw [List.take_add_one, getS xs noEdge hk, List.filter_append]
  simp [List.filter_cons, -List.getD_eq_getElem?_getD, h]
/-- Where the first one lies of which something is so. -/
def idxE (pr : Gsp.Edge → Bool) (xs : List Gsp.Edge) : Int := if xs.any pr then (xs.findIdx pr : Int) else -1
theorem idxE_at {pr : Gsp.Edge → Bool} {xs : List Gsp.Edge} {k : Nat} (hk : k < xs.length) (hb : ∀ j, j < k → ¬ pr (xs.getD j noEdge) = true) (h : pr (xs.getD k noEdge) = true) : (k : Int) = idxE pr xs := by
  have hx : xs.getD k noEdge = xs[k] := by simp [List.getD, hk]
  have : xs.findIdx pr = k := by
    rw [List.findIdx_eq hk]
    exact ⟨by rw [← hx]; exact h, fun j hj => by have := hb j hj; simpa [List.getD, show j < xs.length by omega] using this⟩
  rw [idxE, if_pos (by rw [List.any_eq_true]; exact ⟨xs[k], List.getElem_mem hk, by rw [← hx]; exact h⟩), this]
theorem idxE_no {pr : Gsp.Edge → Bool} {xs : List Gsp.Edge} {k : Nat} (hk : xs.length ≤ k) (hb : ∀ j, j < k → j < xs.length → ¬ pr (xs.getD j noEdge) = true) : -1 = idxE pr xs := by
  rw [idxE, if_neg]
  rw [List.any_eq_true]
  rintro ⟨y, hy, hp⟩
  obtain ⟨j, hj, rfl⟩ := List.mem_iff_getElem.1 hy
  exact hb j (by omega) hj (by simpa [List.getD, hj] using hp)
/-- Who was there ahead of edge k. -/
def Been (bs : List Bool) (xs : List Gsp.Edge) (k : Nat) : Prop := ∀ v : Nat, v < 12 → (bs.getD v false = true ↔ ∃ j, j < k ∧ ((xs.getD j noEdge).f = (v : Int) ∨ (xs.getD j noEdge).t = (v : Int)))
theorem been_first (xs : List Gsp.Edge) : Been (List.replicate 12 false) xs 0 := fun v hv => ⟨fun h => absurd h (by rw [show (List.replicate 12 false).getD v false = false from (show ∀ v, v < 12 → (List.replicate 12 false).getD v false = false by decide) v hv]; decide), fun ⟨j, hj, _⟩ => absurd hj (Nat.not_lt_zero _)⟩
theorem been_next {bs : List Bool} {xs : List Gsp.Edge} {k : Nat} (hb : bs.length = 12) (h1 : edgeOk (xs.getD k noEdge) = true) (hd : Been bs xs k) : Been ((bs.set (xs.getD k noEdge).f.toNat true).set (xs.getD k noEdge).t.toNat true) xs (k + 1) := by
  have hok := edgeOk_T h1
  intro v hv
  have e : ((bs.set (xs.getD k noEdge).f.toNat true).set (xs.getD k noEdge).t.toNat true).getD v false = true ↔ ((xs.getD k noEdge).t.toNat = v ∨ (xs.getD k noEdge).f.toNat = v ∨ bs.getD v false = true) := by
    simp only [List.getD, List.getElem?_set, List.length_set, hb]
    by_cases h2 : (xs.getD k noEdge).t.toNat = v
    · simp only [List.getD] at h2; simp [h2, hv]
    · by_cases h3 : (xs.getD k noEdge).f.toNat = v
      · simp only [List.getD] at h2 h3; simp [h2, h3, hv]
      · simp only [List.getD] at h2 h3; simp [h2, h3]
  rw [e, hd v hv]
  constructor
  · rintro (h | h | ⟨j, hj, h⟩)
    · exact ⟨k, by omega, .inr (by omega)⟩
    · exact ⟨k, by omega, .inl (by omega)⟩
    · exact ⟨j, by omega, h⟩
  · rintro ⟨j, hj, h⟩
    by_cases hjk : j = k
    · subst hjk; rcases h with h | h <;> omega
    · exact .inr (.inr ⟨j, by omega, h⟩)
theorem way_next {bs : List Bool} {xs : List Gsp.Edge} {k : Nat} (hz : ∀ j, j < k → WayAt xs j) (h1 : edgeOk (xs.getD k noEdge) = true) (hl : 0 < k → (xs.getD (k - 1) noEdge).t = (xs.getD k noEdge).f) (hd : Been bs xs k) (hn : ¬ bs.getD (xs.getD k noEdge).t.toNat false = true) : ∀ j, j < k + 1 → WayAt xs j := by
  intro j hj
  by_cases hjk : j = k
  · subst hjk
    have hok := edgeOk_T h1
    refine ⟨h1, hl, fun q hq he => ?_⟩
    by_cases hqj : q = j
    · subst hqj; exact hok.2.2.1 he
    · exact hn ((hd _ (by omega)).2 ⟨q, by omega, .inl (by omega)⟩)
  · exact hz j (by omega)
theorem way_fail {bs : List Bool} {xs : List Gsp.Edge} {k : Nat} (hz : ∀ j, j < k → WayAt xs j) (hd : Been bs xs k) (hn : bs.getD (xs.getD k noEdge).t.toNat false = true) : ¬ WayAt xs k := fun ⟨h1, hl, hw⟩ => by
  have hok := edgeOk_T h1
  obtain ⟨j, hj, h | h⟩ := (hd _ (by omega)).1 hn
  · exact hw j (by omega) (by omega)
  · have hj1 : (xs.getD (j + 1) noEdge).f = (xs.getD j noEdge).t := by
      by_cases hjk : j + 1 = k
      · have := hl (by omega); rw [show k - 1 = j by omega] at this; rw [hjk]; exact this.symm
      · have := (hz (j + 1) (by omega)).2.1 (by omega); rw [show j + 1 - 1 = j by omega] at this; exact this.symm
    exact hw (j + 1) (by omega) (by rw [hj1]; omega)
/-- The edge of a channel, from a party on. -/
def findE (xs : List Gsp.Edge) (ch fr : Int) : Gsp.Edge × Bool := if xs.any (fun e => decide (e.c = ch) && decide (e.f = fr)) then (xs.getD (xs.findIdx (fun e => decide (e.c = ch) && decide (e.f = fr))) noEdge, true) else (noEdge, false)
theorem those_ok {A : Option Addr} {n c : Nat} {xs : List Gsp.Edge} {F : Nat} {caps : Array Value} (pr : Gsp.Edge → Bool) (hgo : IsGo Tryz.prog F) (w : World) (hV : Vec w edgeV 9 A n xs) (hn : n ≤ 1000000) (hf : ∀ (e : Gsp.Edge) (w1 : World), Le w w1 → Calls Tryz.prog F (#[.agg (edgeV e).toArray] ++ caps) w1 fun r w2 => r = .returned (.bool (pr e)) ∧ Le w1 w2) : Calls Tryz.prog 38 #[.slice A n c, .func (.func F) #[] caps] w fun r w' => ∃ A' c', r = .returned (.slice A' (xs.filter pr).length c') ∧ OVec w' w.heap.size 36 edgeV 9 A' (xs.filter pr).length c' (xs.filter pr) ∧ Le w w' := by
  have hl := hV.1
  refine enter Tryz.func38 rfl rfl ?_
  have L0 := Le.refl w
  refine WC.seq ?_
  refine WC.region ?_
  refine W.any (.assign rfl) rfl rfl rfl ?_
  refine W.nil ?_
  refine E.thenN ?_
  refine WC.seq ?_
  refine WC.region ?_
  refine W.any (.assign rfl) rfl rfl rfl ?_
  refine W.nil ?_
  refine E.thenN ?_
  refine WC.seq ?_
  refine WC.seq ?_
  refine WC.region ?_
  refine W.any (.move rfl) rfl rfl rfl ?_
  refine W.rd (.len Tryz.underlying44 rfl) rfl rfl rfl ?_
  refine W.any (.move rfl) rfl rfl rfl ?_
  refine W.nil ?_
  refine E.thenN ?_
  refine WC.block ?_
  refine WC.loop (ι := Nat × (Option Addr) × Nat) (fun ⟨k, Aa, ca⟩ => [(1, .func (.func F) #[] caps), (5, .slice Aa (((xs.take k).filter pr).length) ca), (8, .slice A n c), (9, .int .i64 (((n : Nat) : Int))), (10, .int .i64 (((k : Nat) : Int)))]) (fun ⟨k, Aa, ca⟩ wl0 => (k ≤ n) ∧ Le w wl0 ∧ w.heap.size ≤ wl0.heap.size ∧ OVec wl0 w.heap.size 36 edgeV 9 Aa (((xs.take k).filter pr).length) ca ((xs.take k).filter pr)) (fun ⟨k, Aa, ca⟩ => n - k) (0, none, 0) ?_ ?_ ?_
  · exact .cons rfl (.cons rfl (.cons rfl (.cons rfl (.cons rfl (.nil _)))))
  · exact ⟨by omega, L0, Nat.le_refl _, (OVec.nil w w.heap.size 36 edgeV 9 none)⟩
  · rintro ⟨k, Aa, ca⟩ wl0 ⟨hk, Ll0, zl0, f0_0⟩
    have lb0_2 : w.heap.size ≤ wl0.heap.size := by omega
    refine WC.seq ?_
    refine WC.region ?_
    refine W.any (.lss rfl rfl) rfl rfl rfl ?_
    refine W.nil ?_
    refine E.thenN ?_
    refine WC.seq ?_
    by_cases c0 : ((k : Nat) : Int) < ((n : Nat) : Int)
    · refine WC.condY rfl (decide_eq_true c0) ?_
      refine WC.skip ?_
      refine E.thenN ?_
      refine WC.seq ?_
      refine WC.block ?_
      refine WC.seq ?_
      refine WC.region ?_
      refine W.any (.idxS (k) Tryz.underlying44 sz36 rfl rfl (hV.isSome edgeV_row (by omega)) (rfl) (by omega)) rfl rfl rfl ?_
      refine W.rd (.vload ag36 rfl (hV.le Ll0) edgeV_row (getS xs noEdge (by first | omega | (simp only [List.length_cons, List.length_nil]; omega)))) rfl rfl rfl ?_
      refine W.ef rfl rfl rfl ?_
      refine Ef.allocA z36 ?_
      intro g4_2 w4_2 hg4_2 b4_2 h4_2
      have L1 := Ll0.trans h4_2
      have b4_2 : Blk w4_2 g4_2 36 (edgeV noEdge).toArray := b4_2
      refine W.ef0 rfl rfl ?_
      refine Ef.storeAll sz36 (by rfl) rfl rfl b4_2 (by simp only [List.size_toArray, edgeV_row.len]) (edgeV_row.one (xs.getD k noEdge)) ?_
      intro w4_3 b4_3 h4_3
      have b4_3 : Blk w4_3 g4_2 36 (edgeV (xs.getD k noEdge)).toArray := b4_3
      have L2 : Le w w4_3 := L1.then_ h4_3 (fun q hq => by cases hq; exact Nat.le_trans Ll0.size hg4_2)
      refine W.nil ?_
      refine E.thenN ?_
      refine WC.seq ?_
      refine WC.region ?_
      refine W.any (.move rfl) rfl rfl rfl ?_
      refine W.rd (.loadAll ag36 (by rfl) rfl b4_3) rfl rfl rfl ?_
      refine W.ef rfl rfl rfl ?_
      refine Ef.callC hgo rfl rfl rfl (hf _ _ L2) ?_
      rintro _ w5_2 ⟨rfl, h5_2⟩
      refine ⟨_, rfl, ?_⟩
      have L3 := L2.trans h5_2
      refine W.nil ?_
      refine E.thenN ?_
      by_cases c1 : (pr (xs.getD k noEdge)) = true
      · refine WC.condY rfl (c1) ?_
        refine WC.region ?_
        refine W.any (.move rfl) rfl rfl rfl ?_
        have f4 := (b4_3.le h5_2)
        refine W.rd (.loadAll ag36 (by rfl) rfl f4) rfl rfl rfl ?_
        refine W.ef rfl rfl rfl ?_
        refine Ef.buildSliceV (len := 1) [_] Tryz.underlying44 el36 rfl (by simp [Value.cells, edgeV_row.len]) rfl (by decide) (by decide) ?_
        intro g6_2 w6_2 hg6_2 b6_2 h6_2
        have L5 := L3.trans h6_2
        have b6_2 : Blk w6_2 g6_2 36 (([xs.getD k noEdge]).map edgeV).flatten.toArray := b6_2
        have o6_2 : OVec w6_2 w5_2.heap.size 36 edgeV 9 (some ⟨g6_2, 0, none⟩) 1 1 ([xs.getD k noEdge]) := b6_2.ovec hg6_2 edgeV_row rfl rfl (by decide)
        have f6 := (((f0_0.le h4_2).ch h4_3 (fun q hq => by cases hq; exact (fun he => by have := (f0_0.row he).2; omega))).le (h5_2.trans h6_2))
        refine W.ef rfl rfl rfl ?_
        refine Ef.vpush (a := (xs.getD k noEdge)) Tryz.underlying44 el36 Tryz.underlying44 edgeV_row rfl f6 rfl b6_2 (by have := List.length_filter_le pr (xs.take k); simp at this; omega) (by have := List.length_filter_le pr (xs.take k); simp at this; unfold maxLen; omega) (by have := lb0_2; have := h4_2.size; have := h4_3.size; have := h5_2.size; have := h6_2.size; omega) ?_
        intro A6_3 c6_3 w6_3 o6_3 h6_3 at6_3
        have L7 : Le w w6_3 := L5.then_ h6_3 (fun q hq => Nat.le_trans L0.size (f6.row hq).1)
        refine W.any (.assign rfl) rfl rfl rfl ?_
        refine W.nil ?_
        refine E.blkN ?_
        refine E.thenN ?_
        refine WC.region ?_
        refine W.any (.add rfl rfl (by omega)) rfl rfl rfl ?_
        refine W.any (.move rfl) rfl rfl rfl ?_
        refine W.nil ?_
        refine E.again (k + 1, A6_3, c6_3) (.cons rfl (.cons' rfl (slice_eq (by rw [← filter_T xs k (by omega) c1]; simp)) (.cons rfl (.cons rfl (.cons rfl (.nil _)))))) ?_ ?_
        · exact ⟨by omega, L7, by have := zl0; have := h4_2.size; have := h4_3.size; have := h5_2.size; have := h6_2.size; have := h6_3.size; omega, (o6_3).cast (by rw [← filter_T xs k (by omega) c1]; simp) (filter_T xs k (by omega) c1)⟩
        · first | omega | (simp only []; omega)
      · refine WC.condN rfl ((Bool.eq_false_iff.2 c1)) ?_
        refine WC.skip ?_
        refine E.blkN ?_
        refine E.thenN ?_
        refine WC.region ?_
        refine W.any (.add rfl rfl (by omega)) rfl rfl rfl ?_
        refine W.any (.move rfl) rfl rfl rfl ?_
        refine W.nil ?_
        have f8 := (((f0_0.le h4_2).ch h4_3 (fun q hq => by cases hq; exact (fun he => by have := (f0_0.row he).2; omega))).le h5_2)
        refine E.again (k + 1, Aa, ca) (.cons rfl (.cons' rfl (slice_eq (by rw [← filter_F xs k (by omega) c1])) (.cons rfl (.cons rfl (.cons rfl (.nil _)))))) ?_ ?_
        · exact ⟨by omega, L3, by have := zl0; have := h4_2.size; have := h4_3.size; have := h5_2.size; omega, (f8).cast (by rw [← filter_F xs k (by omega) c1]) (filter_F xs k (by omega) c1)⟩
        · first | omega | (simp only []; omega)
    · refine WC.condN rfl (decide_eq_false c0) ?_
      refine WC.exit ?_
      refine E.thenX ?_
      refine E.thenX ?_
      refine E.blkH ?_
      refine E.thenN ?_
      refine WC.seq ?_
      refine WC.region ?_
      refine W.any (.move rfl) rfl rfl rfl ?_
      refine W.any (.assign rfl) rfl rfl rfl ?_
      refine W.nil ?_
      refine E.thenN ?_
      refine WC.ret ?_
      refine E.retG1 rfl rfl ?_
      exact ⟨_, _, by rw [List.take_of_length_le (by omega)], f0_0.cast (by rw [List.take_of_length_le (by omega)]) (by rw [List.take_of_length_le (by omega)]), Ll0⟩

theorem out1_ok (e : Gsp.Edge) (p : Int) {g : Nat} (w : World) (hg : Blk w g 3 #[.int .i64 p]) : Calls Tryz.prog 53 #[.agg (edgeV e).toArray, .pointer (some ⟨g, 0, none⟩)] w fun r w' => r = .returned (.bool (decide (e.f = p))) ∧ Le w w' := by
  refine enter Tryz.func53 rfl rfl ?_
  have L0 := Le.refl w
  refine WC.seq ?_
  refine WC.region ?_
  refine W.ef rfl rfl rfl ?_
  refine Ef.boxA rfl ?_
  intro g0_0 w0_0 hg0_0 b0_0 h0_0
  have L1 := L0.trans h0_0
  have b0_0 : Blk w0_0 g0_0 36 (edgeV e).toArray := b0_0
  refine W.any (.assign rfl) rfl rfl rfl ?_
  refine W.nil ?_
  refine E.thenN ?_
  refine WC.seq ?_
  refine WC.region ?_
  refine W.any (.field0 fa36_0 rfl) rfl rfl rfl ?_
  refine W.rd (.loadB (v := .int .i64 (e.f)) na3 rfl b0_0 rfl) rfl rfl rfl ?_
  refine W.rd (.loadB (v := .int .i64 (p)) na3 rfl (hg.le L1) rfl) rfl rfl rfl ?_
  refine W.any (.eql rfl rfl) rfl rfl rfl ?_
  refine W.any (.assign rfl) rfl rfl rfl ?_
  refine W.nil ?_
  refine E.thenN ?_
  refine WC.ret ?_
  refine E.retG1 rfl rfl ?_
  exact ⟨rfl, L1⟩

theorem out_ok (p : Int) {A : Option Addr} {n c : Nat} {xs : List Gsp.Edge} (w : World) (hV : Vec w edgeV 9 A n xs) (hn : n ≤ 1000000) : Calls Tryz.prog 21 #[.slice A n c, .int .i64 (p)] w fun r w' => ∃ A' c', r = .returned (.slice A' (xs.filter (fun e => decide (e.f = p))).length c') ∧ OVec w' w.heap.size 36 edgeV 9 A' (xs.filter (fun e => decide (e.f = p))).length c' (xs.filter (fun e => decide (e.f = p))) ∧ Le w w' := by
  refine enter Tryz.func21 rfl rfl ?_
  have L0 := Le.refl w
  refine WC.seq ?_
  refine WC.region ?_
  refine W.ef rfl rfl rfl ?_
  refine Ef.box rfl ?_
  intro g0_0 w0_0 hg0_0 b0_0 h0_0
  have L1 := L0.trans h0_0
  have b0_0 : Blk w0_0 g0_0 3 #[.int .i64 (p)] := b0_0
  refine W.any (.assign rfl) rfl rfl rfl ?_
  refine W.nil ?_
  refine E.thenN ?_
  refine WC.seq ?_
  refine WC.region ?_
  refine W.any (.move rfl) rfl rfl rfl ?_
  refine W.any (.makeFunc rfl) rfl rfl rfl ?_
  refine W.ef rfl rfl rfl ?_
  refine Ef.call go38 rfl rfl (those_ok (fun e => decide (e.f = p)) go53 w0_0 (hV.le L1) (by omega) (fun e w1 hl => out1_ok e p w1 (b0_0.le hl))) ?_
  rintro _ w1_2 ⟨At1_2, ct1_2, rfl, ot1_2, h1_2⟩
  refine ⟨_, rfl, ?_⟩
  have L3 := L1.trans h1_2
  refine W.any (.assign rfl) rfl rfl rfl ?_
  refine W.nil ?_
  refine E.thenN ?_
  refine WC.ret ?_
  refine E.retG1 rfl rfl ?_
  exact ⟨_, _, rfl, ot1_2.mono h0_0.size, L3⟩

theorem in1_ok (e : Gsp.Edge) (p : Int) {g : Nat} (w : World) (hg : Blk w g 3 #[.int .i64 p]) : Calls Tryz.prog 54 #[.agg (edgeV e).toArray, .pointer (some ⟨g, 0, none⟩)] w fun r w' => r = .returned (.bool (decide (e.t = p))) ∧ Le w w' := by
  refine enter Tryz.func54 rfl rfl ?_
  have L0 := Le.refl w
  refine WC.seq ?_
  refine WC.region ?_
  refine W.ef rfl rfl rfl ?_
  refine Ef.boxA rfl ?_
  intro g0_0 w0_0 hg0_0 b0_0 h0_0
  have L1 := L0.trans h0_0
  have b0_0 : Blk w0_0 g0_0 36 (edgeV e).toArray := b0_0
  refine W.any (.assign rfl) rfl rfl rfl ?_
  refine W.nil ?_
  refine E.thenN ?_
  refine WC.seq ?_
  refine WC.region ?_
  refine W.any (.field0 fa36_1 rfl) rfl rfl rfl ?_
  refine W.rd (.loadB (v := .int .i64 (e.t)) na3 rfl b0_0 rfl) rfl rfl rfl ?_
  refine W.rd (.loadB (v := .int .i64 (p)) na3 rfl (hg.le L1) rfl) rfl rfl rfl ?_
  refine W.any (.eql rfl rfl) rfl rfl rfl ?_
  refine W.any (.assign rfl) rfl rfl rfl ?_
  refine W.nil ?_
  refine E.thenN ?_
  refine WC.ret ?_
  refine E.retG1 rfl rfl ?_
  exact ⟨rfl, L1⟩

theorem in_ok (p : Int) {A : Option Addr} {n c : Nat} {xs : List Gsp.Edge} (w : World) (hV : Vec w edgeV 9 A n xs) (hn : n ≤ 1000000) : Calls Tryz.prog 22 #[.slice A n c, .int .i64 (p)] w fun r w' => ∃ A' c', r = .returned (.slice A' (xs.filter (fun e => decide (e.t = p))).length c') ∧ OVec w' w.heap.size 36 edgeV 9 A' (xs.filter (fun e => decide (e.t = p))).length c' (xs.filter (fun e => decide (e.t = p))) ∧ Le w w' := by
  refine enter Tryz.func22 rfl rfl ?_
  have L0 := Le.refl w
  refine WC.seq ?_
  refine WC.region ?_
  refine W.ef rfl rfl rfl ?_
  refine Ef.box rfl ?_
  intro g0_0 w0_0 hg0_0 b0_0 h0_0
  have L1 := L0.trans h0_0
  have b0_0 : Blk w0_0 g0_0 3 #[.int .i64 (p)] := b0_0
  refine W.any (.assign rfl) rfl rfl rfl ?_
  refine W.nil ?_
  refine E.thenN ?_
  refine WC.seq ?_
  refine WC.region ?_
  refine W.any (.move rfl) rfl rfl rfl ?_
  refine W.any (.makeFunc rfl) rfl rfl rfl ?_
  refine W.ef rfl rfl rfl ?_
  refine Ef.call go38 rfl rfl (those_ok (fun e => decide (e.t = p)) go54 w0_0 (hV.le L1) (by omega) (fun e w1 hl => in1_ok e p w1 (b0_0.le hl))) ?_
  rintro _ w1_2 ⟨At1_2, ct1_2, rfl, ot1_2, h1_2⟩
  refine ⟨_, rfl, ?_⟩
  have L3 := L1.trans h1_2
  refine W.any (.assign rfl) rfl rfl rfl ?_
  refine W.nil ?_
  refine E.thenN ?_
  refine WC.ret ?_
  refine E.retG1 rfl rfl ?_
  exact ⟨_, _, rfl, ot1_2.mono h0_0.size, L3⟩

theorem index_ok {A : Option Addr} {n c : Nat} {xs : List Gsp.Edge} {F : Nat} {caps : Array Value} (pr : Gsp.Edge → Bool) (hgo : IsGo Tryz.prog F) (w : World) (hV : Vec w edgeV 9 A n xs) (hn : n ≤ 1000000) (hf : ∀ (e : Gsp.Edge) (w1 : World), Le w w1 → Calls Tryz.prog F (#[.agg (edgeV e).toArray] ++ caps) w1 fun r w2 => r = .returned (.bool (pr e)) ∧ Le w1 w2) : Calls Tryz.prog 40 #[.slice A n c, .func (.func F) #[] caps] w fun r w' => r = .returned (.int .i64 (idxE pr xs)) ∧ Le w w' := by
  have hl := hV.1
  refine enter Tryz.func40 rfl rfl ?_
  have L0 := Le.refl w
  refine WC.seq ?_
  refine WC.region ?_
  refine W.any (.assign rfl) rfl rfl rfl ?_
  refine W.nil ?_
  refine E.thenN ?_
  refine WC.seq ?_
  refine WC.seq ?_
  refine WC.region ?_
  refine W.any (.move rfl) rfl rfl rfl ?_
  refine W.rd (.len Tryz.underlying44 rfl) rfl rfl rfl ?_
  refine W.any (.move rfl) rfl rfl rfl ?_
  refine W.nil ?_
  refine E.thenN ?_
  refine WC.block ?_
  refine WC.loop (ι := Nat) (fun k => [(0, .slice A n c), (1, .func (.func F) #[] caps), (7, .int .i64 (((n : Nat) : Int))), (8, .int .i64 (((k : Nat) : Int)))]) (fun k wl0 => (k ≤ n) ∧ (∀ j, j < k → ¬ pr (xs.getD j noEdge) = true) ∧ Le w wl0 ∧ w.heap.size ≤ wl0.heap.size) (fun k => n - k) 0 ?_ ?_ ?_
  · exact .cons rfl (.cons rfl (.cons rfl (.cons rfl (.nil _))))
  · exact ⟨Nat.zero_le _, fun j hj => absurd hj (Nat.not_lt_zero _), L0, Nat.le_refl _⟩
  · rintro k wl0 ⟨hk, hz, Ll0, zl0⟩
    refine WC.seq ?_
    refine WC.region ?_
    refine W.any (.lss rfl rfl) rfl rfl rfl ?_
    refine W.nil ?_
    refine E.thenN ?_
    refine WC.seq ?_
    by_cases c0 : ((k : Nat) : Int) < ((n : Nat) : Int)
    · refine WC.condY rfl (decide_eq_true c0) ?_
      refine WC.skip ?_
      refine E.thenN ?_
      refine WC.seq ?_
      refine WC.block ?_
      refine WC.seq ?_
      refine WC.region ?_
      refine W.any (.move rfl) rfl rfl rfl ?_
      refine W.any (.assign rfl) rfl rfl rfl ?_
      refine W.nil ?_
      refine E.thenN ?_
      refine WC.seq ?_
      refine WC.region ?_
      refine W.any (.move rfl) rfl rfl rfl ?_
      refine W.any (.move rfl) rfl rfl rfl ?_
      refine W.any (.move rfl) rfl rfl rfl ?_
      refine W.any (.idxS (k) Tryz.underlying44 sz36 rfl rfl (hV.isSome edgeV_row (by omega)) (rfl) (by omega)) rfl rfl rfl ?_
      refine W.rd (.vload ag36 rfl (hV.le Ll0) edgeV_row (getS xs noEdge (by first | omega | (simp only [List.length_cons, List.length_nil]; omega)))) rfl rfl rfl ?_
      refine W.ef rfl rfl rfl ?_
      refine Ef.callC hgo rfl rfl rfl (hf _ _ Ll0) ?_
      rintro _ w4_5 ⟨rfl, h4_5⟩
      refine ⟨_, rfl, ?_⟩
      have L1 := Ll0.trans h4_5
      refine W.nil ?_
      refine E.thenN ?_
      by_cases c1 : (pr (xs.getD k noEdge)) = true
      · refine WC.condY rfl (c1) ?_
        refine WC.seq ?_
        refine WC.region ?_
        refine W.any (.move rfl) rfl rfl rfl ?_
        refine W.any (.assign rfl) rfl rfl rfl ?_
        refine W.nil ?_
        refine E.thenN ?_
        refine WC.ret ?_
        refine E.blkR ?_
        refine E.thenR ?_
        refine E.thenR ?_
        refine E.blkR ?_
        refine E.thenR ?_
        refine E.retG1 rfl rfl ?_
        exact ⟨by rw [idxE_at (by omega) hz c1], L1⟩
      · refine WC.condN rfl ((Bool.eq_false_iff.2 c1)) ?_
        refine WC.skip ?_
        refine E.blkN ?_
        refine E.thenN ?_
        refine WC.region ?_
        refine W.any (.add rfl rfl (by omega)) rfl rfl rfl ?_
        refine W.any (.move rfl) rfl rfl rfl ?_
        refine W.nil ?_
        refine E.again (k + 1) (.cons rfl (.cons rfl (.cons rfl (.cons rfl (.nil _))))) ?_ ?_
        · exact ⟨by omega, fun j hj => by rcases Nat.lt_or_ge j k with h | h; exact hz j h; rw [show j = k by omega]; exact c1, L1, by have := zl0; have := h4_5.size; omega⟩
        · first | omega | (simp only []; omega)
    · refine WC.condN rfl (decide_eq_false c0) ?_
      refine WC.exit ?_
      refine E.thenX ?_
      refine E.thenX ?_
      refine E.blkH ?_
      refine E.thenN ?_
      refine WC.seq ?_
      refine WC.region ?_
      refine W.any (.assign rfl) rfl rfl rfl ?_
      refine W.nil ?_
      refine E.thenN ?_
      refine WC.ret ?_
      refine E.retG1 rfl rfl ?_
      exact ⟨by rw [idxE_no (k := k) (by omega) (fun j h1 _ => hz j h1)], Ll0⟩

theorem find1_ok (e : Gsp.Edge) (ch fr : Int) {g1 g2 : Nat} (w : World) (hg1 : Blk w g1 3 #[.int .i64 ch]) (hg2 : Blk w g2 3 #[.int .i64 fr]) : Calls Tryz.prog 41 #[.agg (edgeV e).toArray, .pointer (some ⟨g1, 0, none⟩), .pointer (some ⟨g2, 0, none⟩)] w fun r w' => r = .returned (.bool (decide (e.c = ch) && decide (e.f = fr))) ∧ Le w w' := by
  refine enter Tryz.func41 rfl rfl ?_
  have L0 := Le.refl w
  refine WC.seq ?_
  refine WC.region ?_
  refine W.ef rfl rfl rfl ?_
  refine Ef.boxA rfl ?_
  intro g0_0 w0_0 hg0_0 b0_0 h0_0
  have L1 := L0.trans h0_0
  have b0_0 : Blk w0_0 g0_0 36 (edgeV e).toArray := b0_0
  refine W.any (.assign rfl) rfl rfl rfl ?_
  refine W.nil ?_
  refine E.thenN ?_
  refine WC.seq ?_
  refine WC.region ?_
  refine W.any (.field0 fa36_2 rfl) rfl rfl rfl ?_
  refine W.rd (.loadB (v := .int .i64 (e.c)) na3 rfl b0_0 rfl) rfl rfl rfl ?_
  refine W.rd (.loadB (v := .int .i64 (ch)) na3 rfl (hg1.le L1) rfl) rfl rfl rfl ?_
  refine W.any (.eql rfl rfl) rfl rfl rfl ?_
  by_cases q1_4 : e.c = ch
  · refine W.any (.dec (.move rfl) (decide_eq_true q1_4)) rfl rfl rfl ?_
    refine W.rdg (Any.rd (.field0 fa36_0 rfl) _) rfl rfl rfl (rfl) rfl rfl ?_
    refine W.rdg (.loadB (v := .int .i64 (e.f)) na3 rfl b0_0 rfl) rfl rfl rfl (rfl) rfl rfl ?_
    refine W.rdg (.loadB (v := .int .i64 (fr)) na3 rfl (hg2.le L1) rfl) rfl rfl rfl (rfl) rfl rfl ?_
    refine W.rdg (Any.rd (.eql rfl rfl) _) rfl rfl rfl (rfl) rfl rfl ?_
    refine W.any (.pickT rfl rfl rfl) rfl rfl rfl ?_
    refine W.any (.assign rfl) rfl rfl rfl ?_
    refine W.nil ?_
    refine E.thenN ?_
    refine WC.ret ?_
    refine E.retG1 rfl rfl ?_
    exact ⟨congrArg (fun b => Ending.returned (Value.bool b)) (by simp [q1_4]), L1⟩
  · refine W.any (.dec (.move rfl) (decide_eq_false q1_4)) rfl rfl rfl ?_
    refine W.skip rfl rfl rfl (rfl) rfl rfl ?_
    refine W.skip rfl rfl rfl (rfl) rfl rfl ?_
    refine W.skip rfl rfl rfl (rfl) rfl rfl ?_
    refine W.skip rfl rfl rfl (rfl) rfl rfl ?_
    refine W.any (.pickF rfl rfl rfl) rfl rfl rfl ?_
    refine W.any (.assign rfl) rfl rfl rfl ?_
    refine W.nil ?_
    refine E.thenN ?_
    refine WC.ret ?_
    refine E.retG1 rfl rfl ?_
    exact ⟨congrArg (fun b => Ending.returned (Value.bool b)) (by simp [q1_4]), L1⟩

theorem find_ok (ch fr : Int) {A : Option Addr} {n c : Nat} {xs : List Gsp.Edge} (w : World) (hV : Vec w edgeV 9 A n xs) (hn : n ≤ 1000000) : Calls Tryz.prog 13 #[.slice A n c, .int .i64 (ch), .int .i64 (fr)] w fun r w' => r = .returned (.tuple #[.agg (edgeV (findE xs ch fr).1).toArray, .bool (findE xs ch fr).2]) ∧ Le w w' := by
  have hl := hV.1
  refine enter Tryz.func13 rfl rfl ?_
  have L0 := Le.refl w
  refine WC.seq ?_
  refine WC.region ?_
  refine W.ef rfl rfl rfl ?_
  refine Ef.box rfl ?_
  intro g0_0 w0_0 hg0_0 b0_0 h0_0
  have L1 := L0.trans h0_0
  have b0_0 : Blk w0_0 g0_0 3 #[.int .i64 (ch)] := b0_0
  refine W.ef rfl rfl rfl ?_
  refine Ef.box rfl ?_
  intro g0_1 w0_1 hg0_1 b0_1 h0_1
  have L2 := L1.trans h0_1
  have b0_1 : Blk w0_1 g0_1 3 #[.int .i64 (fr)] := b0_1
  refine W.ef rfl rfl rfl ?_
  refine Ef.allocA z36 ?_
  intro g0_2 w0_2 hg0_2 b0_2 h0_2
  have L3 := L2.trans h0_2
  have b0_2 : Blk w0_2 g0_2 36 (edgeV noEdge).toArray := b0_2
  refine W.any (.assign rfl) rfl rfl rfl ?_
  refine W.nil ?_
  refine E.thenN ?_
  refine WC.seq ?_
  refine WC.region ?_
  refine W.any (.move rfl) rfl rfl rfl ?_
  refine W.any (.makeFunc rfl) rfl rfl rfl ?_
  have f4 := (b0_0.le (h0_1.trans h0_2))
  have f5 := (b0_1.le h0_2)
  refine W.ef rfl rfl rfl ?_
  refine Ef.call go40 rfl rfl (index_ok (fun e => decide (e.c = ch) && decide (e.f = fr)) go41 w0_2 (hV.le L3) (by omega) (fun e w1 hl => find1_ok e ch fr w1 (f4.le hl) (f5.le hl))) ?_
  rintro _ w1_2 ⟨rfl, h1_2⟩
  refine ⟨_, rfl, ?_⟩
  have L6 := L3.trans h1_2
  refine W.any (.assign rfl) rfl rfl rfl ?_
  refine W.nil ?_
  refine E.thenN ?_
  refine WC.seq ?_
  refine WC.seq ?_
  refine WC.region ?_
  refine W.any (.move rfl) rfl rfl rfl ?_
  refine W.any (.lss rfl rfl) rfl rfl rfl ?_
  refine W.nil ?_
  refine E.thenN ?_
  by_cases c0 : (idxE (fun e => decide (e.c = ch) && decide (e.f = fr)) xs) < 0
  · refine WC.condY rfl (decide_eq_true c0) ?_
    refine WC.seq ?_
    refine WC.region ?_
    refine W.any (.buildP (edgeV (⟨0, 0, 0, 0, noPol⟩)) pl36 z36 rfl rfl) rfl rfl rfl ?_
    have f7 := (b0_2.le h1_2)
    refine W.ef0 rfl rfl ?_
    refine Ef.storeAll sz36 (by rfl) rfl rfl f7 (by simp only [List.size_toArray, edgeV_row.len]) (edgeV_row.one (⟨0, 0, 0, 0, noPol⟩)) ?_
    intro w3_1 b3_1 h3_1
    have b3_1 : Blk w3_1 g0_2 36 (edgeV (⟨0, 0, 0, 0, noPol⟩)).toArray := b3_1
    have L8 : Le w w3_1 := L6.then_ h3_1 (fun q hq => by cases hq; exact Nat.le_trans L2.size hg0_2)
    refine W.any (.assign rfl) rfl rfl rfl ?_
    refine W.nil ?_
    refine E.thenN ?_
    refine WC.ret ?_
    refine E.thenR ?_
    refine E.retG2 rfl (resA rfl b3_1 ag36 (by rfl)) rfl ?_
    exact ⟨by rw [findE, if_neg (by intro h; rw [idxE, if_pos h] at c0; omega)]; rfl, L8⟩
  · refine WC.condN rfl (decide_eq_false c0) ?_
    have hany : xs.any (fun e => decide (e.c = ch) && decide (e.f = fr)) = true := by rw [idxE] at c0; split at c0; assumption; omega
    have hix : idxE (fun e => decide (e.c = ch) && decide (e.f = fr)) xs = (xs.findIdx (fun e => decide (e.c = ch) && decide (e.f = fr)) : Nat) := by rw [idxE, if_pos hany]
    have hlt : xs.findIdx (fun e => decide (e.c = ch) && decide (e.f = fr)) < xs.length := List.findIdx_lt_length_of_exists (by simpa using hany)
    refine WC.skip ?_
    refine E.thenN ?_
    refine WC.seq ?_
    refine WC.region ?_
    refine W.any (.move rfl) rfl rfl rfl ?_
    refine W.any (.move rfl) rfl rfl rfl ?_
    refine W.any (.idxS (xs.findIdx (fun e => decide (e.c = ch) && decide (e.f = fr))) Tryz.underlying44 sz36 rfl rfl (hV.isSome edgeV_row (by omega)) (hix) (by omega)) rfl rfl rfl ?_
    refine W.rd (.vload ag36 rfl (hV.le L6) edgeV_row (getS xs noEdge (by first | omega | (simp only [List.length_cons, List.length_nil]; omega)))) rfl rfl rfl ?_
    have f9 := (b0_2.le h1_2)
    refine W.ef0 rfl rfl ?_
    refine Ef.storeAll sz36 (by rfl) rfl rfl f9 (by simp only [List.size_toArray, edgeV_row.len]) (edgeV_row.one (xs.getD (xs.findIdx (fun e => decide (e.c = ch) && decide (e.f = fr))) noEdge)) ?_
    intro w4_4 b4_4 h4_4
    have b4_4 : Blk w4_4 g0_2 36 (edgeV (xs.getD (xs.findIdx (fun e => decide (e.c = ch) && decide (e.f = fr))) noEdge)).toArray := b4_4
    have L10 : Le w w4_4 := L6.then_ h4_4 (fun q hq => by cases hq; exact Nat.le_trans L2.size hg0_2)
    refine W.any (.assign rfl) rfl rfl rfl ?_
    refine W.nil ?_
    refine E.thenN ?_
    refine WC.ret ?_
    refine E.retG2 rfl (resA rfl b4_4 ag36 (by rfl)) rfl ?_
    exact ⟨by rw [findE, if_pos hany], L10⟩

theorem gright_ok {A : Option Addr} {n c : Nat} {xs : List Gsp.Edge} (w : World) (hV : Vec w edgeV 9 A n xs) (hn : n ≤ 1000000) : Calls Tryz.prog 10 #[.slice A n c] w fun r w' => r = .returned (.bool (rightG xs)) ∧ Le w w' := by
  have hl := hV.1
  refine enter Tryz.func10 rfl rfl ?_
  have L0 := Le.refl w
  refine WC.seq ?_
  refine WC.region ?_
  refine W.any (.assign rfl) rfl rfl rfl ?_
  refine W.nil ?_
  refine E.thenN ?_
  refine WC.seq ?_
  refine WC.seq ?_
  refine WC.region ?_
  refine W.any (.move rfl) rfl rfl rfl ?_
  refine W.rd (.len Tryz.underlying44 rfl) rfl rfl rfl ?_
  refine W.any (.move rfl) rfl rfl rfl ?_
  refine W.nil ?_
  refine E.thenN ?_
  refine WC.block ?_
  refine WC.loop (ι := Nat) (fun k => [(0, .slice A n c), (6, .slice A n c), (7, .int .i64 (((n : Nat) : Int))), (8, .int .i64 (((k : Nat) : Int)))]) (fun k wl0 => (k ≤ n) ∧ (∀ j, j < k → RightAt xs j) ∧ Le w wl0 ∧ w.heap.size ≤ wl0.heap.size) (fun k => n - k) 0 ?_ ?_ ?_
  · exact .cons rfl (.cons rfl (.cons rfl (.cons rfl (.nil _))))
  · exact ⟨Nat.zero_le _, fun j hj => absurd hj (Nat.not_lt_zero _), L0, Nat.le_refl _⟩
  · rintro k wl0 ⟨hk, hz, Ll0, zl0⟩
    refine WC.seq ?_
    refine WC.region ?_
    refine W.any (.lss rfl rfl) rfl rfl rfl ?_
    refine W.nil ?_
    refine E.thenN ?_
    refine WC.seq ?_
    by_cases c0 : ((k : Nat) : Int) < ((n : Nat) : Int)
    · refine WC.condY rfl (decide_eq_true c0) ?_
      refine WC.skip ?_
      refine E.thenN ?_
      refine WC.seq ?_
      refine WC.block ?_
      refine WC.seq ?_
      refine WC.region ?_
      refine W.any (.move rfl) rfl rfl rfl ?_
      refine W.any (.idxS (k) Tryz.underlying44 sz36 rfl rfl (hV.isSome edgeV_row (by omega)) (rfl) (by omega)) rfl rfl rfl ?_
      refine W.rd (.vload ag36 rfl (hV.le Ll0) edgeV_row (getS xs noEdge (by first | omega | (simp only [List.length_cons, List.length_nil]; omega)))) rfl rfl rfl ?_
      refine W.ef rfl rfl rfl ?_
      refine Ef.allocA z36 ?_
      intro g3_3 w3_3 hg3_3 b3_3 h3_3
      have L1 := Ll0.trans h3_3
      have b3_3 : Blk w3_3 g3_3 36 (edgeV noEdge).toArray := b3_3
      refine W.any (.assign rfl) rfl rfl rfl ?_
      refine W.ef0 rfl rfl ?_
      refine Ef.storeAll sz36 (by rfl) rfl rfl b3_3 (by simp only [List.size_toArray, edgeV_row.len]) (edgeV_row.one (xs.getD k noEdge)) ?_
      intro w3_5 b3_5 h3_5
      have b3_5 : Blk w3_5 g3_3 36 (edgeV (xs.getD k noEdge)).toArray := b3_5
      have L2 : Le w w3_5 := L1.then_ h3_5 (fun q hq => by cases hq; exact Nat.le_trans Ll0.size hg3_3)
      refine W.nil ?_
      refine E.thenN ?_
      refine WC.seq ?_
      refine WC.seq ?_
      refine WC.draw [0, 1, 2, 3, 4, 5, 6, 7, 8, 9, 10, 11, 12, 13, 14, 15, 16] mixed (by kernel_rfl) ?_
      intro w4 d4
      have L3 := L2.trans d4
      have f4 := (b3_5.le d4)
      refine G.rd rfl rfl (.loadAll ag36 (by rfl) rfl f4) rfl rfl rfl ?_
      refine G.ef rfl rfl rfl rfl rfl ?_
      refine Ef.call go36 rfl rfl (edge_ok (xs.getD k noEdge) w4) ?_
      rintro _ w4_1 ⟨rfl, h4_1⟩
      refine ⟨_, rfl, ?_⟩
      refine ⟨fun _ => h4_1, ?_⟩
      have L5 := L3.trans h4_1
      refine G.any rfl rfl (.not rfl) rfl rfl rfl ?_
      by_cases q4_3 : (edgeOk (xs.getD k noEdge)) = true
      · refine G.any rfl rfl (.dec (.move rfl) (congrArg not (q4_3))) rfl rfl rfl ?_
        refine G.anyg rfl rfl (.move rfl) rfl rfl rfl (rfl) rfl rfl ?_
        refine G.anyg rfl rfl (.gtr rfl rfl) rfl rfl rfl (rfl) rfl rfl ?_
        by_cases q4_6 : 0 < ((k : Nat) : Int)
        · refine G.anyg rfl rfl (.dec (.move rfl) (decide_eq_true q4_6)) rfl rfl rfl (rfl) rfl rfl ?_
          refine G.anyg rfl rfl (.move rfl) rfl rfl rfl (rfl) rfl rfl ?_
          refine G.anyg rfl rfl (.move rfl) rfl rfl rfl (rfl) rfl rfl ?_
          refine G.anyg rfl rfl (.sub rfl rfl (by omega)) rfl rfl rfl (rfl) rfl rfl ?_
          refine G.anyg rfl rfl (.idxS ((k - 1)) Tryz.underlying44 sz36 rfl rfl (hV.isSome edgeV_row (by omega)) (by omega) (by omega)) rfl rfl rfl (rfl) rfl rfl ?_
          refine G.rdg rfl rfl (.vload ag36 rfl (hV.le L5) edgeV_row (getS xs noEdge (by first | omega | (simp only [List.length_cons, List.length_nil]; omega)))) rfl rfl rfl (rfl) rfl rfl ?_
          have f6 := (f4.le h4_1)
          refine G.rdg rfl rfl (.loadAll ag36 (by rfl) rfl f6) rfl rfl rfl (rfl) rfl rfl ?_
          refine G.efg rfl rfl rfl rfl rfl (rfl) rfl rfl ?_
          refine Ef.call go37 rfl rfl (order_ok (xs.getD (k - 1) noEdge) (xs.getD k noEdge) w4_1) ?_
          rintro _ w4_13 ⟨rfl, h4_13⟩
          refine ⟨_, rfl, ?_⟩
          refine ⟨fun _ => h4_13, ?_⟩
          have L7 := L5.trans h4_13
          refine G.anyg rfl rfl (.geq rfl rfl) rfl rfl rfl (rfl) rfl rfl ?_
          refine G.anyg rfl rfl (.pickT rfl rfl rfl) rfl rfl rfl (rfl) rfl rfl ?_
          refine G.any rfl rfl (.pickF rfl rfl rfl) rfl rfl rfl ?_
          refine G.nil ?_
          refine E.thenN ?_
          by_cases c1 : 0 ≤ (ordE (xs.getD (k - 1) noEdge) (xs.getD k noEdge))
          · refine WC.condY rfl (decide_eq_true c1) ?_
            refine WC.seq ?_
            refine WC.region ?_
            refine W.any (.assign rfl) rfl rfl rfl ?_
            refine W.nil ?_
            refine E.thenN ?_
            refine WC.ret ?_
            refine E.thenR ?_
            refine E.blkR ?_
            refine E.thenR ?_
            refine E.thenR ?_
            refine E.blkR ?_
            refine E.thenR ?_
            refine E.retG1 rfl rfl ?_
            exact ⟨congrArg (fun b => Ending.returned (Value.bool b)) (decide_eq_false (fun hr => by have hr := hr k (by omega); unfold RightAt at hr; first | exact absurd hr.1 (by assumption) | (have h2 := hr.2; clear hr; omega))).symm, L7⟩
          · refine WC.condN rfl (decide_eq_false c1) ?_
            refine WC.skip ?_
            refine E.thenN ?_
            refine WC.seq ?_
            refine WC.seq ?_
            refine WC.draw [0, 1, 2, 3, 4, 5, 6, 7, 8, 9, 10, 11, 12] mixed (by kernel_rfl) ?_
            intro w6 d6
            have L8 := L7.trans d6
            refine G.any rfl rfl (.move rfl) rfl rfl rfl ?_
            refine G.any rfl rfl (.eql rfl rfl) rfl rfl rfl ?_
            by_cases q6_2 : ((k : Nat) : Int) = 0
            · refine G.any rfl rfl (.dec (.move rfl) (decide_eq_true q6_2)) rfl rfl rfl ?_
              refine G.skip rfl rfl rfl rfl (rfl) rfl rfl ?_
              refine G.skip rfl rfl rfl rfl (rfl) rfl rfl ?_
              refine G.skip rfl rfl rfl rfl (rfl) rfl rfl ?_
              refine G.skip rfl rfl rfl rfl (rfl) rfl rfl ?_
              refine G.skip rfl rfl rfl rfl (rfl) rfl rfl ?_
              refine G.skip rfl rfl rfl rfl (rfl) rfl rfl ?_
              refine G.skip rfl rfl rfl rfl (rfl) rfl rfl ?_
              refine G.skip rfl rfl rfl rfl (rfl) rfl rfl ?_
              refine G.skip rfl rfl rfl rfl (rfl) rfl rfl ?_
              refine G.any rfl rfl (.pickT rfl rfl rfl) rfl rfl rfl ?_
              refine G.nil ?_
              refine E.thenN ?_
              refine WC.condT rfl ?_
              refine WC.exit ?_
              refine E.thenX ?_
              refine E.blkH ?_
              refine E.thenN ?_
              refine WC.region ?_
              refine W.any (.add rfl rfl (by omega)) rfl rfl rfl ?_
              refine W.any (.move rfl) rfl rfl rfl ?_
              refine W.nil ?_
              refine E.again (k + 1) (.cons rfl (.cons rfl (.cons rfl (.cons rfl (.nil _))))) ?_ ?_
              · exact ⟨by omega, fun j hj => by rcases Nat.lt_or_ge j k with h | h; exact hz j h; rw [show j = k by omega]; refine ⟨by assumption, fun _ => ?_, fun ⟨_, _⟩ => ⟨?_, ?_, ?_, ?_⟩⟩ <;> first | omega | (exfalso; omega) | (exact fun ⟨_, _⟩ => by omega), L8, by have := zl0; have := h3_3.size; have := h3_5.size; have := d4.size; have := h4_1.size; have := h4_13.size; have := d6.size; omega⟩
              · first | omega | (simp only []; omega)
            · refine G.any rfl rfl (.dec (.move rfl) (decide_eq_false q6_2)) rfl rfl rfl ?_
              refine G.anyg rfl rfl (.move rfl) rfl rfl rfl (rfl) rfl rfl ?_
              refine G.anyg rfl rfl (.move rfl) rfl rfl rfl (rfl) rfl rfl ?_
              refine G.anyg rfl rfl (.sub rfl rfl (by omega)) rfl rfl rfl (rfl) rfl rfl ?_
              refine G.anyg rfl rfl (.idxS ((k - 1)) Tryz.underlying44 sz36 rfl rfl (hV.isSome edgeV_row (by omega)) (by omega) (by omega)) rfl rfl rfl (rfl) rfl rfl ?_
              refine G.anyg rfl rfl (.vfield fa36_2 (hV.isSome edgeV_row (by omega)) rfl) rfl rfl rfl (rfl) rfl rfl ?_
              refine G.rdg rfl rfl (.vcell (j := (k - 1)) (o := 2) (v := .int .i64 ((xs.getD (k - 1) noEdge).c)) na3 rfl (hV.le L8) edgeV_row (getS xs noEdge (by first | omega | (simp only [List.length_cons, List.length_nil]; omega))) rfl) rfl rfl rfl (rfl) rfl rfl ?_
              refine G.anyg rfl rfl (.field0 fa36_2 rfl) rfl rfl rfl (rfl) rfl rfl ?_
              have f9 := (f6.le (h4_13.trans d6))
              refine G.rdg rfl rfl (.loadB (v := .int .i64 ((xs.getD k noEdge).c)) na3 rfl f9 rfl) rfl rfl rfl (rfl) rfl rfl ?_
              refine G.anyg rfl rfl (.neq rfl rfl) rfl rfl rfl (rfl) rfl rfl ?_
              refine G.any rfl rfl (.pickF rfl rfl rfl) rfl rfl rfl ?_
              refine G.nil ?_
              refine E.thenN ?_
              by_cases c2 : ((xs.getD (k - 1) noEdge).c) ≠ ((xs.getD k noEdge).c)
              · refine WC.condY rfl (decide_eq_true c2) ?_
                refine WC.exit ?_
                refine E.thenX ?_
                refine E.blkH ?_
                refine E.thenN ?_
                refine WC.region ?_
                refine W.any (.add rfl rfl (by omega)) rfl rfl rfl ?_
                refine W.any (.move rfl) rfl rfl rfl ?_
                refine W.nil ?_
                refine E.again (k + 1) (.cons rfl (.cons rfl (.cons rfl (.cons rfl (.nil _))))) ?_ ?_
                · exact ⟨by omega, fun j hj => by rcases Nat.lt_or_ge j k with h | h; exact hz j h; rw [show j = k by omega]; refine ⟨by assumption, fun _ => ?_, fun ⟨_, _⟩ => ⟨?_, ?_, ?_, ?_⟩⟩ <;> first | omega | (exfalso; omega) | (exact fun ⟨_, _⟩ => by omega), L8, by have := zl0; have := h3_3.size; have := h3_5.size; have := d4.size; have := h4_1.size; have := h4_13.size; have := d6.size; omega⟩
                · first | omega | (simp only []; omega)
              · refine WC.condN rfl (decide_eq_false c2) ?_
                refine WC.skip ?_
                refine E.thenN ?_
                refine WC.seq ?_
                refine WC.region ?_
                refine W.any (.move rfl) rfl rfl rfl ?_
                refine W.any (.move rfl) rfl rfl rfl ?_
                refine W.any (.sub rfl rfl (by omega)) rfl rfl rfl ?_
                refine W.any (.idxS ((k - 1)) Tryz.underlying44 sz36 rfl rfl (hV.isSome edgeV_row (by omega)) (by omega) (by omega)) rfl rfl rfl ?_
                refine W.rd (.vload ag36 rfl (hV.le L8) edgeV_row (getS xs noEdge (by first | omega | (simp only [List.length_cons, List.length_nil]; omega)))) rfl rfl rfl ?_
                refine W.ef rfl rfl rfl ?_
                refine Ef.allocA z36 ?_
                intro g7_5 w7_5 hg7_5 b7_5 h7_5
                have L10 := L8.trans h7_5
                have b7_5 : Blk w7_5 g7_5 36 (edgeV noEdge).toArray := b7_5
                refine W.ef0 rfl rfl ?_
                refine Ef.storeAll sz36 (by rfl) rfl rfl b7_5 (by simp only [List.size_toArray, edgeV_row.len]) (edgeV_row.one (xs.getD (k - 1) noEdge)) ?_
                intro w7_6 b7_6 h7_6
                have b7_6 : Blk w7_6 g7_5 36 (edgeV (xs.getD (k - 1) noEdge)).toArray := b7_6
                have L11 : Le w w7_6 := L10.then_ h7_6 (fun q hq => by cases hq; exact Nat.le_trans L8.size hg7_5)
                refine W.nil ?_
                refine E.thenN ?_
                refine WC.seq ?_
                refine WC.draw [0, 1, 2, 3, 4, 5, 6, 7, 8, 9, 10, 11, 12, 13, 14, 15, 16, 17, 18, 19, 20, 21, 22, 23, 24, 25, 26, 27, 28, 29, 30, 31, 32, 33] mixed (by kernel_rfl) ?_
                intro w8 d8
                have L12 := L11.trans d8
                refine G.any rfl rfl (.move rfl) rfl rfl rfl ?_
                refine G.any rfl rfl (.gtr rfl rfl) rfl rfl rfl ?_
                by_cases q8_2 : 1 < ((k : Nat) : Int)
                · refine G.any rfl rfl (.dec (.move rfl) (decide_eq_true q8_2)) rfl rfl rfl ?_
                  refine G.anyg rfl rfl (.move rfl) rfl rfl rfl (rfl) rfl rfl ?_
                  refine G.anyg rfl rfl (.move rfl) rfl rfl rfl (rfl) rfl rfl ?_
                  refine G.anyg rfl rfl (.sub rfl rfl (by omega)) rfl rfl rfl (rfl) rfl rfl ?_
                  refine G.anyg rfl rfl (.idxS ((k - 2)) Tryz.underlying44 sz36 rfl rfl (hV.isSome edgeV_row (by omega)) (by omega) (by omega)) rfl rfl rfl (rfl) rfl rfl ?_
                  refine G.anyg rfl rfl (.vfield fa36_2 (hV.isSome edgeV_row (by omega)) rfl) rfl rfl rfl (rfl) rfl rfl ?_
                  refine G.rdg rfl rfl (.vcell (j := (k - 2)) (o := 2) (v := .int .i64 ((xs.getD (k - 2) noEdge).c)) na3 rfl (hV.le L12) edgeV_row (getS xs noEdge (by first | omega | (simp only [List.length_cons, List.length_nil]; omega))) rfl) rfl rfl rfl (rfl) rfl rfl ?_
                  refine G.anyg rfl rfl (.field0 fa36_2 rfl) rfl rfl rfl (rfl) rfl rfl ?_
                  have f13 := (((f9.le h7_5).ch h7_6 (fun h => (show g7_5 ≠ g3_3 from by have := f9.lt; omega) (Option.some.inj h))).le d8)
                  refine G.rdg rfl rfl (.loadB (v := .int .i64 ((xs.getD k noEdge).c)) na3 rfl f13 rfl) rfl rfl rfl (rfl) rfl rfl ?_
                  refine G.anyg rfl rfl (.eql rfl rfl) rfl rfl rfl (rfl) rfl rfl ?_
                  refine G.any rfl rfl (.pickT rfl rfl rfl) rfl rfl rfl ?_
                  by_cases q8_13 : ((xs.getD (k - 2) noEdge).c) = ((xs.getD k noEdge).c)
                  · refine G.any rfl rfl (.dec (.move rfl) (decide_eq_true q8_13)) rfl rfl rfl ?_
                    refine G.skip rfl rfl rfl rfl (rfl) rfl rfl ?_
                    refine G.skip rfl rfl rfl rfl (rfl) rfl rfl ?_
                    refine G.skip rfl rfl rfl rfl (rfl) rfl rfl ?_
                    refine G.skip rfl rfl rfl rfl (rfl) rfl rfl ?_
                    refine G.skip rfl rfl rfl rfl (rfl) rfl rfl ?_
                    refine G.any rfl rfl (.pickT rfl rfl rfl) rfl rfl rfl ?_
                    refine G.any rfl rfl (.move rfl) rfl rfl rfl ?_
                    refine G.skip rfl rfl rfl rfl (rfl) rfl rfl ?_
                    refine G.skip rfl rfl rfl rfl (rfl) rfl rfl ?_
                    refine G.skip rfl rfl rfl rfl (rfl) rfl rfl ?_
                    refine G.skip rfl rfl rfl rfl (rfl) rfl rfl ?_
                    refine G.skip rfl rfl rfl rfl (rfl) rfl rfl ?_
                    refine G.any rfl rfl (.pickT rfl rfl rfl) rfl rfl rfl ?_
                    refine G.any rfl rfl (.move rfl) rfl rfl rfl ?_
                    refine G.skip rfl rfl rfl rfl (rfl) rfl rfl ?_
                    refine G.skip rfl rfl rfl rfl (rfl) rfl rfl ?_
                    refine G.skip rfl rfl rfl rfl (rfl) rfl rfl ?_
                    refine G.skip rfl rfl rfl rfl (rfl) rfl rfl ?_
                    refine G.skip rfl rfl rfl rfl (rfl) rfl rfl ?_
                    refine G.any rfl rfl (.pickT rfl rfl rfl) rfl rfl rfl ?_
                    refine G.nil ?_
                    refine E.thenN ?_
                    refine WC.condT rfl ?_
                    refine WC.seq ?_
                    refine WC.region ?_
                    refine W.any (.assign rfl) rfl rfl rfl ?_
                    refine W.nil ?_
                    refine E.thenN ?_
                    refine WC.ret ?_
                    refine E.blkR ?_
                    refine E.thenR ?_
                    refine E.thenR ?_
                    refine E.blkR ?_
                    refine E.thenR ?_
                    refine E.retG1 rfl rfl ?_
                    exact ⟨congrArg (fun b => Ending.returned (Value.bool b)) (decide_eq_false (fun hr => by have hr := hr k (by omega); unfold RightAt at hr; first | exact absurd hr.1 (by assumption) | (have h2 := hr.2; clear hr; omega))).symm, L12⟩
                  · refine G.any rfl rfl (.dec (.move rfl) (decide_eq_false q8_13)) rfl rfl rfl ?_
                    refine G.anyg rfl rfl (.field0 fa36_0 rfl) rfl rfl rfl (rfl) rfl rfl ?_
                    have f14 := (b7_6.le d8)
                    refine G.rdg rfl rfl (.loadB (v := .int .i64 ((xs.getD (k - 1) noEdge).f)) na3 rfl f14 rfl) rfl rfl rfl (rfl) rfl rfl ?_
                    refine G.anyg rfl rfl (.field0 fa36_1 rfl) rfl rfl rfl (rfl) rfl rfl ?_
                    refine G.rdg rfl rfl (.loadB (v := .int .i64 ((xs.getD k noEdge).t)) na3 rfl f13 rfl) rfl rfl rfl (rfl) rfl rfl ?_
                    refine G.anyg rfl rfl (.neq rfl rfl) rfl rfl rfl (rfl) rfl rfl ?_
                    refine G.any rfl rfl (.pickF rfl rfl rfl) rfl rfl rfl ?_
                    by_cases q8_20 : ((xs.getD (k - 1) noEdge).f) ≠ ((xs.getD k noEdge).t)
                    · refine G.any rfl rfl (.dec (.move rfl) (decide_eq_true q8_20)) rfl rfl rfl ?_
                      refine G.skip rfl rfl rfl rfl (rfl) rfl rfl ?_
                      refine G.skip rfl rfl rfl rfl (rfl) rfl rfl ?_
                      refine G.skip rfl rfl rfl rfl (rfl) rfl rfl ?_
                      refine G.skip rfl rfl rfl rfl (rfl) rfl rfl ?_
                      refine G.skip rfl rfl rfl rfl (rfl) rfl rfl ?_
                      refine G.any rfl rfl (.pickT rfl rfl rfl) rfl rfl rfl ?_
                      refine G.any rfl rfl (.move rfl) rfl rfl rfl ?_
                      refine G.skip rfl rfl rfl rfl (rfl) rfl rfl ?_
                      refine G.skip rfl rfl rfl rfl (rfl) rfl rfl ?_
                      refine G.skip rfl rfl rfl rfl (rfl) rfl rfl ?_
                      refine G.skip rfl rfl rfl rfl (rfl) rfl rfl ?_
                      refine G.skip rfl rfl rfl rfl (rfl) rfl rfl ?_
                      refine G.any rfl rfl (.pickT rfl rfl rfl) rfl rfl rfl ?_
                      refine G.nil ?_
                      refine E.thenN ?_
                      refine WC.condT rfl ?_
                      refine WC.seq ?_
                      refine WC.region ?_
                      refine W.any (.assign rfl) rfl rfl rfl ?_
                      refine W.nil ?_
                      refine E.thenN ?_
                      refine WC.ret ?_
                      refine E.blkR ?_
                      refine E.thenR ?_
                      refine E.thenR ?_
                      refine E.blkR ?_
                      refine E.thenR ?_
                      refine E.retG1 rfl rfl ?_
                      exact ⟨congrArg (fun b => Ending.returned (Value.bool b)) (decide_eq_false (fun hr => by have hr := hr k (by omega); unfold RightAt at hr; first | exact absurd hr.1 (by assumption) | (have h2 := hr.2; clear hr; omega))).symm, L12⟩
                    · refine G.any rfl rfl (.dec (.move rfl) (decide_eq_false q8_20)) rfl rfl rfl ?_
                      refine G.anyg rfl rfl (.field0 fa36_1 rfl) rfl rfl rfl (rfl) rfl rfl ?_
                      refine G.rdg rfl rfl (.loadB (v := .int .i64 ((xs.getD (k - 1) noEdge).t)) na3 rfl f14 rfl) rfl rfl rfl (rfl) rfl rfl ?_
                      refine G.anyg rfl rfl (.field0 fa36_0 rfl) rfl rfl rfl (rfl) rfl rfl ?_
                      refine G.rdg rfl rfl (.loadB (v := .int .i64 ((xs.getD k noEdge).f)) na3 rfl f13 rfl) rfl rfl rfl (rfl) rfl rfl ?_
                      refine G.anyg rfl rfl (.neq rfl rfl) rfl rfl rfl (rfl) rfl rfl ?_
                      refine G.any rfl rfl (.pickF rfl rfl rfl) rfl rfl rfl ?_
                      by_cases q8_27 : ((xs.getD (k - 1) noEdge).t) ≠ ((xs.getD k noEdge).f)
                      · refine G.any rfl rfl (.dec (.move rfl) (decide_eq_true q8_27)) rfl rfl rfl ?_
                        refine G.skip rfl rfl rfl rfl (rfl) rfl rfl ?_
                        refine G.skip rfl rfl rfl rfl (rfl) rfl rfl ?_
                        refine G.skip rfl rfl rfl rfl (rfl) rfl rfl ?_
                        refine G.skip rfl rfl rfl rfl (rfl) rfl rfl ?_
                        refine G.skip rfl rfl rfl rfl (rfl) rfl rfl ?_
                        refine G.any rfl rfl (.pickT rfl rfl rfl) rfl rfl rfl ?_
                        refine G.nil ?_
                        refine E.thenN ?_
                        refine WC.condT rfl ?_
                        refine WC.seq ?_
                        refine WC.region ?_
                        refine W.any (.assign rfl) rfl rfl rfl ?_
                        refine W.nil ?_
                        refine E.thenN ?_
                        refine WC.ret ?_
                        refine E.blkR ?_
                        refine E.thenR ?_
                        refine E.thenR ?_
                        refine E.blkR ?_
                        refine E.thenR ?_
                        refine E.retG1 rfl rfl ?_
                        exact ⟨congrArg (fun b => Ending.returned (Value.bool b)) (decide_eq_false (fun hr => by have hr := hr k (by omega); unfold RightAt at hr; first | exact absurd hr.1 (by assumption) | (have h2 := hr.2; clear hr; omega))).symm, L12⟩
                      · refine G.any rfl rfl (.dec (.move rfl) (decide_eq_false q8_27)) rfl rfl rfl ?_
                        refine G.anyg rfl rfl (.field0 fa36_3 rfl) rfl rfl rfl (rfl) rfl rfl ?_
                        refine G.rdg rfl rfl (.loadB (v := .int .i64 ((xs.getD (k - 1) noEdge).r)) na3 rfl f14 rfl) rfl rfl rfl (rfl) rfl rfl ?_
                        refine G.anyg rfl rfl (.field0 fa36_3 rfl) rfl rfl rfl (rfl) rfl rfl ?_
                        refine G.rdg rfl rfl (.loadB (v := .int .i64 ((xs.getD k noEdge).r)) na3 rfl f13 rfl) rfl rfl rfl (rfl) rfl rfl ?_
                        refine G.anyg rfl rfl (.neq rfl rfl) rfl rfl rfl (rfl) rfl rfl ?_
                        refine G.any rfl rfl (.pickF rfl rfl rfl) rfl rfl rfl ?_
                        refine G.nil ?_
                        refine E.thenN ?_
                        by_cases c3 : ((xs.getD (k - 1) noEdge).r) ≠ ((xs.getD k noEdge).r)
                        · refine WC.condY rfl (decide_eq_true c3) ?_
                          refine WC.seq ?_
                          refine WC.region ?_
                          refine W.any (.assign rfl) rfl rfl rfl ?_
                          refine W.nil ?_
                          refine E.thenN ?_
                          refine WC.ret ?_
                          refine E.blkR ?_
                          refine E.thenR ?_
                          refine E.thenR ?_
                          refine E.blkR ?_
                          refine E.thenR ?_
                          refine E.retG1 rfl rfl ?_
                          exact ⟨congrArg (fun b => Ending.returned (Value.bool b)) (decide_eq_false (fun hr => by have hr := hr k (by omega); unfold RightAt at hr; first | exact absurd hr.1 (by assumption) | (have h2 := hr.2; clear hr; omega))).symm, L12⟩
                        · refine WC.condN rfl (decide_eq_false c3) ?_
                          refine WC.skip ?_
                          refine E.blkN ?_
                          refine E.thenN ?_
                          refine WC.region ?_
                          refine W.any (.add rfl rfl (by omega)) rfl rfl rfl ?_
                          refine W.any (.move rfl) rfl rfl rfl ?_
                          refine W.nil ?_
                          refine E.again (k + 1) (.cons rfl (.cons rfl (.cons rfl (.cons rfl (.nil _))))) ?_ ?_
                          · exact ⟨by omega, fun j hj => by rcases Nat.lt_or_ge j k with h | h; exact hz j h; rw [show j = k by omega]; refine ⟨by assumption, fun _ => ?_, fun ⟨_, _⟩ => ⟨?_, ?_, ?_, ?_⟩⟩ <;> first | omega | (exfalso; omega) | (exact fun ⟨_, _⟩ => by omega), L12, by have := zl0; have := h3_3.size; have := h3_5.size; have := d4.size; have := h4_1.size; have := h4_13.size; have := d6.size; have := h7_5.size; have := h7_6.size; have := d8.size; omega⟩
                          · first | omega | (simp only []; omega)
                · refine G.any rfl rfl (.dec (.move rfl) (decide_eq_false q8_2)) rfl rfl rfl ?_
                  refine G.skip rfl rfl rfl rfl (rfl) rfl rfl ?_
                  refine G.skip rfl rfl rfl rfl (rfl) rfl rfl ?_
                  refine G.skip rfl rfl rfl rfl (rfl) rfl rfl ?_
                  refine G.skip rfl rfl rfl rfl (rfl) rfl rfl ?_
                  refine G.skip rfl rfl rfl rfl (rfl) rfl rfl ?_
                  refine G.skip rfl rfl rfl rfl (rfl) rfl rfl ?_
                  refine G.skip rfl rfl rfl rfl (rfl) rfl rfl ?_
                  refine G.skip rfl rfl rfl rfl (rfl) rfl rfl ?_
                  refine G.skip rfl rfl rfl rfl (rfl) rfl rfl ?_
                  refine G.any rfl rfl (.pickF rfl rfl rfl) rfl rfl rfl ?_
                  refine G.any rfl rfl (.move rfl) rfl rfl rfl ?_
                  refine G.anyg rfl rfl (.field0 fa36_0 rfl) rfl rfl rfl (rfl) rfl rfl ?_
                  have f15 := (b7_6.le d8)
                  refine G.rdg rfl rfl (.loadB (v := .int .i64 ((xs.getD (k - 1) noEdge).f)) na3 rfl f15 rfl) rfl rfl rfl (rfl) rfl rfl ?_
                  refine G.anyg rfl rfl (.field0 fa36_1 rfl) rfl rfl rfl (rfl) rfl rfl ?_
                  have f16 := (((f9.le h7_5).ch h7_6 (fun h => (show g7_5 ≠ g3_3 from by have := f9.lt; omega) (Option.some.inj h))).le d8)
                  refine G.rdg rfl rfl (.loadB (v := .int .i64 ((xs.getD k noEdge).t)) na3 rfl f16 rfl) rfl rfl rfl (rfl) rfl rfl ?_
                  refine G.anyg rfl rfl (.neq rfl rfl) rfl rfl rfl (rfl) rfl rfl ?_
                  refine G.any rfl rfl (.pickF rfl rfl rfl) rfl rfl rfl ?_
                  by_cases q8_20 : ((xs.getD (k - 1) noEdge).f) ≠ ((xs.getD k noEdge).t)
                  · refine G.any rfl rfl (.dec (.move rfl) (decide_eq_true q8_20)) rfl rfl rfl ?_
                    refine G.skip rfl rfl rfl rfl (rfl) rfl rfl ?_
                    refine G.skip rfl rfl rfl rfl (rfl) rfl rfl ?_
                    refine G.skip rfl rfl rfl rfl (rfl) rfl rfl ?_
                    refine G.skip rfl rfl rfl rfl (rfl) rfl rfl ?_
                    refine G.skip rfl rfl rfl rfl (rfl) rfl rfl ?_
                    refine G.any rfl rfl (.pickT rfl rfl rfl) rfl rfl rfl ?_
                    refine G.any rfl rfl (.move rfl) rfl rfl rfl ?_
                    refine G.skip rfl rfl rfl rfl (rfl) rfl rfl ?_
                    refine G.skip rfl rfl rfl rfl (rfl) rfl rfl ?_
                    refine G.skip rfl rfl rfl rfl (rfl) rfl rfl ?_
                    refine G.skip rfl rfl rfl rfl (rfl) rfl rfl ?_
                    refine G.skip rfl rfl rfl rfl (rfl) rfl rfl ?_
                    refine G.any rfl rfl (.pickT rfl rfl rfl) rfl rfl rfl ?_
                    refine G.nil ?_
                    refine E.thenN ?_
                    refine WC.condT rfl ?_
                    refine WC.seq ?_
                    refine WC.region ?_
                    refine W.any (.assign rfl) rfl rfl rfl ?_
                    refine W.nil ?_
                    refine E.thenN ?_
                    refine WC.ret ?_
                    refine E.blkR ?_
                    refine E.thenR ?_
                    refine E.thenR ?_
                    refine E.blkR ?_
                    refine E.thenR ?_
                    refine E.retG1 rfl rfl ?_
                    exact ⟨congrArg (fun b => Ending.returned (Value.bool b)) (decide_eq_false (fun hr => by have hr := hr k (by omega); unfold RightAt at hr; first | exact absurd hr.1 (by assumption) | (have h2 := hr.2; clear hr; omega))).symm, L12⟩
                  · refine G.any rfl rfl (.dec (.move rfl) (decide_eq_false q8_20)) rfl rfl rfl ?_
                    refine G.anyg rfl rfl (.field0 fa36_1 rfl) rfl rfl rfl (rfl) rfl rfl ?_
                    refine G.rdg rfl rfl (.loadB (v := .int .i64 ((xs.getD (k - 1) noEdge).t)) na3 rfl f15 rfl) rfl rfl rfl (rfl) rfl rfl ?_
                    refine G.anyg rfl rfl (.field0 fa36_0 rfl) rfl rfl rfl (rfl) rfl rfl ?_
                    refine G.rdg rfl rfl (.loadB (v := .int .i64 ((xs.getD k noEdge).f)) na3 rfl f16 rfl) rfl rfl rfl (rfl) rfl rfl ?_
                    refine G.anyg rfl rfl (.neq rfl rfl) rfl rfl rfl (rfl) rfl rfl ?_
                    refine G.any rfl rfl (.pickF rfl rfl rfl) rfl rfl rfl ?_
                    by_cases q8_27 : ((xs.getD (k - 1) noEdge).t) ≠ ((xs.getD k noEdge).f)
                    · refine G.any rfl rfl (.dec (.move rfl) (decide_eq_true q8_27)) rfl rfl rfl ?_
                      refine G.skip rfl rfl rfl rfl (rfl) rfl rfl ?_
                      refine G.skip rfl rfl rfl rfl (rfl) rfl rfl ?_
                      refine G.skip rfl rfl rfl rfl (rfl) rfl rfl ?_
                      refine G.skip rfl rfl rfl rfl (rfl) rfl rfl ?_
                      refine G.skip rfl rfl rfl rfl (rfl) rfl rfl ?_
                      refine G.any rfl rfl (.pickT rfl rfl rfl) rfl rfl rfl ?_
                      refine G.nil ?_
                      refine E.thenN ?_
                      refine WC.condT rfl ?_
                      refine WC.seq ?_
                      refine WC.region ?_
                      refine W.any (.assign rfl) rfl rfl rfl ?_
                      refine W.nil ?_
                      refine E.thenN ?_
                      refine WC.ret ?_
                      refine E.blkR ?_
                      refine E.thenR ?_
                      refine E.thenR ?_
                      refine E.blkR ?_
                      refine E.thenR ?_
                      refine E.retG1 rfl rfl ?_
                      exact ⟨congrArg (fun b => Ending.returned (Value.bool b)) (decide_eq_false (fun hr => by have hr := hr k (by omega); unfold RightAt at hr; first | exact absurd hr.1 (by assumption) | (have h2 := hr.2; clear hr; omega))).symm, L12⟩
                    · refine G.any rfl rfl (.dec (.move rfl) (decide_eq_false q8_27)) rfl rfl rfl ?_
                      refine G.anyg rfl rfl (.field0 fa36_3 rfl) rfl rfl rfl (rfl) rfl rfl ?_
                      refine G.rdg rfl rfl (.loadB (v := .int .i64 ((xs.getD (k - 1) noEdge).r)) na3 rfl f15 rfl) rfl rfl rfl (rfl) rfl rfl ?_
                      refine G.anyg rfl rfl (.field0 fa36_3 rfl) rfl rfl rfl (rfl) rfl rfl ?_
                      refine G.rdg rfl rfl (.loadB (v := .int .i64 ((xs.getD k noEdge).r)) na3 rfl f16 rfl) rfl rfl rfl (rfl) rfl rfl ?_
                      refine G.anyg rfl rfl (.neq rfl rfl) rfl rfl rfl (rfl) rfl rfl ?_
                      refine G.any rfl rfl (.pickF rfl rfl rfl) rfl rfl rfl ?_
                      refine G.nil ?_
                      refine E.thenN ?_
                      by_cases c3 : ((xs.getD (k - 1) noEdge).r) ≠ ((xs.getD k noEdge).r)
                      · refine WC.condY rfl (decide_eq_true c3) ?_
                        refine WC.seq ?_
                        refine WC.region ?_
                        refine W.any (.assign rfl) rfl rfl rfl ?_
                        refine W.nil ?_
                        refine E.thenN ?_
                        refine WC.ret ?_
                        refine E.blkR ?_
                        refine E.thenR ?_
                        refine E.thenR ?_
                        refine E.blkR ?_
                        refine E.thenR ?_
                        refine E.retG1 rfl rfl ?_
                        exact ⟨congrArg (fun b => Ending.returned (Value.bool b)) (decide_eq_false (fun hr => by have hr := hr k (by omega); unfold RightAt at hr; first | exact absurd hr.1 (by assumption) | (have h2 := hr.2; clear hr; omega))).symm, L12⟩
                      · refine WC.condN rfl (decide_eq_false c3) ?_
                        refine WC.skip ?_
                        refine E.blkN ?_
                        refine E.thenN ?_
                        refine WC.region ?_
                        refine W.any (.add rfl rfl (by omega)) rfl rfl rfl ?_
                        refine W.any (.move rfl) rfl rfl rfl ?_
                        refine W.nil ?_
                        refine E.again (k + 1) (.cons rfl (.cons rfl (.cons rfl (.cons rfl (.nil _))))) ?_ ?_
                        · exact ⟨by omega, fun j hj => by rcases Nat.lt_or_ge j k with h | h; exact hz j h; rw [show j = k by omega]; refine ⟨by assumption, fun _ => ?_, fun ⟨_, _⟩ => ⟨?_, ?_, ?_, ?_⟩⟩ <;> first | omega | (exfalso; omega) | (exact fun ⟨_, _⟩ => by omega), L12, by have := zl0; have := h3_3.size; have := h3_5.size; have := d4.size; have := h4_1.size; have := h4_13.size; have := d6.size; have := h7_5.size; have := h7_6.size; have := d8.size; omega⟩
                        · first | omega | (simp only []; omega)
        · refine G.anyg rfl rfl (.dec (.move rfl) (decide_eq_false q4_6)) rfl rfl rfl (rfl) rfl rfl ?_
          refine G.skip rfl rfl rfl rfl (rfl) rfl rfl ?_
          refine G.skip rfl rfl rfl rfl (rfl) rfl rfl ?_
          refine G.skip rfl rfl rfl rfl (rfl) rfl rfl ?_
          refine G.skip rfl rfl rfl rfl (rfl) rfl rfl ?_
          refine G.skip rfl rfl rfl rfl (rfl) rfl rfl ?_
          refine G.skip rfl rfl rfl rfl (rfl) rfl rfl ?_
          refine G.skip rfl rfl rfl rfl (rfl) rfl rfl ?_
          refine G.skip rfl rfl rfl rfl (rfl) rfl rfl ?_
          refine G.anyg rfl rfl (.pickF rfl rfl rfl) rfl rfl rfl (rfl) rfl rfl ?_
          refine G.any rfl rfl (.pickF rfl rfl rfl) rfl rfl rfl ?_
          refine G.nil ?_
          refine E.thenN ?_
          refine WC.condF rfl ?_
          refine WC.skip ?_
          refine E.thenN ?_
          refine WC.seq ?_
          refine WC.seq ?_
          refine WC.draw [0, 1, 2, 3, 4, 5, 6, 7, 8, 9, 10, 11, 12] mixed (by kernel_rfl) ?_
          intro w6 d6
          have L17 := L5.trans d6
          refine G.any rfl rfl (.move rfl) rfl rfl rfl ?_
          refine G.any rfl rfl (.eql rfl rfl) rfl rfl rfl ?_
          by_cases q6_2 : ((k : Nat) : Int) = 0
          · refine G.any rfl rfl (.dec (.move rfl) (decide_eq_true q6_2)) rfl rfl rfl ?_
            refine G.skip rfl rfl rfl rfl (rfl) rfl rfl ?_
            refine G.skip rfl rfl rfl rfl (rfl) rfl rfl ?_
            refine G.skip rfl rfl rfl rfl (rfl) rfl rfl ?_
            refine G.skip rfl rfl rfl rfl (rfl) rfl rfl ?_
            refine G.skip rfl rfl rfl rfl (rfl) rfl rfl ?_
            refine G.skip rfl rfl rfl rfl (rfl) rfl rfl ?_
            refine G.skip rfl rfl rfl rfl (rfl) rfl rfl ?_
            refine G.skip rfl rfl rfl rfl (rfl) rfl rfl ?_
            refine G.skip rfl rfl rfl rfl (rfl) rfl rfl ?_
            refine G.any rfl rfl (.pickT rfl rfl rfl) rfl rfl rfl ?_
            refine G.nil ?_
            refine E.thenN ?_
            refine WC.condT rfl ?_
            refine WC.exit ?_
            refine E.thenX ?_
            refine E.blkH ?_
            refine E.thenN ?_
            refine WC.region ?_
            refine W.any (.add rfl rfl (by omega)) rfl rfl rfl ?_
            refine W.any (.move rfl) rfl rfl rfl ?_
            refine W.nil ?_
            refine E.again (k + 1) (.cons rfl (.cons rfl (.cons rfl (.cons rfl (.nil _))))) ?_ ?_
            · exact ⟨by omega, fun j hj => by rcases Nat.lt_or_ge j k with h | h; exact hz j h; rw [show j = k by omega]; refine ⟨by assumption, fun _ => ?_, fun ⟨_, _⟩ => ⟨?_, ?_, ?_, ?_⟩⟩ <;> first | omega | (exfalso; omega) | (exact fun ⟨_, _⟩ => by omega), L17, by have := zl0; have := h3_3.size; have := h3_5.size; have := d4.size; have := h4_1.size; have := d6.size; omega⟩
            · first | omega | (simp only []; omega)
          · refine G.any rfl rfl (.dec (.move rfl) (decide_eq_false q6_2)) rfl rfl rfl ?_
            refine G.anyg rfl rfl (.move rfl) rfl rfl rfl (rfl) rfl rfl ?_
            refine G.anyg rfl rfl (.move rfl) rfl rfl rfl (rfl) rfl rfl ?_
            refine G.anyg rfl rfl (.sub rfl rfl (by omega)) rfl rfl rfl (rfl) rfl rfl ?_
            refine G.anyg rfl rfl (.idxS ((k - 1)) Tryz.underlying44 sz36 rfl rfl (hV.isSome edgeV_row (by omega)) (by omega) (by omega)) rfl rfl rfl (rfl) rfl rfl ?_
            refine G.anyg rfl rfl (.vfield fa36_2 (hV.isSome edgeV_row (by omega)) rfl) rfl rfl rfl (rfl) rfl rfl ?_
            refine G.rdg rfl rfl (.vcell (j := (k - 1)) (o := 2) (v := .int .i64 ((xs.getD (k - 1) noEdge).c)) na3 rfl (hV.le L17) edgeV_row (getS xs noEdge (by first | omega | (simp only [List.length_cons, List.length_nil]; omega))) rfl) rfl rfl rfl (rfl) rfl rfl ?_
            refine G.anyg rfl rfl (.field0 fa36_2 rfl) rfl rfl rfl (rfl) rfl rfl ?_
            have f18 := (f4.le (h4_1.trans d6))
            refine G.rdg rfl rfl (.loadB (v := .int .i64 ((xs.getD k noEdge).c)) na3 rfl f18 rfl) rfl rfl rfl (rfl) rfl rfl ?_
            refine G.anyg rfl rfl (.neq rfl rfl) rfl rfl rfl (rfl) rfl rfl ?_
            refine G.any rfl rfl (.pickF rfl rfl rfl) rfl rfl rfl ?_
            refine G.nil ?_
            refine E.thenN ?_
            by_cases c2 : ((xs.getD (k - 1) noEdge).c) ≠ ((xs.getD k noEdge).c)
            · refine WC.condY rfl (decide_eq_true c2) ?_
              refine WC.exit ?_
              refine E.thenX ?_
              refine E.blkH ?_
              refine E.thenN ?_
              refine WC.region ?_
              refine W.any (.add rfl rfl (by omega)) rfl rfl rfl ?_
              refine W.any (.move rfl) rfl rfl rfl ?_
              refine W.nil ?_
              refine E.again (k + 1) (.cons rfl (.cons rfl (.cons rfl (.cons rfl (.nil _))))) ?_ ?_
              · exact ⟨by omega, fun j hj => by rcases Nat.lt_or_ge j k with h | h; exact hz j h; rw [show j = k by omega]; refine ⟨by assumption, fun _ => ?_, fun ⟨_, _⟩ => ⟨?_, ?_, ?_, ?_⟩⟩ <;> first | omega | (exfalso; omega) | (exact fun ⟨_, _⟩ => by omega), L17, by have := zl0; have := h3_3.size; have := h3_5.size; have := d4.size; have := h4_1.size; have := d6.size; omega⟩
              · first | omega | (simp only []; omega)
            · refine WC.condN rfl (decide_eq_false c2) ?_
              refine WC.skip ?_
              refine E.thenN ?_
              refine WC.seq ?_
              refine WC.region ?_
              refine W.any (.move rfl) rfl rfl rfl ?_
              refine W.any (.move rfl) rfl rfl rfl ?_
              refine W.any (.sub rfl rfl (by omega)) rfl rfl rfl ?_
              refine W.any (.idxS ((k - 1)) Tryz.underlying44 sz36 rfl rfl (hV.isSome edgeV_row (by omega)) (by omega) (by omega)) rfl rfl rfl ?_
              refine W.rd (.vload ag36 rfl (hV.le L17) edgeV_row (getS xs noEdge (by first | omega | (simp only [List.length_cons, List.length_nil]; omega)))) rfl rfl rfl ?_
              refine W.ef rfl rfl rfl ?_
              refine Ef.allocA z36 ?_
              intro g7_5_1 w7_5_1 hg7_5_1 b7_5_1 h7_5_1
              have L19 := L17.trans h7_5_1
              have b7_5_1 : Blk w7_5_1 g7_5_1 36 (edgeV noEdge).toArray := b7_5_1
              refine W.ef0 rfl rfl ?_
              refine Ef.storeAll sz36 (by rfl) rfl rfl b7_5_1 (by simp only [List.size_toArray, edgeV_row.len]) (edgeV_row.one (xs.getD (k - 1) noEdge)) ?_
              intro w7_6_1 b7_6_1 h7_6_1
              have b7_6_1 : Blk w7_6_1 g7_5_1 36 (edgeV (xs.getD (k - 1) noEdge)).toArray := b7_6_1
              have L20 : Le w w7_6_1 := L19.then_ h7_6_1 (fun q hq => by cases hq; exact Nat.le_trans L17.size hg7_5_1)
              refine W.nil ?_
              refine E.thenN ?_
              refine WC.seq ?_
              refine WC.draw [0, 1, 2, 3, 4, 5, 6, 7, 8, 9, 10, 11, 12, 13, 14, 15, 16, 17, 18, 19, 20, 21, 22, 23, 24, 25, 26, 27, 28, 29, 30, 31, 32, 33] mixed (by kernel_rfl) ?_
              intro w8 d8
              have L21 := L20.trans d8
              refine G.any rfl rfl (.move rfl) rfl rfl rfl ?_
              refine G.any rfl rfl (.gtr rfl rfl) rfl rfl rfl ?_
              by_cases q8_2 : 1 < ((k : Nat) : Int)
              · refine G.any rfl rfl (.dec (.move rfl) (decide_eq_true q8_2)) rfl rfl rfl ?_
                refine G.anyg rfl rfl (.move rfl) rfl rfl rfl (rfl) rfl rfl ?_
                refine G.anyg rfl rfl (.move rfl) rfl rfl rfl (rfl) rfl rfl ?_
                refine G.anyg rfl rfl (.sub rfl rfl (by omega)) rfl rfl rfl (rfl) rfl rfl ?_
                refine G.anyg rfl rfl (.idxS ((k - 2)) Tryz.underlying44 sz36 rfl rfl (hV.isSome edgeV_row (by omega)) (by omega) (by omega)) rfl rfl rfl (rfl) rfl rfl ?_
                refine G.anyg rfl rfl (.vfield fa36_2 (hV.isSome edgeV_row (by omega)) rfl) rfl rfl rfl (rfl) rfl rfl ?_
                refine G.rdg rfl rfl (.vcell (j := (k - 2)) (o := 2) (v := .int .i64 ((xs.getD (k - 2) noEdge).c)) na3 rfl (hV.le L21) edgeV_row (getS xs noEdge (by first | omega | (simp only [List.length_cons, List.length_nil]; omega))) rfl) rfl rfl rfl (rfl) rfl rfl ?_
                refine G.anyg rfl rfl (.field0 fa36_2 rfl) rfl rfl rfl (rfl) rfl rfl ?_
                have f22 := (((f18.le h7_5_1).ch h7_6_1 (fun h => (show g7_5_1 ≠ g3_3 from by have := f18.lt; omega) (Option.some.inj h))).le d8)
                refine G.rdg rfl rfl (.loadB (v := .int .i64 ((xs.getD k noEdge).c)) na3 rfl f22 rfl) rfl rfl rfl (rfl) rfl rfl ?_
                refine G.anyg rfl rfl (.eql rfl rfl) rfl rfl rfl (rfl) rfl rfl ?_
                refine G.any rfl rfl (.pickT rfl rfl rfl) rfl rfl rfl ?_
                by_cases q8_13 : ((xs.getD (k - 2) noEdge).c) = ((xs.getD k noEdge).c)
                · refine G.any rfl rfl (.dec (.move rfl) (decide_eq_true q8_13)) rfl rfl rfl ?_
                  refine G.skip rfl rfl rfl rfl (rfl) rfl rfl ?_
                  refine G.skip rfl rfl rfl rfl (rfl) rfl rfl ?_
                  refine G.skip rfl rfl rfl rfl (rfl) rfl rfl ?_
                  refine G.skip rfl rfl rfl rfl (rfl) rfl rfl ?_
                  refine G.skip rfl rfl rfl rfl (rfl) rfl rfl ?_
                  refine G.any rfl rfl (.pickT rfl rfl rfl) rfl rfl rfl ?_
                  refine G.any rfl rfl (.move rfl) rfl rfl rfl ?_
                  refine G.skip rfl rfl rfl rfl (rfl) rfl rfl ?_
                  refine G.skip rfl rfl rfl rfl (rfl) rfl rfl ?_
                  refine G.skip rfl rfl rfl rfl (rfl) rfl rfl ?_
                  refine G.skip rfl rfl rfl rfl (rfl) rfl rfl ?_
                  refine G.skip rfl rfl rfl rfl (rfl) rfl rfl ?_
                  refine G.any rfl rfl (.pickT rfl rfl rfl) rfl rfl rfl ?_
                  refine G.any rfl rfl (.move rfl) rfl rfl rfl ?_
                  refine G.skip rfl rfl rfl rfl (rfl) rfl rfl ?_
                  refine G.skip rfl rfl rfl rfl (rfl) rfl rfl ?_
                  refine G.skip rfl rfl rfl rfl (rfl) rfl rfl ?_
                  refine G.skip rfl rfl rfl rfl (rfl) rfl rfl ?_
                  refine G.skip rfl rfl rfl rfl (rfl) rfl rfl ?_
                  refine G.any rfl rfl (.pickT rfl rfl rfl) rfl rfl rfl ?_
                  refine G.nil ?_
                  refine E.thenN ?_
                  refine WC.condT rfl ?_
                  refine WC.seq ?_
                  refine WC.region ?_
                  refine W.any (.assign rfl) rfl rfl rfl ?_
                  refine W.nil ?_
                  refine E.thenN ?_
                  refine WC.ret ?_
                  refine E.blkR ?_
                  refine E.thenR ?_
                  refine E.thenR ?_
                  refine E.blkR ?_
                  refine E.thenR ?_
                  refine E.retG1 rfl rfl ?_
                  exact ⟨congrArg (fun b => Ending.returned (Value.bool b)) (decide_eq_false (fun hr => by have hr := hr k (by omega); unfold RightAt at hr; first | exact absurd hr.1 (by assumption) | (have h2 := hr.2; clear hr; omega))).symm, L21⟩
                · refine G.any rfl rfl (.dec (.move rfl) (decide_eq_false q8_13)) rfl rfl rfl ?_
                  refine G.anyg rfl rfl (.field0 fa36_0 rfl) rfl rfl rfl (rfl) rfl rfl ?_
                  have f23 := (b7_6_1.le d8)
                  refine G.rdg rfl rfl (.loadB (v := .int .i64 ((xs.getD (k - 1) noEdge).f)) na3 rfl f23 rfl) rfl rfl rfl (rfl) rfl rfl ?_
                  refine G.anyg rfl rfl (.field0 fa36_1 rfl) rfl rfl rfl (rfl) rfl rfl ?_
                  refine G.rdg rfl rfl (.loadB (v := .int .i64 ((xs.getD k noEdge).t)) na3 rfl f22 rfl) rfl rfl rfl (rfl) rfl rfl ?_
                  refine G.anyg rfl rfl (.neq rfl rfl) rfl rfl rfl (rfl) rfl rfl ?_
                  refine G.any rfl rfl (.pickF rfl rfl rfl) rfl rfl rfl ?_
                  by_cases q8_20 : ((xs.getD (k - 1) noEdge).f) ≠ ((xs.getD k noEdge).t)
                  · refine G.any rfl rfl (.dec (.move rfl) (decide_eq_true q8_20)) rfl rfl rfl ?_
                    refine G.skip rfl rfl rfl rfl (rfl) rfl rfl ?_
                    refine G.skip rfl rfl rfl rfl (rfl) rfl rfl ?_
                    refine G.skip rfl rfl rfl rfl (rfl) rfl rfl ?_
                    refine G.skip rfl rfl rfl rfl (rfl) rfl rfl ?_
                    refine G.skip rfl rfl rfl rfl (rfl) rfl rfl ?_
                    refine G.any rfl rfl (.pickT rfl rfl rfl) rfl rfl rfl ?_
                    refine G.any rfl rfl (.move rfl) rfl rfl rfl ?_
                    refine G.skip rfl rfl rfl rfl (rfl) rfl rfl ?_
                    refine G.skip rfl rfl rfl rfl (rfl) rfl rfl ?_
                    refine G.skip rfl rfl rfl rfl (rfl) rfl rfl ?_
                    refine G.skip rfl rfl rfl rfl (rfl) rfl rfl ?_
                    refine G.skip rfl rfl rfl rfl (rfl) rfl rfl ?_
                    refine G.any rfl rfl (.pickT rfl rfl rfl) rfl rfl rfl ?_
                    refine G.nil ?_
                    refine E.thenN ?_
                    refine WC.condT rfl ?_
                    refine WC.seq ?_
                    refine WC.region ?_
                    refine W.any (.assign rfl) rfl rfl rfl ?_
                    refine W.nil ?_
                    refine E.thenN ?_
                    refine WC.ret ?_
                    refine E.blkR ?_
                    refine E.thenR ?_
                    refine E.thenR ?_
                    refine E.blkR ?_
                    refine E.thenR ?_
                    refine E.retG1 rfl rfl ?_
                    exact ⟨congrArg (fun b => Ending.returned (Value.bool b)) (decide_eq_false (fun hr => by have hr := hr k (by omega); unfold RightAt at hr; first | exact absurd hr.1 (by assumption) | (have h2 := hr.2; clear hr; omega))).symm, L21⟩
                  · refine G.any rfl rfl (.dec (.move rfl) (decide_eq_false q8_20)) rfl rfl rfl ?_
                    refine G.anyg rfl rfl (.field0 fa36_1 rfl) rfl rfl rfl (rfl) rfl rfl ?_
                    refine G.rdg rfl rfl (.loadB (v := .int .i64 ((xs.getD (k - 1) noEdge).t)) na3 rfl f23 rfl) rfl rfl rfl (rfl) rfl rfl ?_
                    refine G.anyg rfl rfl (.field0 fa36_0 rfl) rfl rfl rfl (rfl) rfl rfl ?_
                    refine G.rdg rfl rfl (.loadB (v := .int .i64 ((xs.getD k noEdge).f)) na3 rfl f22 rfl) rfl rfl rfl (rfl) rfl rfl ?_
                    refine G.anyg rfl rfl (.neq rfl rfl) rfl rfl rfl (rfl) rfl rfl ?_
                    refine G.any rfl rfl (.pickF rfl rfl rfl) rfl rfl rfl ?_
                    by_cases q8_27 : ((xs.getD (k - 1) noEdge).t) ≠ ((xs.getD k noEdge).f)
                    · refine G.any rfl rfl (.dec (.move rfl) (decide_eq_true q8_27)) rfl rfl rfl ?_
                      refine G.skip rfl rfl rfl rfl (rfl) rfl rfl ?_
                      refine G.skip rfl rfl rfl rfl (rfl) rfl rfl ?_
                      refine G.skip rfl rfl rfl rfl (rfl) rfl rfl ?_
                      refine G.skip rfl rfl rfl rfl (rfl) rfl rfl ?_
                      refine G.skip rfl rfl rfl rfl (rfl) rfl rfl ?_
                      refine G.any rfl rfl (.pickT rfl rfl rfl) rfl rfl rfl ?_
                      refine G.nil ?_
                      refine E.thenN ?_
                      refine WC.condT rfl ?_
                      refine WC.seq ?_
                      refine WC.region ?_
                      refine W.any (.assign rfl) rfl rfl rfl ?_
                      refine W.nil ?_
                      refine E.thenN ?_
                      refine WC.ret ?_
                      refine E.blkR ?_
                      refine E.thenR ?_
                      refine E.thenR ?_
                      refine E.blkR ?_
                      refine E.thenR ?_
                      refine E.retG1 rfl rfl ?_
                      exact ⟨congrArg (fun b => Ending.returned (Value.bool b)) (decide_eq_false (fun hr => by have hr := hr k (by omega); unfold RightAt at hr; first | exact absurd hr.1 (by assumption) | (have h2 := hr.2; clear hr; omega))).symm, L21⟩
                    · refine G.any rfl rfl (.dec (.move rfl) (decide_eq_false q8_27)) rfl rfl rfl ?_
                      refine G.anyg rfl rfl (.field0 fa36_3 rfl) rfl rfl rfl (rfl) rfl rfl ?_
                      refine G.rdg rfl rfl (.loadB (v := .int .i64 ((xs.getD (k - 1) noEdge).r)) na3 rfl f23 rfl) rfl rfl rfl (rfl) rfl rfl ?_
                      refine G.anyg rfl rfl (.field0 fa36_3 rfl) rfl rfl rfl (rfl) rfl rfl ?_
                      refine G.rdg rfl rfl (.loadB (v := .int .i64 ((xs.getD k noEdge).r)) na3 rfl f22 rfl) rfl rfl rfl (rfl) rfl rfl ?_
                      refine G.anyg rfl rfl (.neq rfl rfl) rfl rfl rfl (rfl) rfl rfl ?_
                      refine G.any rfl rfl (.pickF rfl rfl rfl) rfl rfl rfl ?_
                      refine G.nil ?_
                      refine E.thenN ?_
                      by_cases c3 : ((xs.getD (k - 1) noEdge).r) ≠ ((xs.getD k noEdge).r)
                      · refine WC.condY rfl (decide_eq_true c3) ?_
                        refine WC.seq ?_
                        refine WC.region ?_
                        refine W.any (.assign rfl) rfl rfl rfl ?_
                        refine W.nil ?_
                        refine E.thenN ?_
                        refine WC.ret ?_
                        refine E.blkR ?_
                        refine E.thenR ?_
                        refine E.thenR ?_
                        refine E.blkR ?_
                        refine E.thenR ?_
                        refine E.retG1 rfl rfl ?_
                        exact ⟨congrArg (fun b => Ending.returned (Value.bool b)) (decide_eq_false (fun hr => by have hr := hr k (by omega); unfold RightAt at hr; first | exact absurd hr.1 (by assumption) | (have h2 := hr.2; clear hr; omega))).symm, L21⟩
                      · refine WC.condN rfl (decide_eq_false c3) ?_
                        refine WC.skip ?_
                        refine E.blkN ?_
                        refine E.thenN ?_
                        refine WC.region ?_
                        refine W.any (.add rfl rfl (by omega)) rfl rfl rfl ?_
                        refine W.any (.move rfl) rfl rfl rfl ?_
                        refine W.nil ?_
                        refine E.again (k + 1) (.cons rfl (.cons rfl (.cons rfl (.cons rfl (.nil _))))) ?_ ?_
                        · exact ⟨by omega, fun j hj => by rcases Nat.lt_or_ge j k with h | h; exact hz j h; rw [show j = k by omega]; refine ⟨by assumption, fun _ => ?_, fun ⟨_, _⟩ => ⟨?_, ?_, ?_, ?_⟩⟩ <;> first | omega | (exfalso; omega) | (exact fun ⟨_, _⟩ => by omega), L21, by have := zl0; have := h3_3.size; have := h3_5.size; have := d4.size; have := h4_1.size; have := d6.size; have := h7_5_1.size; have := h7_6_1.size; have := d8.size; omega⟩
                        · first | omega | (simp only []; omega)
              · refine G.any rfl rfl (.dec (.move rfl) (decide_eq_false q8_2)) rfl rfl rfl ?_
                refine G.skip rfl rfl rfl rfl (rfl) rfl rfl ?_
                refine G.skip rfl rfl rfl rfl (rfl) rfl rfl ?_
                refine G.skip rfl rfl rfl rfl (rfl) rfl rfl ?_
                refine G.skip rfl rfl rfl rfl (rfl) rfl rfl ?_
                refine G.skip rfl rfl rfl rfl (rfl) rfl rfl ?_
                refine G.skip rfl rfl rfl rfl (rfl) rfl rfl ?_
                refine G.skip rfl rfl rfl rfl (rfl) rfl rfl ?_
                refine G.skip rfl rfl rfl rfl (rfl) rfl rfl ?_
                refine G.skip rfl rfl rfl rfl (rfl) rfl rfl ?_
                refine G.any rfl rfl (.pickF rfl rfl rfl) rfl rfl rfl ?_
                refine G.any rfl rfl (.move rfl) rfl rfl rfl ?_
                refine G.anyg rfl rfl (.field0 fa36_0 rfl) rfl rfl rfl (rfl) rfl rfl ?_
                have f24 := (b7_6_1.le d8)
                refine G.rdg rfl rfl (.loadB (v := .int .i64 ((xs.getD (k - 1) noEdge).f)) na3 rfl f24 rfl) rfl rfl rfl (rfl) rfl rfl ?_
                refine G.anyg rfl rfl (.field0 fa36_1 rfl) rfl rfl rfl (rfl) rfl rfl ?_
                have f25 := (((f18.le h7_5_1).ch h7_6_1 (fun h => (show g7_5_1 ≠ g3_3 from by have := f18.lt; omega) (Option.some.inj h))).le d8)
                refine G.rdg rfl rfl (.loadB (v := .int .i64 ((xs.getD k noEdge).t)) na3 rfl f25 rfl) rfl rfl rfl (rfl) rfl rfl ?_
                refine G.anyg rfl rfl (.neq rfl rfl) rfl rfl rfl (rfl) rfl rfl ?_
                refine G.any rfl rfl (.pickF rfl rfl rfl) rfl rfl rfl ?_
                by_cases q8_20 : ((xs.getD (k - 1) noEdge).f) ≠ ((xs.getD k noEdge).t)
                · refine G.any rfl rfl (.dec (.move rfl) (decide_eq_true q8_20)) rfl rfl rfl ?_
                  refine G.skip rfl rfl rfl rfl (rfl) rfl rfl ?_
                  refine G.skip rfl rfl rfl rfl (rfl) rfl rfl ?_
                  refine G.skip rfl rfl rfl rfl (rfl) rfl rfl ?_
                  refine G.skip rfl rfl rfl rfl (rfl) rfl rfl ?_
                  refine G.skip rfl rfl rfl rfl (rfl) rfl rfl ?_
                  refine G.any rfl rfl (.pickT rfl rfl rfl) rfl rfl rfl ?_
                  refine G.any rfl rfl (.move rfl) rfl rfl rfl ?_
                  refine G.skip rfl rfl rfl rfl (rfl) rfl rfl ?_
                  refine G.skip rfl rfl rfl rfl (rfl) rfl rfl ?_
                  refine G.skip rfl rfl rfl rfl (rfl) rfl rfl ?_
                  refine G.skip rfl rfl rfl rfl (rfl) rfl rfl ?_
                  refine G.skip rfl rfl rfl rfl (rfl) rfl rfl ?_
                  refine G.any rfl rfl (.pickT rfl rfl rfl) rfl rfl rfl ?_
                  refine G.nil ?_
                  refine E.thenN ?_
                  refine WC.condT rfl ?_
                  refine WC.seq ?_
                  refine WC.region ?_
                  refine W.any (.assign rfl) rfl rfl rfl ?_
                  refine W.nil ?_
                  refine E.thenN ?_
                  refine WC.ret ?_
                  refine E.blkR ?_
                  refine E.thenR ?_
                  refine E.thenR ?_
                  refine E.blkR ?_
                  refine E.thenR ?_
                  refine E.retG1 rfl rfl ?_
                  exact ⟨congrArg (fun b => Ending.returned (Value.bool b)) (decide_eq_false (fun hr => by have hr := hr k (by omega); unfold RightAt at hr; first | exact absurd hr.1 (by assumption) | (have h2 := hr.2; clear hr; omega))).symm, L21⟩
                · refine G.any rfl rfl (.dec (.move rfl) (decide_eq_false q8_20)) rfl rfl rfl ?_
                  refine G.anyg rfl rfl (.field0 fa36_1 rfl) rfl rfl rfl (rfl) rfl rfl ?_
                  refine G.rdg rfl rfl (.loadB (v := .int .i64 ((xs.getD (k - 1) noEdge).t)) na3 rfl f24 rfl) rfl rfl rfl (rfl) rfl rfl ?_
                  refine G.anyg rfl rfl (.field0 fa36_0 rfl) rfl rfl rfl (rfl) rfl rfl ?_
                  refine G.rdg rfl rfl (.loadB (v := .int .i64 ((xs.getD k noEdge).f)) na3 rfl f25 rfl) rfl rfl rfl (rfl) rfl rfl ?_
                  refine G.anyg rfl rfl (.neq rfl rfl) rfl rfl rfl (rfl) rfl rfl ?_
                  refine G.any rfl rfl (.pickF rfl rfl rfl) rfl rfl rfl ?_
                  by_cases q8_27 : ((xs.getD (k - 1) noEdge).t) ≠ ((xs.getD k noEdge).f)
                  · refine G.any rfl rfl (.dec (.move rfl) (decide_eq_true q8_27)) rfl rfl rfl ?_
                    refine G.skip rfl rfl rfl rfl (rfl) rfl rfl ?_
                    refine G.skip rfl rfl rfl rfl (rfl) rfl rfl ?_
                    refine G.skip rfl rfl rfl rfl (rfl) rfl rfl ?_
                    refine G.skip rfl rfl rfl rfl (rfl) rfl rfl ?_
                    refine G.skip rfl rfl rfl rfl (rfl) rfl rfl ?_
                    refine G.any rfl rfl (.pickT rfl rfl rfl) rfl rfl rfl ?_
                    refine G.nil ?_
                    refine E.thenN ?_
                    refine WC.condT rfl ?_
                    refine WC.seq ?_
                    refine WC.region ?_
                    refine W.any (.assign rfl) rfl rfl rfl ?_
                    refine W.nil ?_
                    refine E.thenN ?_
                    refine WC.ret ?_
                    refine E.blkR ?_
                    refine E.thenR ?_
                    refine E.thenR ?_
                    refine E.blkR ?_
                    refine E.thenR ?_
                    refine E.retG1 rfl rfl ?_
                    exact ⟨congrArg (fun b => Ending.returned (Value.bool b)) (decide_eq_false (fun hr => by have hr := hr k (by omega); unfold RightAt at hr; first | exact absurd hr.1 (by assumption) | (have h2 := hr.2; clear hr; omega))).symm, L21⟩
                  · refine G.any rfl rfl (.dec (.move rfl) (decide_eq_false q8_27)) rfl rfl rfl ?_
                    refine G.anyg rfl rfl (.field0 fa36_3 rfl) rfl rfl rfl (rfl) rfl rfl ?_
                    refine G.rdg rfl rfl (.loadB (v := .int .i64 ((xs.getD (k - 1) noEdge).r)) na3 rfl f24 rfl) rfl rfl rfl (rfl) rfl rfl ?_
                    refine G.anyg rfl rfl (.field0 fa36_3 rfl) rfl rfl rfl (rfl) rfl rfl ?_
                    refine G.rdg rfl rfl (.loadB (v := .int .i64 ((xs.getD k noEdge).r)) na3 rfl f25 rfl) rfl rfl rfl (rfl) rfl rfl ?_
                    refine G.anyg rfl rfl (.neq rfl rfl) rfl rfl rfl (rfl) rfl rfl ?_
                    refine G.any rfl rfl (.pickF rfl rfl rfl) rfl rfl rfl ?_
                    refine G.nil ?_
                    refine E.thenN ?_
                    by_cases c3 : ((xs.getD (k - 1) noEdge).r) ≠ ((xs.getD k noEdge).r)
                    · refine WC.condY rfl (decide_eq_true c3) ?_
                      refine WC.seq ?_
                      refine WC.region ?_
                      refine W.any (.assign rfl) rfl rfl rfl ?_
                      refine W.nil ?_
                      refine E.thenN ?_
                      refine WC.ret ?_
                      refine E.blkR ?_
                      refine E.thenR ?_
                      refine E.thenR ?_
                      refine E.blkR ?_
                      refine E.thenR ?_
                      refine E.retG1 rfl rfl ?_
                      exact ⟨congrArg (fun b => Ending.returned (Value.bool b)) (decide_eq_false (fun hr => by have hr := hr k (by omega); unfold RightAt at hr; first | exact absurd hr.1 (by assumption) | (have h2 := hr.2; clear hr; omega))).symm, L21⟩
                    · refine WC.condN rfl (decide_eq_false c3) ?_
                      refine WC.skip ?_
                      refine E.blkN ?_
                      refine E.thenN ?_
                      refine WC.region ?_
                      refine W.any (.add rfl rfl (by omega)) rfl rfl rfl ?_
                      refine W.any (.move rfl) rfl rfl rfl ?_
                      refine W.nil ?_
                      refine E.again (k + 1) (.cons rfl (.cons rfl (.cons rfl (.cons rfl (.nil _))))) ?_ ?_
                      · exact ⟨by omega, fun j hj => by rcases Nat.lt_or_ge j k with h | h; exact hz j h; rw [show j = k by omega]; refine ⟨by assumption, fun _ => ?_, fun ⟨_, _⟩ => ⟨?_, ?_, ?_, ?_⟩⟩ <;> first | omega | (exfalso; omega) | (exact fun ⟨_, _⟩ => by omega), L21, by have := zl0; have := h3_3.size; have := h3_5.size; have := d4.size; have := h4_1.size; have := d6.size; have := h7_5_1.size; have := h7_6_1.size; have := d8.size; omega⟩
                      · first | omega | (simp only []; omega)
      · refine G.any rfl rfl (.dec (.move rfl) (congrArg not ((Bool.eq_false_iff.2 q4_3)))) rfl rfl rfl ?_
        refine G.skip rfl rfl rfl rfl (rfl) rfl rfl ?_
        refine G.skip rfl rfl rfl rfl (rfl) rfl rfl ?_
        refine G.skip rfl rfl rfl rfl (rfl) rfl rfl ?_
        refine G.skipu rfl rfl rfl rfl rfl rfl ?_
        refine G.skipu rfl rfl rfl rfl rfl rfl ?_
        refine G.skipu rfl rfl rfl rfl rfl rfl ?_
        refine G.skipu rfl rfl rfl rfl rfl rfl ?_
        refine G.skipu rfl rfl rfl rfl rfl rfl ?_
        refine G.skipu rfl rfl rfl rfl rfl rfl ?_
        refine G.skipu rfl rfl rfl rfl rfl rfl ?_
        refine G.skipu rfl rfl rfl rfl rfl rfl ?_
        refine G.skip rfl rfl rfl rfl (rfl) rfl rfl ?_
        refine G.any rfl rfl (.pickT rfl rfl rfl) rfl rfl rfl ?_
        refine G.nil ?_
        refine E.thenN ?_
        refine WC.condT rfl ?_
        refine WC.seq ?_
        refine WC.region ?_
        refine W.any (.assign rfl) rfl rfl rfl ?_
        refine W.nil ?_
        refine E.thenN ?_
        refine WC.ret ?_
        refine E.thenR ?_
        refine E.blkR ?_
        refine E.thenR ?_
        refine E.thenR ?_
        refine E.blkR ?_
        refine E.thenR ?_
        refine E.retG1 rfl rfl ?_
        exact ⟨congrArg (fun b => Ending.returned (Value.bool b)) (decide_eq_false (fun hr => by have hr := hr k (by omega); unfold RightAt at hr; first | exact absurd hr.1 (by assumption) | (have h2 := hr.2; clear hr; omega))).symm, L5⟩
    · refine WC.condN rfl (decide_eq_false c0) ?_
      refine WC.exit ?_
      refine E.thenX ?_
      refine E.thenX ?_
      refine E.blkH ?_
      refine E.thenN ?_
      refine WC.seq ?_
      refine WC.region ?_
      refine W.any (.assign rfl) rfl rfl rfl ?_
      refine W.nil ?_
      refine E.thenN ?_
      refine WC.ret ?_
      refine E.retG1 rfl rfl ?_
      exact ⟨congrArg (fun b => Ending.returned (Value.bool b)) (decide_eq_true (fun j hj => hz j (by omega))).symm, Ll0⟩

theorem gway_ok {A : Option Addr} {n c : Nat} {xs : List Gsp.Edge} (w : World) (hV : Vec w edgeV 9 A n xs) (hn : n ≤ 1000000) : Calls Tryz.prog 23 #[.slice A n c] w fun r w' => r = .returned (.bool (wayG xs)) ∧ Le w w' := by
  have hl := hV.1
  refine enter Tryz.func23 rfl rfl ?_
  have L0 := Le.refl w
  refine WC.seq ?_
  refine WC.region ?_
  refine W.any (.assign rfl) rfl rfl rfl ?_
  refine W.nil ?_
  refine E.thenN ?_
  refine WC.seq ?_
  refine WC.seq ?_
  refine WC.region ?_
  refine W.any (.move rfl) rfl rfl rfl ?_
  refine W.rd (.len Tryz.underlying44 rfl) rfl rfl rfl ?_
  refine W.ef rfl rfl rfl ?_
  refine Ef.call go43 rfl rfl (gin_ok ((n : Nat) : Int) 1 8 w) ?_
  rintro _ w1_2 ⟨rfl, h1_2⟩
  refine ⟨_, rfl, ?_⟩
  have L1 := L0.trans h1_2
  refine W.any (.not rfl) rfl rfl rfl ?_
  refine W.nil ?_
  refine E.thenN ?_
  by_cases c0 : (inB ((n : Nat) : Int) 1 8) = true
  · refine WC.condN rfl (congrArg not (c0)) ?_
    refine WC.skip ?_
    refine E.thenN ?_
    refine WC.seq ?_
    refine WC.region ?_
    refine W.ef rfl rfl rfl ?_
    refine Ef.allocA z108 ?_
    intro g3_0 w3_0 hg3_0 b3_0 h3_0
    have L2 := L1.trans h3_0
    have b3_0 : Blk w3_0 g3_0 108 (((List.replicate 12 false)).map Value.bool).toArray := b3_0.cast (rfl)
    refine W.nil ?_
    refine E.thenN ?_
    refine WC.seq ?_
    refine WC.seq ?_
    refine WC.region ?_
    refine W.any (.move rfl) rfl rfl rfl ?_
    refine W.rd (.len Tryz.underlying44 rfl) rfl rfl rfl ?_
    refine W.any (.move rfl) rfl rfl rfl ?_
    refine W.nil ?_
    refine E.thenN ?_
    refine WC.block ?_
    refine WC.loop (ι := Nat × (List Bool)) (fun ⟨k, bs⟩ => [(0, .slice A n c), (3, .pointer (some ⟨g3_0, 0, none⟩)), (10, .slice A n c), (11, .int .i64 (((n : Nat) : Int))), (12, .int .i64 (((k : Nat) : Int)))]) (fun ⟨k, bs⟩ wl0 => (k ≤ n) ∧ (bs.length = 12) ∧ (∀ j, j < k → WayAt xs j) ∧ (Been bs xs k) ∧ Le w wl0 ∧ w3_0.heap.size ≤ wl0.heap.size ∧ Blk wl0 g3_0 108 (bs.map Value.bool).toArray) (fun ⟨k, bs⟩ => n - k) (0, (List.replicate 12 false)) ?_ ?_ ?_
    · exact .cons rfl (.cons rfl (.cons rfl (.cons rfl (.cons rfl (.nil _)))))
    · exact ⟨Nat.zero_le _, rfl, fun j hj => absurd hj (Nat.not_lt_zero _), been_first xs, L2, Nat.le_refl _, b3_0⟩
    · rintro ⟨k, bs⟩ wl0 ⟨hk, hb, hz, hd, Ll0, zl0, f0_0⟩
      refine WC.seq ?_
      refine WC.region ?_
      refine W.any (.lss rfl rfl) rfl rfl rfl ?_
      refine W.nil ?_
      refine E.thenN ?_
      refine WC.seq ?_
      by_cases c1 : ((k : Nat) : Int) < ((n : Nat) : Int)
      · refine WC.condY rfl (decide_eq_true c1) ?_
        refine WC.skip ?_
        refine E.thenN ?_
        refine WC.seq ?_
        refine WC.block ?_
        refine WC.seq ?_
        refine WC.region ?_
        refine W.any (.move rfl) rfl rfl rfl ?_
        refine W.any (.idxS (k) Tryz.underlying44 sz36 rfl rfl (hV.isSome edgeV_row (by omega)) (rfl) (by omega)) rfl rfl rfl ?_
        refine W.rd (.vload ag36 rfl (hV.le Ll0) edgeV_row (getS xs noEdge (by first | omega | (simp only [List.length_cons, List.length_nil]; omega)))) rfl rfl rfl ?_
        refine W.ef rfl rfl rfl ?_
        refine Ef.allocA z36 ?_
        intro g6_3 w6_3 hg6_3 b6_3 h6_3
        have L3 := Ll0.trans h6_3
        have b6_3 : Blk w6_3 g6_3 36 (edgeV noEdge).toArray := b6_3
        refine W.any (.assign rfl) rfl rfl rfl ?_
        refine W.ef0 rfl rfl ?_
        refine Ef.storeAll sz36 (by rfl) rfl rfl b6_3 (by simp only [List.size_toArray, edgeV_row.len]) (edgeV_row.one (xs.getD k noEdge)) ?_
        intro w6_5 b6_5 h6_5
        have b6_5 : Blk w6_5 g6_3 36 (edgeV (xs.getD k noEdge)).toArray := b6_5
        have L4 : Le w w6_5 := L3.then_ h6_5 (fun q hq => by cases hq; exact Nat.le_trans Ll0.size hg6_3)
        refine W.nil ?_
        refine E.thenN ?_
        refine WC.seq ?_
        refine WC.seq ?_
        refine WC.draw [0, 1, 2, 3, 4, 5, 6, 7, 8, 9, 10, 11, 12, 13, 14, 15, 16, 17, 18, 19, 20, 21, 22, 23] mixed (by kernel_rfl) ?_
        intro w7 d7
        have L5 := L4.trans d7
        have f6 := (b6_5.le d7)
        refine G.rd rfl rfl (.loadAll ag36 (by rfl) rfl f6) rfl rfl rfl ?_
        refine G.ef rfl rfl rfl rfl rfl ?_
        refine Ef.call go36 rfl rfl (edge_ok (xs.getD k noEdge) w7) ?_
        rintro _ w7_1 ⟨rfl, h7_1⟩
        refine ⟨_, rfl, ?_⟩
        refine ⟨fun _ => h7_1, ?_⟩
        have L7 := L5.trans h7_1
        refine G.any rfl rfl (.not rfl) rfl rfl rfl ?_
        by_cases q7_3 : (edgeOk (xs.getD k noEdge)) = true
        · refine G.any rfl rfl (.dec (.move rfl) (congrArg not (q7_3))) rfl rfl rfl ?_
          refine G.anyg rfl rfl (.move rfl) rfl rfl rfl (rfl) rfl rfl ?_
          refine G.anyg rfl rfl (.gtr rfl rfl) rfl rfl rfl (rfl) rfl rfl ?_
          by_cases q7_6 : 0 < ((k : Nat) : Int)
          · refine G.anyg rfl rfl (.dec (.move rfl) (decide_eq_true q7_6)) rfl rfl rfl (rfl) rfl rfl ?_
            refine G.anyg rfl rfl (.move rfl) rfl rfl rfl (rfl) rfl rfl ?_
            refine G.anyg rfl rfl (.move rfl) rfl rfl rfl (rfl) rfl rfl ?_
            refine G.anyg rfl rfl (.sub rfl rfl (by omega)) rfl rfl rfl (rfl) rfl rfl ?_
            refine G.anyg rfl rfl (.idxS ((k - 1)) Tryz.underlying44 sz36 rfl rfl (hV.isSome edgeV_row (by omega)) (by omega) (by omega)) rfl rfl rfl (rfl) rfl rfl ?_
            refine G.anyg rfl rfl (.vfield fa36_1 (hV.isSome edgeV_row (by omega)) rfl) rfl rfl rfl (rfl) rfl rfl ?_
            refine G.rdg rfl rfl (.vcell (j := (k - 1)) (o := 1) (v := .int .i64 ((xs.getD (k - 1) noEdge).t)) na3 rfl (hV.le L7) edgeV_row (getS xs noEdge (by first | omega | (simp only [List.length_cons, List.length_nil]; omega))) rfl) rfl rfl rfl (rfl) rfl rfl ?_
            refine G.anyg rfl rfl (.field0 fa36_0 rfl) rfl rfl rfl (rfl) rfl rfl ?_
            have f8 := (f6.le h7_1)
            refine G.rdg rfl rfl (.loadB (v := .int .i64 ((xs.getD k noEdge).f)) na3 rfl f8 rfl) rfl rfl rfl (rfl) rfl rfl ?_
            refine G.anyg rfl rfl (.neq rfl rfl) rfl rfl rfl (rfl) rfl rfl ?_
            refine G.anyg rfl rfl (.pickT rfl rfl rfl) rfl rfl rfl (rfl) rfl rfl ?_
            refine G.any rfl rfl (.pickF rfl rfl rfl) rfl rfl rfl ?_
            by_cases q7_18 : ((xs.getD (k - 1) noEdge).t) ≠ ((xs.getD k noEdge).f)
            · refine G.any rfl rfl (.dec (.move rfl) (decide_eq_true q7_18)) rfl rfl rfl ?_
              refine G.skip rfl rfl rfl rfl (rfl) rfl rfl ?_
              refine G.skip rfl rfl rfl rfl (rfl) rfl rfl ?_
              refine G.skip rfl rfl rfl rfl (rfl) rfl rfl ?_
              refine G.skip rfl rfl rfl rfl (rfl) rfl rfl ?_
              refine G.any rfl rfl (.pickT rfl rfl rfl) rfl rfl rfl ?_
              refine G.nil ?_
              refine E.thenN ?_
              refine WC.condT rfl ?_
              refine WC.seq ?_
              refine WC.region ?_
              refine W.any (.assign rfl) rfl rfl rfl ?_
              refine W.nil ?_
              refine E.thenN ?_
              refine WC.ret ?_
              refine E.thenR ?_
              refine E.blkR ?_
              refine E.thenR ?_
              refine E.thenR ?_
              refine E.blkR ?_
              refine E.thenR ?_
              refine E.retG1 rfl rfl ?_
              exact ⟨congrArg (fun b => Ending.returned (Value.bool b)) (decide_eq_false (fun hr => by have hr := hr.2 k (by omega); first | exact absurd hr.1 (by assumption) | exact way_fail hz hd (by assumption) hr | (have := hr.2.1; omega))).symm, L7⟩
            · refine G.any rfl rfl (.dec (.move rfl) (decide_eq_false q7_18)) rfl rfl rfl ?_
              refine G.anyg rfl rfl (.field0 fa36_1 rfl) rfl rfl rfl (rfl) rfl rfl ?_
              refine G.rdg rfl rfl (.loadB (v := .int .i64 ((xs.getD k noEdge).t)) na3 rfl f8 rfl) rfl rfl rfl (rfl) rfl rfl ?_
              have hok := edgeOk_T (show edgeOk (xs.getD k noEdge) = true by assumption)
              refine G.anyg rfl rfl (.idxA1 (((xs.getD k noEdge).t).toNat) Tryz.underlying108 sz4 rfl rfl (by omega) (by omega)) rfl rfl rfl (rfl) rfl rfl ?_
              have f9 := (((f0_0.le h6_3).ch h6_5 (fun h => (show g6_3 ≠ g3_0 from by have := f0_0.lt; omega) (Option.some.inj h))).le (d7.trans h7_1))
              refine G.rdg rfl rfl (.loadB na4 rfl f9 (getA bs false (by omega))) rfl rfl rfl (rfl) rfl rfl ?_
              refine G.any rfl rfl (.pickF rfl rfl rfl) rfl rfl rfl ?_
              refine G.nil ?_
              refine E.thenN ?_
              by_cases c2 : ((bs).getD (((xs.getD k noEdge).t).toNat) false) = true
              · refine WC.condY rfl (c2) ?_
                refine WC.seq ?_
                refine WC.region ?_
                refine W.any (.assign rfl) rfl rfl rfl ?_
                refine W.nil ?_
                refine E.thenN ?_
                refine WC.ret ?_
                refine E.thenR ?_
                refine E.blkR ?_
                refine E.thenR ?_
                refine E.thenR ?_
                refine E.blkR ?_
                refine E.thenR ?_
                refine E.retG1 rfl rfl ?_
                exact ⟨congrArg (fun b => Ending.returned (Value.bool b)) (decide_eq_false (fun hr => by have hr := hr.2 k (by omega); first | exact absurd hr.1 (by assumption) | exact way_fail hz hd (by assumption) hr | (have := hr.2.1; omega))).symm, L7⟩
              · refine WC.condN rfl ((Bool.eq_false_iff.2 c2)) ?_
                refine WC.skip ?_
                refine E.thenN ?_
                refine WC.drawS (fun w9 w' => Le w w' ∧ Blk w' g6_3 36 (edgeV (xs.getD k noEdge)).toArray) [0, 1, 2, 3, 4, 5, 6, 7] mixed (by kernel_rfl) ?_
                intro w9 d9
                have L10 := L7.trans d9
                have f11 := (f8.le d9)
                refine ⟨⟨L10, f11⟩, ?_⟩
                have hok := edgeOk_T (show edgeOk (xs.getD k noEdge) = true by assumption)
                refine GS.any rfl rfl (.field0 fa36_0 rfl) rfl rfl rfl ?_
                refine GS.rd rfl rfl (fun w' hs => .loadB (v := .int .i64 ((xs.getD k noEdge).f)) na3 rfl hs.2 rfl) rfl rfl rfl ?_
                refine GS.any rfl rfl (.field0 fa36_1 rfl) rfl rfl rfl ?_
                refine GS.rd rfl rfl (fun w' hs => .loadB (v := .int .i64 ((xs.getD k noEdge).t)) na3 rfl hs.2 rfl) rfl rfl rfl ?_
                refine GS.any rfl rfl (.idxA1 (((xs.getD k noEdge).f).toNat) Tryz.underlying108 sz4 rfl rfl (by omega) (by omega)) rfl rfl rfl ?_
                have f12 := (f9.le d9)
                refine GS.ef0 rfl rfl rfl rfl ?_
                refine Ef.store sz4 rfl rfl f12 (by simp only [List.size_toArray, List.length_map, List.length_set]; omega) rfl ?_
                intro w9_5 b9_5 h9_5
                have b9_5 : Blk w9_5 g3_0 108 ((bs.set (((xs.getD k noEdge).f).toNat) true).map Value.bool).toArray := bset b9_5
                have L13 : Le w w9_5 := L10.then_ h9_5 (fun q hq => by cases hq; exact Nat.le_trans L1.size hg3_0)
                have f14 := (f11.ch h9_5 (fun h => (show g3_0 ≠ g6_3 from by have := f0_0.lt; omega) (Option.some.inj h)))
                refine ⟨⟨L13, f14⟩, ?_⟩
                refine GS.any rfl rfl (.idxA1 (((xs.getD k noEdge).t).toNat) Tryz.underlying108 sz4 rfl rfl (by omega) (by omega)) rfl rfl rfl ?_
                refine GS.ef0 rfl rfl rfl rfl ?_
                refine Ef.store sz4 rfl rfl b9_5 (by simp only [List.size_toArray, List.length_map, List.length_set]; omega) rfl ?_
                intro w9_7 b9_7 h9_7
                have b9_7 : Blk w9_7 g3_0 108 (((bs.set (((xs.getD k noEdge).f).toNat) true).set (((xs.getD k noEdge).t).toNat) true).map Value.bool).toArray := bset b9_7
                have L15 : Le w w9_7 := L13.then_ h9_7 (fun q hq => by cases hq; exact Nat.le_trans L1.size hg3_0)
                have f16 := (f14.ch h9_7 (fun h => (show g3_0 ≠ g6_3 from by have := f0_0.lt; omega) (Option.some.inj h)))
                refine ⟨⟨L15, f16⟩, ?_⟩
                refine GS.nil ?_
                refine E.blkN ?_
                refine E.thenN ?_
                refine WC.region ?_
                refine W.any (.add rfl rfl (by omega)) rfl rfl rfl ?_
                refine W.any (.move rfl) rfl rfl rfl ?_
                refine W.nil ?_
                refine E.again (k + 1, ((bs.set (xs.getD k noEdge).f.toNat true).set (xs.getD k noEdge).t.toNat true)) (.cons rfl (.cons rfl (.cons rfl (.cons rfl (.cons rfl (.nil _)))))) ?_ ?_
                · exact ⟨by omega, by simp [hb], way_next hz (by assumption) (by intro h0; omega) hd (by assumption), been_next hb (by assumption) hd, L15, by have := zl0; have := h6_3.size; have := h6_5.size; have := d7.size; have := h7_1.size; have := d9.size; have := h9_5.size; have := h9_7.size; omega, b9_7⟩
                · first | omega | (simp only []; omega)
          · refine G.anyg rfl rfl (.dec (.move rfl) (decide_eq_false q7_6)) rfl rfl rfl (rfl) rfl rfl ?_
            refine G.skip rfl rfl rfl rfl (rfl) rfl rfl ?_
            refine G.skip rfl rfl rfl rfl (rfl) rfl rfl ?_
            refine G.skip rfl rfl rfl rfl (rfl) rfl rfl ?_
            refine G.skip rfl rfl rfl rfl (rfl) rfl rfl ?_
            refine G.skip rfl rfl rfl rfl (rfl) rfl rfl ?_
            refine G.skip rfl rfl rfl rfl (rfl) rfl rfl ?_
            refine G.skip rfl rfl rfl rfl (rfl) rfl rfl ?_
            refine G.skip rfl rfl rfl rfl (rfl) rfl rfl ?_
            refine G.skip rfl rfl rfl rfl (rfl) rfl rfl ?_
            refine G.anyg rfl rfl (.pickF rfl rfl rfl) rfl rfl rfl (rfl) rfl rfl ?_
            refine G.any rfl rfl (.pickF rfl rfl rfl) rfl rfl rfl ?_
            refine G.any rfl rfl (.move rfl) rfl rfl rfl ?_
            refine G.anyg rfl rfl (.field0 fa36_1 rfl) rfl rfl rfl (rfl) rfl rfl ?_
            have f17 := (f6.le h7_1)
            refine G.rdg rfl rfl (.loadB (v := .int .i64 ((xs.getD k noEdge).t)) na3 rfl f17 rfl) rfl rfl rfl (rfl) rfl rfl ?_
            have hok := edgeOk_T (show edgeOk (xs.getD k noEdge) = true by assumption)
            refine G.anyg rfl rfl (.idxA1 (((xs.getD k noEdge).t).toNat) Tryz.underlying108 sz4 rfl rfl (by omega) (by omega)) rfl rfl rfl (rfl) rfl rfl ?_
            have f18 := (((f0_0.le h6_3).ch h6_5 (fun h => (show g6_3 ≠ g3_0 from by have := f0_0.lt; omega) (Option.some.inj h))).le (d7.trans h7_1))
            refine G.rdg rfl rfl (.loadB na4 rfl f18 (getA bs false (by omega))) rfl rfl rfl (rfl) rfl rfl ?_
            refine G.any rfl rfl (.pickF rfl rfl rfl) rfl rfl rfl ?_
            refine G.nil ?_
            refine E.thenN ?_
            by_cases c2 : ((bs).getD (((xs.getD k noEdge).t).toNat) false) = true
            · refine WC.condY rfl (c2) ?_
              refine WC.seq ?_
              refine WC.region ?_
              refine W.any (.assign rfl) rfl rfl rfl ?_
              refine W.nil ?_
              refine E.thenN ?_
              refine WC.ret ?_
              refine E.thenR ?_
              refine E.blkR ?_
              refine E.thenR ?_
              refine E.thenR ?_
              refine E.blkR ?_
              refine E.thenR ?_
              refine E.retG1 rfl rfl ?_
              exact ⟨congrArg (fun b => Ending.returned (Value.bool b)) (decide_eq_false (fun hr => by have hr := hr.2 k (by omega); first | exact absurd hr.1 (by assumption) | exact way_fail hz hd (by assumption) hr | (have := hr.2.1; omega))).symm, L7⟩
            · refine WC.condN rfl ((Bool.eq_false_iff.2 c2)) ?_
              refine WC.skip ?_
              refine E.thenN ?_
              refine WC.drawS (fun w9 w' => Le w w' ∧ Blk w' g6_3 36 (edgeV (xs.getD k noEdge)).toArray) [0, 1, 2, 3, 4, 5, 6, 7] mixed (by kernel_rfl) ?_
              intro w9 d9
              have L19 := L7.trans d9
              have f20 := (f17.le d9)
              refine ⟨⟨L19, f20⟩, ?_⟩
              have hok := edgeOk_T (show edgeOk (xs.getD k noEdge) = true by assumption)
              refine GS.any rfl rfl (.field0 fa36_0 rfl) rfl rfl rfl ?_
              refine GS.rd rfl rfl (fun w' hs => .loadB (v := .int .i64 ((xs.getD k noEdge).f)) na3 rfl hs.2 rfl) rfl rfl rfl ?_
              refine GS.any rfl rfl (.field0 fa36_1 rfl) rfl rfl rfl ?_
              refine GS.rd rfl rfl (fun w' hs => .loadB (v := .int .i64 ((xs.getD k noEdge).t)) na3 rfl hs.2 rfl) rfl rfl rfl ?_
              refine GS.any rfl rfl (.idxA1 (((xs.getD k noEdge).f).toNat) Tryz.underlying108 sz4 rfl rfl (by omega) (by omega)) rfl rfl rfl ?_
              have f21 := (f18.le d9)
              refine GS.ef0 rfl rfl rfl rfl ?_
              refine Ef.store sz4 rfl rfl f21 (by simp only [List.size_toArray, List.length_map, List.length_set]; omega) rfl ?_
              intro w9_5_1 b9_5_1 h9_5_1
              have b9_5_1 : Blk w9_5_1 g3_0 108 ((bs.set (((xs.getD k noEdge).f).toNat) true).map Value.bool).toArray := bset b9_5_1
              have L22 : Le w w9_5_1 := L19.then_ h9_5_1 (fun q hq => by cases hq; exact Nat.le_trans L1.size hg3_0)
              have f23 := (f20.ch h9_5_1 (fun h => (show g3_0 ≠ g6_3 from by have := f0_0.lt; omega) (Option.some.inj h)))
              refine ⟨⟨L22, f23⟩, ?_⟩
              refine GS.any rfl rfl (.idxA1 (((xs.getD k noEdge).t).toNat) Tryz.underlying108 sz4 rfl rfl (by omega) (by omega)) rfl rfl rfl ?_
              refine GS.ef0 rfl rfl rfl rfl ?_
              refine Ef.store sz4 rfl rfl b9_5_1 (by simp only [List.size_toArray, List.length_map, List.length_set]; omega) rfl ?_
              intro w9_7_1 b9_7_1 h9_7_1
              have b9_7_1 : Blk w9_7_1 g3_0 108 (((bs.set (((xs.getD k noEdge).f).toNat) true).set (((xs.getD k noEdge).t).toNat) true).map Value.bool).toArray := bset b9_7_1
              have L24 : Le w w9_7_1 := L22.then_ h9_7_1 (fun q hq => by cases hq; exact Nat.le_trans L1.size hg3_0)
              have f25 := (f23.ch h9_7_1 (fun h => (show g3_0 ≠ g6_3 from by have := f0_0.lt; omega) (Option.some.inj h)))
              refine ⟨⟨L24, f25⟩, ?_⟩
              refine GS.nil ?_
              refine E.blkN ?_
              refine E.thenN ?_
              refine WC.region ?_
              refine W.any (.add rfl rfl (by omega)) rfl rfl rfl ?_
              refine W.any (.move rfl) rfl rfl rfl ?_
              refine W.nil ?_
              refine E.again (k + 1, ((bs.set (xs.getD k noEdge).f.toNat true).set (xs.getD k noEdge).t.toNat true)) (.cons rfl (.cons rfl (.cons rfl (.cons rfl (.cons rfl (.nil _)))))) ?_ ?_
              · exact ⟨by omega, by simp [hb], way_next hz (by assumption) (by intro h0; omega) hd (by assumption), been_next hb (by assumption) hd, L24, by have := zl0; have := h6_3.size; have := h6_5.size; have := d7.size; have := h7_1.size; have := d9.size; have := h9_5_1.size; have := h9_7_1.size; omega, b9_7_1⟩
              · first | omega | (simp only []; omega)
        · refine G.any rfl rfl (.dec (.move rfl) (congrArg not ((Bool.eq_false_iff.2 q7_3)))) rfl rfl rfl ?_
          refine G.skip rfl rfl rfl rfl (rfl) rfl rfl ?_
          refine G.skip rfl rfl rfl rfl (rfl) rfl rfl ?_
          refine G.skip rfl rfl rfl rfl (rfl) rfl rfl ?_
          refine G.skipu rfl rfl rfl rfl rfl rfl ?_
          refine G.skipu rfl rfl rfl rfl rfl rfl ?_
          refine G.skipu rfl rfl rfl rfl rfl rfl ?_
          refine G.skipu rfl rfl rfl rfl rfl rfl ?_
          refine G.skipu rfl rfl rfl rfl rfl rfl ?_
          refine G.skipu rfl rfl rfl rfl rfl rfl ?_
          refine G.skipu rfl rfl rfl rfl rfl rfl ?_
          refine G.skipu rfl rfl rfl rfl rfl rfl ?_
          refine G.skipu rfl rfl rfl rfl rfl rfl ?_
          refine G.skip rfl rfl rfl rfl (rfl) rfl rfl ?_
          refine G.any rfl rfl (.pickT rfl rfl rfl) rfl rfl rfl ?_
          refine G.any rfl rfl (.move rfl) rfl rfl rfl ?_
          refine G.skip rfl rfl rfl rfl (rfl) rfl rfl ?_
          refine G.skip rfl rfl rfl rfl (rfl) rfl rfl ?_
          refine G.skip rfl rfl rfl rfl (rfl) rfl rfl ?_
          refine G.skip rfl rfl rfl rfl (rfl) rfl rfl ?_
          refine G.any rfl rfl (.pickT rfl rfl rfl) rfl rfl rfl ?_
          refine G.nil ?_
          refine E.thenN ?_
          refine WC.condT rfl ?_
          refine WC.seq ?_
          refine WC.region ?_
          refine W.any (.assign rfl) rfl rfl rfl ?_
          refine W.nil ?_
          refine E.thenN ?_
          refine WC.ret ?_
          refine E.thenR ?_
          refine E.blkR ?_
          refine E.thenR ?_
          refine E.thenR ?_
          refine E.blkR ?_
          refine E.thenR ?_
          refine E.retG1 rfl rfl ?_
          exact ⟨congrArg (fun b => Ending.returned (Value.bool b)) (decide_eq_false (fun hr => by have hr := hr.2 k (by omega); first | exact absurd hr.1 (by assumption) | exact way_fail hz hd (by assumption) hr | (have := hr.2.1; omega))).symm, L7⟩
      · refine WC.condN rfl (decide_eq_false c1) ?_
        refine WC.exit ?_
        refine E.thenX ?_
        refine E.thenX ?_
        refine E.blkH ?_
        refine E.thenN ?_
        refine WC.seq ?_
        refine WC.region ?_
        refine W.any (.assign rfl) rfl rfl rfl ?_
        refine W.nil ?_
        refine E.thenN ?_
        refine WC.ret ?_
        refine E.retG1 rfl rfl ?_
        exact ⟨congrArg (fun b => Ending.returned (Value.bool b)) (decide_eq_true ⟨by have := inB_T (by assumption : inB (n : Int) 1 8 = true); omega, fun j hj => hz j (by omega)⟩).symm, Ll0⟩
  · refine WC.condY rfl (congrArg not ((Bool.eq_false_iff.2 c0))) ?_
    refine WC.seq ?_
    refine WC.region ?_
    refine W.any (.assign rfl) rfl rfl rfl ?_
    refine W.nil ?_
    refine E.thenN ?_
    refine WC.ret ?_
    refine E.thenR ?_
    refine E.retG1 rfl rfl ?_
    exact ⟨congrArg (fun b => Ending.returned (Value.bool b)) (decide_eq_false (fun hr => by have := inB_F (Bool.eq_false_iff.2 (by assumption : ¬ inB (n : Int) 1 8 = true)); have := hr.1; omega)).symm, L1⟩
end Go.Proofs.YtgpdfkplkaojcaaGreat

namespace Go.Proofs.YtgpdfkplkaojcaaGreat
open Go Go.Sx Go.Hsp Go.Num Go.Osp Go.Gsp
set_option maxRecDepth 20000
set_option linter.unusedSimpArgs false
set_option linter.unusedVariables false
theorem insort_ok (a b : Nat) {base : Nat} {A : Option Addr} {n c : Nat} {xs : List Gsp.Edge} (w : World) (hO : OVec w base 36 edgeV 9 A n c xs) (hb : b ≤ n) (hn : n ≤ 1000000) (ha : a ≤ n) : Calls Tryz.prog 91 #[.slice A n c, .int .i64 (((a : Nat) : Int)), .int .i64 (((b : Nat) : Int)), .func (.func 37) #[] #[]] w fun r w' => r = .returned (.tuple #[]) ∧ OVec w' base 36 edgeV 9 A n c (isort a b xs) ∧ Ch w w' (rowOf A c) := by
  have hl := hO.1
  refine enter Tryz.func91 rfl rfl ?_
  have L0 := Ch.refl w (rowOf A c)
  refine WC.seq ?_
  refine WC.region ?_
  refine W.any (.move rfl) rfl rfl rfl ?_
  refine W.any (.add rfl rfl (by omega)) rfl rfl rfl ?_
  refine W.any (.assign rfl) rfl rfl rfl ?_
  refine W.nil ?_
  refine E.thenN ?_
  refine WC.block ?_
  refine WC.loop (ι := Nat × (List Gsp.Edge)) (fun ⟨i, ys⟩ => [(0, .slice A n c), (1, .int .i64 (((a : Nat) : Int))), (2, .int .i64 (((b : Nat) : Int))), (3, .func (.func 37) #[] #[]), (8, .int .i64 (((i : Nat) : Int)))]) (fun ⟨i, ys⟩ wl0 => (a + 1 ≤ i) ∧ (ys.length = n) ∧ (isoC a b i ys = isort a b xs) ∧ Ch w wl0 (rowOf A c) ∧ w.heap.size ≤ wl0.heap.size ∧ OVec wl0 base 36 edgeV 9 A n c ys) (fun ⟨i, ys⟩ => b - i) (a + 1, xs) ?_ ?_ ?_
  · exact .cons rfl (.cons rfl (.cons rfl (.cons rfl (.cons rfl (.nil _)))))
  · exact ⟨Nat.le_refl _, hl, rfl, L0, Nat.le_refl _, hO⟩
  · rintro ⟨i, ys⟩ wl0 ⟨hi, hyl, hF, Ll0, zl0, f0_0⟩
    refine WC.seq ?_
    refine WC.seq ?_
    refine WC.region ?_
    refine W.any (.move rfl) rfl rfl rfl ?_
    refine W.any (.move rfl) rfl rfl rfl ?_
    refine W.any (.lss rfl rfl) rfl rfl rfl ?_
    refine W.nil ?_
    refine E.thenN ?_
    by_cases c0 : ((i : Nat) : Int) < ((b : Nat) : Int)
    · refine WC.condY rfl (decide_eq_true c0) ?_
      refine WC.skip ?_
      refine E.thenN ?_
      refine WC.seq ?_
      refine WC.block ?_
      refine WC.seq ?_
      refine WC.region ?_
      refine W.any (.move rfl) rfl rfl rfl ?_
      refine W.any (.assign rfl) rfl rfl rfl ?_
      refine W.nil ?_
      refine E.thenN ?_
      refine WC.block ?_
      refine WC.loop (ι := Nat × (List Gsp.Edge)) (fun ⟨j, zs⟩ => [(0, .slice A n c), (1, .int .i64 (((a : Nat) : Int))), (2, .int .i64 (((b : Nat) : Int))), (3, .func (.func 37) #[] #[]), (8, .int .i64 (((i : Nat) : Int))), (9, .int .i64 (((j : Nat) : Int)))]) (fun ⟨j, zs⟩ wl1 => (a ≤ j) ∧ (j ≤ i) ∧ (zs.length = n) ∧ (bub a j zs = bub a i ys) ∧ Ch w wl1 (rowOf A c) ∧ wl0.heap.size ≤ wl1.heap.size ∧ OVec wl1 base 36 edgeV 9 A n c zs) (fun ⟨j, zs⟩ => j) (i, ys) ?_ ?_ ?_
      · exact .cons rfl (.cons rfl (.cons rfl (.cons rfl (.cons rfl (.cons rfl (.nil _))))))
      · exact ⟨by omega, Nat.le_refl _, hyl, rfl, Ll0, Nat.le_refl _, f0_0⟩
      · rintro ⟨j, zs⟩ wl1 ⟨hj1, hj2, hzl, hG, Ll1, zl1, f1_0⟩
        refine WC.seq ?_
        refine WC.seq ?_
        refine WC.draw [0, 1, 2, 3, 4, 5, 6, 7, 8, 9, 10, 11, 12, 13, 14, 15, 16] mixed (by kernel_rfl) ?_
        intro w4 d4
        have L1 := Ll1.trans (d4.ch _)
        refine G.any rfl rfl (.move rfl) rfl rfl rfl ?_
        refine G.any rfl rfl (.move rfl) rfl rfl rfl ?_
        refine G.any rfl rfl (.gtr rfl rfl) rfl rfl rfl ?_
        by_cases q4_3 : ((a : Nat) : Int) < ((j : Nat) : Int)
        · refine G.any rfl rfl (.dec (.move rfl) (decide_eq_true q4_3)) rfl rfl rfl ?_
          refine G.anyg rfl rfl (.move rfl) rfl rfl rfl (rfl) rfl rfl ?_
          refine G.anyg rfl rfl (.move rfl) rfl rfl rfl (rfl) rfl rfl ?_
          refine G.anyg rfl rfl (.move rfl) rfl rfl rfl (rfl) rfl rfl ?_
          refine G.anyg rfl rfl (.idxS (j) Tryz.underlying44 sz36 rfl rfl (hO.vec.isSome edgeV_row (by omega)) (rfl) (by omega)) rfl rfl rfl (rfl) rfl rfl ?_
          have f2 := (f1_0.le d4)
          refine G.rdg rfl rfl (.vload ag36 rfl f2.vec edgeV_row (getS zs noEdge (by first | omega | (simp only [List.length_cons, List.length_nil]; omega)))) rfl rfl rfl (rfl) rfl rfl ?_
          refine G.anyg rfl rfl (.move rfl) rfl rfl rfl (rfl) rfl rfl ?_
          refine G.anyg rfl rfl (.move rfl) rfl rfl rfl (rfl) rfl rfl ?_
          refine G.anyg rfl rfl (.sub rfl rfl (by omega)) rfl rfl rfl (rfl) rfl rfl ?_
          refine G.anyg rfl rfl (.idxS ((j - 1)) Tryz.underlying44 sz36 rfl rfl (hO.vec.isSome edgeV_row (by omega)) (by omega) (by omega)) rfl rfl rfl (rfl) rfl rfl ?_
          refine G.rdg rfl rfl (.vload ag36 rfl f2.vec edgeV_row (getS zs noEdge (by first | omega | (simp only [List.length_cons, List.length_nil]; omega)))) rfl rfl rfl (rfl) rfl rfl ?_
          refine G.efg rfl rfl rfl rfl rfl (rfl) rfl rfl ?_
          refine Ef.call go37 rfl rfl (order_ok (zs.getD j noEdge) (zs.getD (j - 1) noEdge) w4) ?_
          rintro _ w4_14 ⟨rfl, h4_14⟩
          refine ⟨_, rfl, ?_⟩
          refine ⟨fun _ => h4_14, ?_⟩
          have L3 := L1.trans (h4_14.ch _)
          refine G.anyg rfl rfl (.lss rfl rfl) rfl rfl rfl (rfl) rfl rfl ?_
          refine G.any rfl rfl (.pickT rfl rfl rfl) rfl rfl rfl ?_
          refine G.nil ?_
          refine E.thenN ?_
          by_cases c1 : (ordE (zs.getD j noEdge) (zs.getD (j - 1) noEdge)) < 0
          · refine WC.condY rfl (decide_eq_true c1) ?_
            refine WC.skip ?_
            refine E.thenN ?_
            refine WC.seq ?_
            refine WC.block ?_
            refine WC.draw [0, 1, 2, 3, 4, 5, 6, 7, 8, 9, 10, 11, 12, 13, 14, 15, 16, 17] mixed (by kernel_rfl) ?_
            intro w6 d6
            have L4 := L3.trans (d6.ch _)
            refine G.any rfl rfl (.move rfl) rfl rfl rfl ?_
            refine G.any rfl rfl (.move rfl) rfl rfl rfl ?_
            refine G.any rfl rfl (.move rfl) rfl rfl rfl ?_
            refine G.any rfl rfl (.move rfl) rfl rfl rfl ?_
            refine G.any rfl rfl (.sub rfl rfl (by omega)) rfl rfl rfl ?_
            refine G.any rfl rfl (.move rfl) rfl rfl rfl ?_
            refine G.any rfl rfl (.move rfl) rfl rfl rfl ?_
            refine G.any rfl rfl (.sub rfl rfl (by omega)) rfl rfl rfl ?_
            refine G.any rfl rfl (.idxS ((j - 1)) Tryz.underlying44 sz36 rfl rfl (hO.vec.isSome edgeV_row (by omega)) (by omega) (by omega)) rfl rfl rfl ?_
            have f5 := (f2.le (h4_14.trans d6))
            refine G.rd rfl rfl (.vload ag36 rfl f5.vec edgeV_row (getS zs noEdge (by first | omega | (simp only [List.length_cons, List.length_nil]; omega)))) rfl rfl rfl ?_
            refine G.any rfl rfl (.move rfl) rfl rfl rfl ?_
            refine G.any rfl rfl (.move rfl) rfl rfl rfl ?_
            refine G.any rfl rfl (.idxS (j) Tryz.underlying44 sz36 rfl rfl (hO.vec.isSome edgeV_row (by omega)) (rfl) (by omega)) rfl rfl rfl ?_
            refine G.rd rfl rfl (.vload ag36 rfl f5.vec edgeV_row (getS zs noEdge (by first | omega | (simp only [List.length_cons, List.length_nil]; omega)))) rfl rfl rfl ?_
            refine G.any rfl rfl (.idxS (j) Tryz.underlying44 sz36 rfl rfl (hO.vec.isSome edgeV_row (by omega)) (rfl) (by omega)) rfl rfl rfl ?_
            refine G.ef0 rfl rfl rfl rfl ?_
            refine Ef.vput (j := j) (zs.getD (j - 1) noEdge) sz36 rfl rfl rfl f5 edgeV_row (by omega) ?_
            intro w6_15 o6_15 h6_15
            refine ⟨fun h => absurd h (ne_true_of_eq_false (by kernel_rfl)), ?_⟩
            have L6 := L4.trans h6_15
            refine G.any rfl rfl (.idxS ((j - 1)) Tryz.underlying44 sz36 rfl rfl (hO.vec.isSome edgeV_row (by omega)) (by omega) (by omega)) rfl rfl rfl ?_
            refine G.ef0 rfl rfl rfl rfl ?_
            refine Ef.vput (j := (j - 1)) (zs.getD j noEdge) sz36 rfl rfl rfl o6_15 edgeV_row (by omega) ?_
            intro w6_17 o6_17 h6_17
            refine ⟨fun h => absurd h (ne_true_of_eq_false (by kernel_rfl)), ?_⟩
            have L7 := L6.trans h6_17
            refine G.nil ?_
            refine E.blkN ?_
            refine E.thenN ?_
            refine WC.region ?_
            refine W.any (.move rfl) rfl rfl rfl ?_
            refine W.any (.sub rfl rfl (by omega)) rfl rfl rfl ?_
            refine W.any (.assign rfl) rfl rfl rfl ?_
            refine W.nil ?_
            refine E.again (j - 1, ((zs.set j (zs.getD (j - 1) noEdge)).set (j - 1) (zs.getD j noEdge))) (.cons rfl (.cons rfl (.cons rfl (.cons rfl (.cons rfl (.cons' rfl (int_eq (by omega)) (.nil _))))))) ?_ ?_
            · exact ⟨by omega, by omega, by simp [hzl], by rw [← bub_down (by omega) (by assumption)]; exact hG, L7, by have := zl1; have := d4.size; have := h4_14.size; have := d6.size; have := h6_15.size; have := h6_17.size; omega, o6_17⟩
            · first | omega | (simp only []; omega)
          · refine WC.condN rfl (decide_eq_false c1) ?_
            refine WC.exit ?_
            refine E.thenX ?_
            refine E.thenX ?_
            refine E.blkH ?_
            refine E.blkN ?_
            refine E.thenN ?_
            refine WC.region ?_
            refine W.any (.move rfl) rfl rfl rfl ?_
            refine W.any (.add rfl rfl (by omega)) rfl rfl rfl ?_
            refine W.any (.assign rfl) rfl rfl rfl ?_
            refine W.nil ?_
            have f8 := (f2.le h4_14)
            refine E.again (i + 1, zs) (.cons rfl (.cons rfl (.cons rfl (.cons rfl (.cons rfl (.nil _)))))) ?_ ?_
            · exact ⟨by omega, hzl, by have hG2 := hG; rw [bub_stop (xs := zs) (by intro h; omega)] at hG2; rw [← hF, isoC_step (xs := ys) (by omega), ← hG2], L3, by have := zl0; have := d4.size; have := h4_14.size; have := zl1; omega, f8⟩
            · first | omega | (simp only []; omega)
        · refine G.any rfl rfl (.dec (.move rfl) (decide_eq_false q4_3)) rfl rfl rfl ?_
          refine G.skip rfl rfl rfl rfl (rfl) rfl rfl ?_
          refine G.skip rfl rfl rfl rfl (rfl) rfl rfl ?_
          refine G.skip rfl rfl rfl rfl (rfl) rfl rfl ?_
          refine G.skip rfl rfl rfl rfl (rfl) rfl rfl ?_
          refine G.skip rfl rfl rfl rfl (rfl) rfl rfl ?_
          refine G.skip rfl rfl rfl rfl (rfl) rfl rfl ?_
          refine G.skip rfl rfl rfl rfl (rfl) rfl rfl ?_
          refine G.skip rfl rfl rfl rfl (rfl) rfl rfl ?_
          refine G.skip rfl rfl rfl rfl (rfl) rfl rfl ?_
          refine G.skip rfl rfl rfl rfl (rfl) rfl rfl ?_
          refine G.skip rfl rfl rfl rfl (rfl) rfl rfl ?_
          refine G.skip rfl rfl rfl rfl (rfl) rfl rfl ?_
          refine G.any rfl rfl (.pickF rfl rfl rfl) rfl rfl rfl ?_
          refine G.nil ?_
          refine E.thenN ?_
          refine WC.condF rfl ?_
          refine WC.exit ?_
          refine E.thenX ?_
          refine E.thenX ?_
          refine E.blkH ?_
          refine E.blkN ?_
          refine E.thenN ?_
          refine WC.region ?_
          refine W.any (.move rfl) rfl rfl rfl ?_
          refine W.any (.add rfl rfl (by omega)) rfl rfl rfl ?_
          refine W.any (.assign rfl) rfl rfl rfl ?_
          refine W.nil ?_
          have f9 := (f1_0.le d4)
          refine E.again (i + 1, zs) (.cons rfl (.cons rfl (.cons rfl (.cons rfl (.cons rfl (.nil _)))))) ?_ ?_
          · exact ⟨by omega, hzl, by have hG2 := hG; rw [bub_stop (xs := zs) (by intro h; omega)] at hG2; rw [← hF, isoC_step (xs := ys) (by omega), ← hG2], L1, by have := zl0; have := d4.size; have := zl1; omega, f9⟩
          · first | omega | (simp only []; omega)
    · refine WC.condN rfl (decide_eq_false c0) ?_
      refine WC.exit ?_
      refine E.thenX ?_
      refine E.thenX ?_
      refine E.blkH ?_
      refine E.end_ ?_
      refine E.ret0 rfl ?_
      exact ⟨rfl, f0_0.cast rfl (by rw [← hF, isoC_end (by omega)]), Ll0⟩

theorem stable20_ok {base : Nat} {A : Option Addr} {n c : Nat} {xs : List Gsp.Edge} (w : World) (hO : OVec w base 36 edgeV 9 A n c xs) (hn : n < 20) : Calls Tryz.prog 72 #[.slice A n c, .int .i64 (((n : Nat) : Int)), .func (.func 37) #[] #[]] w fun r w' => r = .returned (.tuple #[]) ∧ OVec w' base 36 edgeV 9 A n c (isort 0 n xs) ∧ Ch w w' (rowOf A c) := by
  have hl := hO.1
  refine enter Tryz.func72 rfl rfl ?_
  have L0 := Ch.refl w (rowOf A c)
  refine WC.seq ?_
  refine WC.region ?_
  refine W.any (.assign rfl) rfl rfl rfl ?_
  refine W.nil ?_
  refine E.thenN ?_
  refine WC.seq ?_
  refine WC.region ?_
  refine W.any (.move rfl) rfl rfl rfl ?_
  refine W.any (.assign rfl) rfl rfl rfl ?_
  refine W.any (.assign rfl) rfl rfl rfl ?_
  refine W.nil ?_
  refine E.thenN ?_
  refine WC.seq ?_
  refine WC.block ?_
  refine WC.loop (ι := Unit) (fun u => [(0, .slice A n c), (1, .int .i64 (((n : Nat) : Int))), (2, .func (.func 37) #[] #[]), (6, .int .i64 (20)), (7, .int .i64 (0)), (8, .int .i64 (20))]) (fun u wl0 => Ch w wl0 (rowOf A c) ∧ w.heap.size ≤ wl0.heap.size ∧ OVec wl0 base 36 edgeV 9 A n c xs) (fun u => 0) () ?_ ?_ ?_
  · exact .cons rfl (.cons rfl (.cons rfl (.cons rfl (.cons rfl (.cons rfl (.nil _))))))
  · exact ⟨L0, Nat.le_refl _, hO⟩
  · rintro u wl0 ⟨Ll0, zl0, f0_0⟩
    refine WC.seq ?_
    refine WC.seq ?_
    refine WC.region ?_
    refine W.any (.move rfl) rfl rfl rfl ?_
    refine W.any (.move rfl) rfl rfl rfl ?_
    refine W.any (.leq rfl rfl) rfl rfl rfl ?_
    refine W.nil ?_
    refine E.thenN ?_
    refine WC.condN rfl (decide_eq_false (by omega)) ?_
    refine WC.exit ?_
    refine E.thenX ?_
    refine E.thenX ?_
    refine E.blkH ?_
    refine E.thenN ?_
    refine WC.seq ?_
    refine WC.region ?_
    refine W.any (.move rfl) rfl rfl rfl ?_
    refine W.any (.move rfl) rfl rfl rfl ?_
    refine W.any (.move rfl) rfl rfl rfl ?_
    refine W.any (.move rfl) rfl rfl rfl ?_
    refine W.ef rfl rfl rfl ?_
    refine Ef.call go91 rfl rfl (insort_ok 0 n wl0 f0_0 (by omega) (by omega) (by omega)) ?_
    rintro _ w6_4 ⟨rfl, o6_4, h6_4⟩
    refine ⟨_, rfl, ?_⟩
    have L1 := Ll0.trans h6_4
    refine W.nil ?_
    refine E.thenN ?_
    refine WC.block ?_
    refine WC.loop (ι := Unit) (fun u => [(0, .slice A n c), (1, .int .i64 (((n : Nat) : Int))), (2, .func (.func 37) #[] #[]), (6, .int .i64 (20))]) (fun u wl1 => Ch w wl1 (rowOf A c) ∧ w6_4.heap.size ≤ wl1.heap.size ∧ OVec wl1 base 36 edgeV 9 A n c (isort 0 n xs)) (fun u => 0) () ?_ ?_ ?_
    · exact .cons rfl (.cons rfl (.cons rfl (.cons rfl (.nil _))))
    · exact ⟨L1, Nat.le_refl _, o6_4⟩
    · rintro u wl1 ⟨Ll1, zl1, f1_0⟩
      refine WC.seq ?_
      refine WC.seq ?_
      refine WC.region ?_
      refine W.any (.move rfl) rfl rfl rfl ?_
      refine W.any (.move rfl) rfl rfl rfl ?_
      refine W.any (.lss rfl rfl) rfl rfl rfl ?_
      refine W.nil ?_
      refine E.thenN ?_
      refine WC.condN rfl (decide_eq_false (by omega)) ?_
      refine WC.exit ?_
      refine E.thenX ?_
      refine E.thenX ?_
      refine E.blkH ?_
      refine E.end_ ?_
      refine E.ret0 rfl ?_
      exact ⟨rfl, f1_0, Ll1⟩

theorem sort20_ok {base : Nat} {A : Option Addr} {n c : Nat} {xs : List Gsp.Edge} (w : World) (hO : OVec w base 36 edgeV 9 A n c xs) (hn : n < 20) : Calls Tryz.prog 39 #[.slice A n c, .func (.func 37) #[] #[]] w fun r w' => r = .returned (.tuple #[]) ∧ OVec w' base 36 edgeV 9 A n c (isort 0 n xs) ∧ Ch w w' (rowOf A c) := by
  refine enter Tryz.func39 rfl rfl ?_
  have L0 := Ch.refl w (rowOf A c)
  refine WC.region ?_
  refine W.any (.move rfl) rfl rfl rfl ?_
  refine W.any (.move rfl) rfl rfl rfl ?_
  refine W.rd (.len Tryz.underlying44 rfl) rfl rfl rfl ?_
  refine W.any (.move rfl) rfl rfl rfl ?_
  refine W.ef rfl rfl rfl ?_
  refine Ef.call go72 rfl rfl (stable20_ok w hO (by omega)) ?_
  rintro _ w0_4 ⟨rfl, o0_4, h0_4⟩
  refine ⟨_, rfl, ?_⟩
  have L1 := L0.trans h0_4
  refine W.nil ?_
  refine E.end_ ?_
  refine E.ret0 rfl ?_
  exact ⟨rfl, o0_4, L1⟩

theorem of20_ok {A : Option Addr} {n c : Nat} {xs : List Gsp.Edge} (w : World) (hV : Vec w edgeV 9 A n xs) (hn : n < 20) : Calls Tryz.prog 12 #[.slice A n c] w fun r w' => ∃ A' c', r = .returned (.slice A' (isort 0 (xs.filter edgeOk).length (xs.filter edgeOk)).length c') ∧ OVec w' w.heap.size 36 edgeV 9 A' (isort 0 (xs.filter edgeOk).length (xs.filter edgeOk)).length c' (isort 0 (xs.filter edgeOk).length (xs.filter edgeOk)) ∧ Le w w' := by
  have hl := hV.1
  have hfl := List.length_filter_le edgeOk xs
  refine enter Tryz.func12 rfl rfl ?_
  have L0 := Le.refl w
  refine WC.seq ?_
  refine WC.region ?_
  refine W.any (.assign rfl) rfl rfl rfl ?_
  refine W.nil ?_
  refine E.thenN ?_
  refine WC.seq ?_
  refine WC.region ?_
  refine W.any (.move rfl) rfl rfl rfl ?_
  refine W.ef rfl rfl rfl ?_
  refine Ef.call go38 rfl rfl (those_ok edgeOk go36 w (hV.le L0) (by omega) (fun e w1 _ => edge_ok e w1)) ?_
  rintro _ w1_1 ⟨At1_1, ct1_1, rfl, ot1_1, h1_1⟩
  refine ⟨_, rfl, ?_⟩
  have L2 := L0.trans h1_1
  refine W.any (.assign rfl) rfl rfl rfl ?_
  refine W.nil ?_
  refine E.thenN ?_
  refine WC.seq ?_
  refine WC.region ?_
  refine W.any (.move rfl) rfl rfl rfl ?_
  refine W.ef rfl rfl rfl ?_
  refine Ef.call go39 rfl rfl (sort20_ok w1_1 ot1_1 (by omega)) ?_
  rintro _ w2_1 ⟨rfl, o2_1, h2_1⟩
  refine ⟨_, rfl, ?_⟩
  have L3 : Le w w2_1 := L2.then_ h2_1 (fun q hq => Nat.le_trans L0.size (ot1_1.row hq).1)
  refine W.nil ?_
  refine E.thenN ?_
  refine WC.seq ?_
  refine WC.region ?_
  refine W.any (.move rfl) rfl rfl rfl ?_
  refine W.any (.assign rfl) rfl rfl rfl ?_
  refine W.nil ?_
  refine E.thenN ?_
  refine WC.ret ?_
  refine E.retG1 rfl rfl ?_
  exact ⟨_, _, by rw [isort_length], ((o2_1.mono L0.size)).cast (by rw [isort_length]) rfl, L3⟩
end Go.Proofs.YtgpdfkplkaojcaaGreat

namespace Go.Proofs.YtgpdfkplkaojcaaGreat
open Go Go.Sx Go.Hsp Go.Num Go.Osp Go.Gsp
set_option maxRecDepth 20000
set_option linter.unusedSimpArgs false
set_option linter.unusedVariables false
theorem cost_ok (a x : Int) {A : Option Addr} {n c : Nat} {xs : List Gsp.Edge} (w : World) (hV : Vec w edgeV 9 A n xs) (hn : n ≤ 1000000) : Calls Tryz.prog 16 #[.slice A n c, .int .i64 (a), .int .i64 (x)] w fun r w' => ∃ A1 c1 A2 c2, r = .returned (.tuple #[.slice A1 (costG xs a x).1.length c1, .slice A2 (costG xs a x).2.1.length c2, .int .i64 (costG xs a x).2.2]) ∧ OVec w' w.heap.size 3 iv 1 A1 (costG xs a x).1.length c1 (costG xs a x).1 ∧ OVec w' w.heap.size 3 iv 1 A2 (costG xs a x).2.1.length c2 (costG xs a x).2.1 ∧ Le w w' := by
  have hl := hV.1
  refine enter Tryz.func16 rfl rfl ?_
  have L0 := Le.refl w
  refine WC.seq ?_
  refine WC.region ?_
  refine W.any (.assign rfl) rfl rfl rfl ?_
  refine W.any (.assign rfl) rfl rfl rfl ?_
  refine W.any (.assign rfl) rfl rfl rfl ?_
  refine W.nil ?_
  refine E.thenN ?_
  refine WC.seq ?_
  refine WC.seq ?_
  refine WC.region ?_
  refine W.any (.move rfl) rfl rfl rfl ?_
  refine W.ef rfl rfl rfl ?_
  refine Ef.call go23 rfl rfl (gway_ok w (hV.le L0) (by omega)) ?_
  rintro _ w1_1 ⟨rfl, h1_1⟩
  refine ⟨_, rfl, ?_⟩
  have L1 := L0.trans h1_1
  refine W.any (.not rfl) rfl rfl rfl ?_
  refine W.nil ?_
  refine E.thenN ?_
  by_cases c0 : (wayG xs) = true
  · refine WC.condN rfl (congrArg not (c0)) ?_
    refine WC.skip ?_
    refine E.thenN ?_
    refine WC.seq ?_
    refine WC.seq ?_
    refine WC.region ?_
    refine W.any (.move rfl) rfl rfl rfl ?_
    refine W.ef rfl rfl rfl ?_
    refine Ef.call go43 rfl rfl (gin_ok a 1 1125899906842624 w1_1) ?_
    rintro _ w3_1 ⟨rfl, h3_1⟩
    refine ⟨_, rfl, ?_⟩
    have L2 := L1.trans h3_1
    refine W.any (.not rfl) rfl rfl rfl ?_
    by_cases q3_3 : (inB a 1 1125899906842624) = true
    · refine W.any (.dec (.move rfl) (congrArg not (q3_3))) rfl rfl rfl ?_
      refine W.rdg (Any.rd (.move rfl) _) rfl rfl rfl (rfl) rfl rfl ?_
      refine W.efg rfl rfl rfl (rfl) rfl rfl ?_
      refine Ef.call go43 rfl rfl (gin_ok x 1 1048576 w3_1) ?_
      rintro _ w3_5 ⟨rfl, h3_5⟩
      refine ⟨_, rfl, ?_⟩
      have L3 := L2.trans h3_5
      refine W.rdg (Any.rd (.not rfl) _) rfl rfl rfl (rfl) rfl rfl ?_
      refine W.any (.pickF rfl rfl rfl) rfl rfl rfl ?_
      refine W.nil ?_
      refine E.thenN ?_
      by_cases c1 : (inB x 1 1048576) = true
      · refine WC.condN rfl (congrArg not (c1)) ?_
        have hwl := wayG_len (by assumption : wayG xs = true)
        have ha1 := inB_T (by assumption : inB a 1 1125899906842624 = true)
        have hx1 := inB_T (by assumption : inB x 1 1048576 = true)
        refine WC.skip ?_
        refine E.thenN ?_
        refine WC.cut (ι := Nat × Nat) (fun ⟨g1, g2⟩ => [(0, .slice A n c), (1, .int .i64 (a)), (2, .int .i64 (x)), (9, .slice (some ⟨g1, 0, none⟩) n n), (10, .slice (some ⟨g2, 0, none⟩) n n)]) (fun ⟨g1, g2⟩ wc6 => Le w wc6 ∧ w3_5.heap.size ≤ wc6.heap.size ∧ OVec wc6 w3_5.heap.size 3 iv 1 (some ⟨g1, 0, none⟩) n n (List.replicate n 0) ∧ OVec wc6 w3_5.heap.size 3 iv 1 (some ⟨g2, 0, none⟩) n n (List.replicate n 0) ∧ Apart (some ⟨g1, 0, none⟩) n (some ⟨g2, 0, none⟩) n) ?_ ?_
        · refine WC.drawT (fun o => (app o [0, 1, 3, 4] (.br (app o [2, 6, 5, 7] .nil) (app o [5, 2, 6, 7] .nil)))) mixed (by kernel_rfl) ?_
          intro w5 d5
          have L4 := L3.trans d5
          refine GT.app ?_
          refine G.any rfl rfl (.move rfl) rfl rfl rfl ?_
          refine G.rd rfl rfl (.len Tryz.underlying44 rfl) rfl rfl rfl ?_
          refine G.any rfl rfl (.move rfl) rfl rfl rfl ?_
          refine G.rd rfl rfl (.len Tryz.underlying44 rfl) rfl rfl rfl ?_
          refine G.nil ?_
          refine GT.br ?_ ?_
          · refine GT.last ?_
            refine G.ef rfl rfl rfl rfl rfl ?_
            refine Ef.vmake 0 n Tryz.underlying23 el3 iv_row rfl rfl (rfl) rfl (rfl) (by omega) (by unfold maxLen; omega) ?_
            intro g5_2 w5_2 hg5_2 o5_2 h5_2
            refine ⟨fun _ => h5_2, ?_⟩
            have L5 := L4.trans h5_2
            refine G.any rfl rfl (.assign rfl) rfl rfl rfl ?_
            refine G.ef rfl rfl rfl rfl rfl ?_
            refine Ef.vmake 0 n Tryz.underlying23 el3 iv_row rfl rfl (rfl) rfl (rfl) (by omega) (by unfold maxLen; omega) ?_
            intro g5_5 w5_5 hg5_5 o5_5 h5_5
            refine ⟨fun _ => h5_5, ?_⟩
            have L6 := L5.trans h5_5
            refine G.any rfl rfl (.assign rfl) rfl rfl rfl ?_
            refine G.nil ?_
            have f7 := (o5_2.le h5_5)
            refine E.meet (g5_2, g5_5) (.cons rfl (.cons rfl (.cons rfl (.cons rfl (.cons rfl (.nil _)))))) ?_
            exact ⟨L6, by have := d5.size; have := h5_2.size; have := h5_5.size; omega, (f7.mono (by have := d5.size; omega)), (o5_5.mono (by have := d5.size; have := h5_2.size; omega)), (fun q h1 h2 => by have := (o5_2.row h1).2; have := (o5_5.row h2).1; omega)⟩
          · refine GT.last ?_
            refine G.ef rfl rfl rfl rfl rfl ?_
            refine Ef.vmake 0 n Tryz.underlying23 el3 iv_row rfl rfl (rfl) rfl (rfl) (by omega) (by unfold maxLen; omega) ?_
            intro g5_5_1 w5_5_1 hg5_5_1 o5_5_1 h5_5_1
            refine ⟨fun _ => h5_5_1, ?_⟩
            have L8 := L4.trans h5_5_1
            refine G.ef rfl rfl rfl rfl rfl ?_
            refine Ef.vmake 0 n Tryz.underlying23 el3 iv_row rfl rfl (rfl) rfl (rfl) (by omega) (by unfold maxLen; omega) ?_
            intro g5_2_1 w5_2_1 hg5_2_1 o5_2_1 h5_2_1
            refine ⟨fun _ => h5_2_1, ?_⟩
            have L9 := L8.trans h5_2_1
            refine G.any rfl rfl (.assign rfl) rfl rfl rfl ?_
            refine G.any rfl rfl (.assign rfl) rfl rfl rfl ?_
            refine G.nil ?_
            have f10 := (o5_5_1.le h5_2_1)
            refine E.meet (g5_2_1, g5_5_1) (.cons rfl (.cons rfl (.cons rfl (.cons rfl (.cons rfl (.nil _)))))) ?_
            exact ⟨L9, by have := d5.size; have := h5_5_1.size; have := h5_2_1.size; omega, (o5_2_1.mono (by have := d5.size; have := h5_5_1.size; omega)), (f10.mono (by have := d5.size; omega)), (Apart.symm (fun q h1 h2 => by have := (o5_5_1.row h1).2; have := (o5_2_1.row h2).1; omega))⟩
        · rintro ⟨g1, g2⟩ wc6 ⟨Lc1, sc1, o1_9, o1_10, ap1_9_10⟩
          have lc1_2 : w3_5.heap.size ≤ wc6.heap.size := by have := sc1; omega
          have lc1_3 : w3_5.heap.size ≤ wc6.heap.size := by have := sc1; omega
          refine WC.seq ?_
          refine WC.seq ?_
          refine WC.region ?_
          refine W.any (.move rfl) rfl rfl rfl ?_
          refine W.rd (.len Tryz.underlying44 rfl) rfl rfl rfl ?_
          refine W.any (.sub rfl rfl (by omega)) rfl rfl rfl ?_
          refine W.any (.assign rfl) rfl rfl rfl ?_
          refine W.nil ?_
          refine E.thenN ?_
          refine WC.block ?_
          refine WC.loop (ι := Nat × Int × Int × (Option (Int × Int)) × (List (Int × Int))) (fun ⟨j, am, ex, nx, l⟩ => [(0, .slice A n c), (1, .int .i64 (am)), (2, .int .i64 (ex)), (9, .slice (some ⟨g1, 0, none⟩) n n), (10, .slice (some ⟨g2, 0, none⟩) n n), (11, .int .i64 (((j : Nat) : Int) - 1))]) (fun ⟨j, am, ex, nx, l⟩ wl0 => (j ≤ n) ∧ (l.length = n - j) ∧ (costF a x (xs.drop j) = .ok (nx, l)) ∧ (0 < j → nx = some (am, ex) ∧ 0 ≤ am ∧ am ≤ 1125899906842624 ∧ 0 ≤ ex ∧ ex ≤ 2097152) ∧ Le w wl0 ∧ wc6.heap.size ≤ wl0.heap.size ∧ OVec wl0 w3_5.heap.size 3 iv 1 (some ⟨g1, 0, none⟩) n n (List.replicate j 0 ++ l.map Prod.fst) ∧ OVec wl0 w3_5.heap.size 3 iv 1 (some ⟨g2, 0, none⟩) n n (List.replicate j 0 ++ l.map Prod.snd)) (fun ⟨j, am, ex, nx, l⟩ => j) (n, a, x, some (a, x), []) ?_ ?_ ?_
          · exact .cons rfl (.cons rfl (.cons rfl (.cons rfl (.cons rfl (.cons rfl (.nil _))))))
          · exact ⟨Nat.le_refl _, by simp, by rw [List.drop_of_length_le (by omega)]; rfl, fun _ => ⟨rfl, by omega, by omega, by omega, by omega⟩, Lc1, Nat.le_refl _, (o1_9).cast rfl (by simp), (o1_10).cast rfl (by simp)⟩
          · rintro ⟨j, am, ex, nx, l⟩ wl0 ⟨hj, hll, hF, hnx, Ll0, zl0, f0_0, f0_1⟩
            have lb0_2 : w3_5.heap.size ≤ wl0.heap.size := Nat.le_trans lc1_3 (by omega)
            have lb0_3 : w3_5.heap.size ≤ wl0.heap.size := Nat.le_trans lc1_3 (by omega)
            refine WC.seq ?_
            refine WC.seq ?_
            refine WC.region ?_
            refine W.any (.move rfl) rfl rfl rfl ?_
            refine W.any (.geq rfl rfl) rfl rfl rfl ?_
            refine W.nil ?_
            refine E.thenN ?_
            by_cases c2 : 0 ≤ (((j : Nat) : Int) - 1)
            · refine WC.condY rfl (decide_eq_true c2) ?_
              obtain ⟨rfl, ham0, ham1, hex0, hex1⟩ := hnx (by omega)
              have hok := edgeOk_T (wayG_at (by assumption : wayG xs = true) (i := j - 1) (by omega)).1
              have hpk := polOk_T hok.2.2.2.2.2
              have hpI := polI_ok hok.2.2.2.2.2
              refine WC.skip ?_
              refine E.thenN ?_
              refine WC.seq ?_
              refine WC.block ?_
              refine WC.seq ?_
              refine WC.region ?_
              refine W.any (.move rfl) rfl rfl rfl ?_
              refine W.any (.move rfl) rfl rfl rfl ?_
              refine W.any (.idxS ((j - 1)) Tryz.underlying44 sz36 rfl rfl (hV.isSome edgeV_row (by omega)) (by omega) (by omega)) rfl rfl rfl ?_
              refine W.rd (.vload ag36 rfl (hV.le Ll0) edgeV_row (getS xs noEdge (by first | omega | (simp only [List.length_cons, List.length_nil]; omega)))) rfl rfl rfl ?_
              refine W.ef rfl rfl rfl ?_
              refine Ef.allocA z36 ?_
              intro g9_4 w9_4 hg9_4 b9_4 h9_4
              have L11 := Ll0.trans h9_4
              have b9_4 : Blk w9_4 g9_4 36 (edgeV noEdge).toArray := b9_4
              refine W.ef0 rfl rfl ?_
              refine Ef.storeAll sz36 (by rfl) rfl rfl b9_4 (by simp only [List.size_toArray, edgeV_row.len]) (edgeV_row.one (xs.getD (j - 1) noEdge)) ?_
              intro w9_5 b9_5 h9_5
              have b9_5 : Blk w9_5 g9_4 36 (edgeV (xs.getD (j - 1) noEdge)).toArray := b9_5
              have L12 : Le w w9_5 := L11.then_ h9_5 (fun q hq => by cases hq; exact Nat.le_trans Ll0.size hg9_4)
              refine W.nil ?_
              refine E.thenN ?_
              refine WC.seq ?_
              refine WC.block ?_
              refine WC.seq ?_
              refine WC.region ?_
              refine W.any (.move rfl) rfl rfl rfl ?_
              refine W.any (.field0 fa36_4 rfl) rfl rfl rfl ?_
              refine W.any (.field2 fa34_3 rfl) rfl rfl rfl ?_
              refine W.rd (.loadB (v := .int .i64 ((xs.getD (j - 1) noEdge).pol.l)) na3 rfl b9_5 rfl) rfl rfl rfl ?_
              refine W.any (.field0 fa36_4 rfl) rfl rfl rfl ?_
              refine W.any (.field2 fa34_4 rfl) rfl rfl rfl ?_
              refine W.rd (.loadB (v := .int .i64 ((xs.getD (j - 1) noEdge).pol.m)) na3 rfl b9_5 rfl) rfl rfl rfl ?_
              refine W.any (.field0 fa36_3 rfl) rfl rfl rfl ?_
              refine W.rd (.loadB (v := .int .i64 ((xs.getD (j - 1) noEdge).r)) na3 rfl b9_5 rfl) rfl rfl rfl ?_
              refine W.rd (.min2 rfl rfl) rfl rfl rfl ?_
              refine W.ef rfl rfl rfl ?_
              refine Ef.call go43 rfl rfl (gin_ok am ((xs.getD (j - 1) noEdge).pol.l) (min ((xs.getD (j - 1) noEdge).pol.m) ((xs.getD (j - 1) noEdge).r)) w9_5) ?_
              rintro _ w10_10 ⟨rfl, h10_10⟩
              refine ⟨_, rfl, ?_⟩
              have L13 := L12.trans h10_10
              refine W.any (.not rfl) rfl rfl rfl ?_
              refine W.any (.assign rfl) rfl rfl rfl ?_
              refine W.nil ?_
              refine E.thenN ?_
              by_cases c3 : (inB am ((xs.getD (j - 1) noEdge).pol.l) (min ((xs.getD (j - 1) noEdge).pol.m) ((xs.getD (j - 1) noEdge).r))) = true
              · refine WC.condN rfl (congrArg not (c3)) ?_
                refine WC.seq ?_
                refine WC.region ?_
                refine W.any (.move rfl) rfl rfl rfl ?_
                refine W.any (.gtr rfl rfl) rfl rfl rfl ?_
                refine W.any (.assign rfl) rfl rfl rfl ?_
                refine W.nil ?_
                refine E.thenN ?_
                by_cases c4 : 1048576 < ex
                · refine WC.condY rfl (decide_eq_true c4) ?_
                  refine WC.seq ?_
                  refine WC.region ?_
                  refine W.any (.assign rfl) rfl rfl rfl ?_
                  refine W.any (.assign rfl) rfl rfl rfl ?_
                  refine W.any (.assign rfl) rfl rfl rfl ?_
                  refine W.nil ?_
                  refine E.thenN ?_
                  refine WC.ret ?_
                  refine E.blkR ?_
                  refine E.thenR ?_
                  refine E.blkR ?_
                  refine E.thenR ?_
                  refine E.thenR ?_
                  refine E.blkR ?_
                  refine E.thenR ?_
                  refine E.retG3 rfl rfl rfl rfl ?_
                  have hc : costG xs a x = ([], [], 16) := costG_er (by assumption) (by assumption) (by assumption) (costF_late (by omega) (by omega) hF (by assumption) (by omega))
                  exact ⟨none, 0, none, 0, by rw [hc]; rfl, by rw [hc]; exact OVec.nil _ _ _ _ _ _, by rw [hc]; exact OVec.nil _ _ _ _ _ _, L13⟩
                · refine WC.condN rfl (decide_eq_false c4) ?_
                  refine WC.skip ?_
                  refine E.blkN ?_
                  refine E.thenN ?_
                  refine WC.seq ?_
                  refine WC.region ?_
                  refine W.any (.move rfl) rfl rfl rfl ?_
                  refine W.any (.move rfl) rfl rfl rfl ?_
                  refine W.any (.move rfl) rfl rfl rfl ?_
                  refine W.any (.move rfl) rfl rfl rfl ?_
                  refine W.any (.move rfl) rfl rfl rfl ?_
                  refine W.any (.move rfl) rfl rfl rfl ?_
                  refine W.any (.idxS ((j - 1)) Tryz.underlying23 sz3 rfl rfl (o1_9.vec.isSome iv_row (by omega)) (by omega) (by omega)) rfl rfl rfl ?_
                  have f14 := (((f0_0.le h9_4).ch h9_5 (fun q hq => by cases hq; exact (fun he => by have := (f0_0.row he).2; omega))).le h10_10)
                  refine W.ef0 rfl rfl ?_
                  refine Ef.vset (j := (j - 1)) (o := 0) am sz3 rfl (by omega) rfl f14 iv_row (getS (List.replicate j 0 ++ l.map Prod.fst) 0 (by simp; omega)) (by decide) rfl rfl ?_
                  intro w14_7 o14_7 h14_7
                  have L15 : Le w w14_7 := L13.then_ h14_7 (fun q hq => Nat.le_trans L3.size (f14.row hq).1)
                  have o16 := o14_7.cast (m' := n) (ys := (List.replicate (j - 1) 0 ++ am :: l.map Prod.fst)) (rfl) (rep_set _ _ _ (by omega))
                  refine W.any (.idxS ((j - 1)) Tryz.underlying23 sz3 rfl rfl (o1_10.vec.isSome iv_row (by omega)) (by omega) (by omega)) rfl rfl rfl ?_
                  have f17 := ((((f0_1.le h9_4).ch h9_5 (fun q hq => by cases hq; exact (fun he => by have := (f0_1.row he).2; omega))).le h10_10).ch h14_7 (ap1_9_10))
                  refine W.ef0 rfl rfl ?_
                  refine Ef.vset (j := (j - 1)) (o := 0) ex sz3 rfl (by omega) rfl f17 iv_row (getS (List.replicate j 0 ++ l.map Prod.snd) 0 (by simp; omega)) (by decide) rfl rfl ?_
                  intro w14_9 o14_9 h14_9
                  have L18 : Le w w14_9 := L15.then_ h14_9 (fun q hq => Nat.le_trans L3.size (f17.row hq).1)
                  have o19 := o14_9.cast (m' := n) (ys := (List.replicate (j - 1) 0 ++ ex :: l.map Prod.snd)) (rfl) (rep_set _ _ _ (by omega))
                  refine W.nil ?_
                  refine E.thenN ?_
                  refine WC.seq ?_
                  refine WC.region ?_
                  refine W.any (.field0 fa36_4 rfl) rfl rfl rfl ?_
                  have f20 := (((b9_5.le h10_10).ch h14_7 (fun he => by have := (f0_0.row he).2; omega)).ch h14_9 (fun he => by have := (f0_1.row he).2; omega))
                  refine W.rd (.bpart (polV ((xs.getD (j - 1) noEdge).pol)) ag34 rfl (by decide) rfl f20 rfl) rfl rfl rfl ?_
                  refine W.any (.move rfl) rfl rfl rfl ?_
                  refine W.ef rfl rfl rfl ?_
                  refine Ef.call go44 rfl rfl (hfee_ok ((xs.getD (j - 1) noEdge).pol) am hpI w14_9) ?_
                  rintro _ w15_3 ⟨rfl, h15_3⟩
                  refine ⟨_, rfl, ?_⟩
                  have L21 := L18.trans h15_3
                  refine W.any (.move rfl) rfl rfl rfl ?_
                  refine W.any (.extract (v := .int .i64 ((feeG ((xs.getD (j - 1) noEdge).pol) am).1)) rfl rfl) rfl rfl rfl ?_
                  refine W.any (.extract (v := .bool ((feeG ((xs.getD (j - 1) noEdge).pol) am).2)) rfl rfl) rfl rfl rfl ?_
                  refine W.any (.assign rfl) rfl rfl rfl ?_
                  refine W.any (.assign rfl) rfl rfl rfl ?_
                  refine W.nil ?_
                  refine E.thenN ?_
                  refine WC.seq ?_
                  refine WC.region ?_
                  refine W.any (.move rfl) rfl rfl rfl ?_
                  refine W.any (.move rfl) rfl rfl rfl ?_
                  refine W.ef rfl rfl rfl ?_
                  refine Ef.call go45 rfl rfl (nadd_ok am ((feeG ((xs.getD (j - 1) noEdge).pol) am).1) w15_3) ?_
                  rintro _ w16_2 ⟨rfl, h16_2⟩
                  refine ⟨_, rfl, ?_⟩
                  have L22 := L21.trans h16_2
                  refine W.any (.move rfl) rfl rfl rfl ?_
                  refine W.any (.extract (v := .int .i64 ((addC am ((feeG ((xs.getD (j - 1) noEdge).pol) am).1)).1)) rfl rfl) rfl rfl rfl ?_
                  refine W.any (.extract (v := .bool ((addC am ((feeG ((xs.getD (j - 1) noEdge).pol) am).1)).2)) rfl rfl) rfl rfl rfl ?_
                  refine W.any (.assign rfl) rfl rfl rfl ?_
                  refine W.any (.assign rfl) rfl rfl rfl ?_
                  refine W.nil ?_
                  refine E.thenN ?_
                  refine WC.seq ?_
                  refine WC.seq ?_
                  refine WC.region ?_
                  refine W.any (.move rfl) rfl rfl rfl ?_
                  refine W.any (.gtr rfl rfl) rfl rfl rfl ?_
                  by_cases q17_2 : 0 < (((j : Nat) : Int) - 1)
                  · refine W.any (.dec (.move rfl) (decide_eq_true q17_2)) rfl rfl rfl ?_
                    refine W.rdg (Any.rd (.move rfl) _) rfl rfl rfl (rfl) rfl rfl ?_
                    refine W.rdg (Any.rd (.not rfl) _) rfl rfl rfl (rfl) rfl rfl ?_
                    by_cases q17_5 : ((feeG ((xs.getD (j - 1) noEdge).pol) am).2) = true
                    · refine W.rdg (Any.rd (.dec (.move rfl) (congrArg not (q17_5))) _) rfl rfl rfl (rfl) rfl rfl ?_
                      refine W.rdg (Any.rd (.move rfl) _) rfl rfl rfl (rfl) rfl rfl ?_
                      refine W.rdg (Any.rd (.not rfl) _) rfl rfl rfl (rfl) rfl rfl ?_
                      refine W.rdg (Any.rd (.pickF rfl rfl rfl) _) rfl rfl rfl (rfl) rfl rfl ?_
                      refine W.any (.pickT rfl rfl rfl) rfl rfl rfl ?_
                      refine W.nil ?_
                      refine E.thenN ?_
                      by_cases c5 : ((addC am ((feeG ((xs.getD (j - 1) noEdge).pol) am).1)).2) = true
                      · refine WC.condN rfl (congrArg not (c5)) ?_
                        refine WC.skip ?_
                        refine E.thenN ?_
                        refine WC.draw [0, 1, 2, 3, 4, 5, 6, 7] mixed (by kernel_rfl) ?_
                        intro w19 d19
                        have L23 := L22.trans d19
                        refine G.any rfl rfl (.move rfl) rfl rfl rfl ?_
                        refine G.any rfl rfl (.move rfl) rfl rfl rfl ?_
                        refine G.any rfl rfl (.field0 fa36_4 rfl) rfl rfl rfl ?_
                        refine G.any rfl rfl (.field2 fa34_2 rfl) rfl rfl rfl ?_
                        have f24 := (f20.le (h15_3.trans (h16_2.trans d19)))
                        refine G.rd rfl rfl (.loadB (v := .int .i64 ((xs.getD (j - 1) noEdge).pol.d)) na3 rfl f24 rfl) rfl rfl rfl ?_
                        refine G.any rfl rfl (.add rfl rfl (by omega)) rfl rfl rfl ?_
                        refine G.any rfl rfl (.assign rfl) rfl rfl rfl ?_
                        refine G.any rfl rfl (.assign rfl) rfl rfl rfl ?_
                        refine G.nil ?_
                        refine E.blkN ?_
                        refine E.thenN ?_
                        refine WC.region ?_
                        refine W.any (.move rfl) rfl rfl rfl ?_
                        refine W.any (.sub rfl rfl (by omega)) rfl rfl rfl ?_
                        refine W.any (.assign rfl) rfl rfl rfl ?_
                        refine W.nil ?_
                        have f25 := ((o16.ch h14_9 ((Apart.symm ap1_9_10))).le (h15_3.trans (h16_2.trans d19)))
                        have f26 := (o19.le (h15_3.trans (h16_2.trans d19)))
                        refine E.again (j - 1, (addC am (feeG (xs.getD (j - 1) noEdge).pol am).1).1, ex + (xs.getD (j - 1) noEdge).pol.d, nextC (xs.getD (j - 1) noEdge) am ex, (am, ex) :: l) (.cons rfl (.cons rfl (.cons rfl (.cons rfl (.cons rfl (.cons' rfl (int_eq (by omega)) (.nil _))))))) ?_ ?_
                        · exact ⟨by omega, by simp; omega, costF_step (by omega) (by omega) hF (by assumption) (by omega), fun h0 => by first | (exfalso; omega) | (have hv := addC_val (by assumption : (addC am (feeG (xs.getD (j - 1) noEdge).pol am).1).2 = true); rw [hv.1]; exact ⟨by rw [nextC_some (by assumption) (by assumption), hv.1], by omega, by omega, by omega, by omega⟩), L23, by have := zl0; have := h9_4.size; have := h9_5.size; have := h10_10.size; have := h14_7.size; have := h14_9.size; have := h15_3.size; have := h16_2.size; have := d19.size; omega, f25, f26⟩
                        · first | omega | (simp only []; omega)
                      · refine WC.condY rfl (congrArg not ((Bool.eq_false_iff.2 c5))) ?_
                        refine WC.seq ?_
                        refine WC.region ?_
                        refine W.any (.assign rfl) rfl rfl rfl ?_
                        refine W.any (.assign rfl) rfl rfl rfl ?_
                        refine W.any (.assign rfl) rfl rfl rfl ?_
                        refine W.nil ?_
                        refine E.thenN ?_
                        refine WC.ret ?_
                        refine E.thenR ?_
                        refine E.blkR ?_
                        refine E.thenR ?_
                        refine E.thenR ?_
                        refine E.blkR ?_
                        refine E.thenR ?_
                        refine E.retG3 rfl rfl rfl rfl ?_
                        have hc : costG xs a x = ([], [], 6) := costG_er (by assumption) (by assumption) (by assumption) (by first | exact costF_six (by omega) (by omega) hF (by assumption) | exact costF_none (j := j - 1) (by omega) (by omega) (by rw [costF_step (by omega) (by omega) hF (by assumption) (by omega), nextC_none (by first | exact .inl (by assumption) | exact .inr (by assumption))]))
                        exact ⟨none, 0, none, 0, by rw [hc]; rfl, by rw [hc]; exact OVec.nil _ _ _ _ _ _, by rw [hc]; exact OVec.nil _ _ _ _ _ _, L22⟩
                    · refine W.rdg (Any.rd (.dec (.move rfl) (congrArg not ((Bool.eq_false_iff.2 q17_5)))) _) rfl rfl rfl (rfl) rfl rfl ?_
                      refine W.skip rfl rfl rfl (rfl) rfl rfl ?_
                      refine W.skip rfl rfl rfl (rfl) rfl rfl ?_
                      refine W.rdg (Any.rd (.pickT rfl rfl rfl) _) rfl rfl rfl (rfl) rfl rfl ?_
                      refine W.any (.pickT rfl rfl rfl) rfl rfl rfl ?_
                      refine W.nil ?_
                      refine E.thenN ?_
                      refine WC.condT rfl ?_
                      refine WC.seq ?_
                      refine WC.region ?_
                      refine W.any (.assign rfl) rfl rfl rfl ?_
                      refine W.any (.assign rfl) rfl rfl rfl ?_
                      refine W.any (.assign rfl) rfl rfl rfl ?_
                      refine W.nil ?_
                      refine E.thenN ?_
                      refine WC.ret ?_
                      refine E.thenR ?_
                      refine E.blkR ?_
                      refine E.thenR ?_
                      refine E.thenR ?_
                      refine E.blkR ?_
                      refine E.thenR ?_
                      refine E.retG3 rfl rfl rfl rfl ?_
                      have hc : costG xs a x = ([], [], 6) := costG_er (by assumption) (by assumption) (by assumption) (by first | exact costF_six (by omega) (by omega) hF (by assumption) | exact costF_none (j := j - 1) (by omega) (by omega) (by rw [costF_step (by omega) (by omega) hF (by assumption) (by omega), nextC_none (by first | exact .inl (by assumption) | exact .inr (by assumption))]))
                      exact ⟨none, 0, none, 0, by rw [hc]; rfl, by rw [hc]; exact OVec.nil _ _ _ _ _ _, by rw [hc]; exact OVec.nil _ _ _ _ _ _, L22⟩
                  · refine W.any (.dec (.move rfl) (decide_eq_false q17_2)) rfl rfl rfl ?_
                    refine W.skip rfl rfl rfl (rfl) rfl rfl ?_
                    refine W.skip rfl rfl rfl (rfl) rfl rfl ?_
                    refine W.skip rfl rfl rfl (rfl) rfl rfl ?_
                    refine W.skipu rfl rfl rfl rfl rfl ?_
                    refine W.skipu rfl rfl rfl rfl rfl ?_
                    refine W.skip rfl rfl rfl (rfl) rfl rfl ?_
                    refine W.any (.pickF rfl rfl rfl) rfl rfl rfl ?_
                    refine W.nil ?_
                    refine E.thenN ?_
                    refine WC.condF rfl ?_
                    refine WC.skip ?_
                    refine E.thenN ?_
                    refine WC.draw [0, 1, 2, 3, 4, 5, 6, 7] mixed (by kernel_rfl) ?_
                    intro w19 d19
                    have L27 := L22.trans d19
                    refine G.any rfl rfl (.move rfl) rfl rfl rfl ?_
                    refine G.any rfl rfl (.move rfl) rfl rfl rfl ?_
                    refine G.any rfl rfl (.field0 fa36_4 rfl) rfl rfl rfl ?_
                    refine G.any rfl rfl (.field2 fa34_2 rfl) rfl rfl rfl ?_
                    have f28 := (f20.le (h15_3.trans (h16_2.trans d19)))
                    refine G.rd rfl rfl (.loadB (v := .int .i64 ((xs.getD (j - 1) noEdge).pol.d)) na3 rfl f28 rfl) rfl rfl rfl ?_
                    refine G.any rfl rfl (.add rfl rfl (by omega)) rfl rfl rfl ?_
                    refine G.any rfl rfl (.assign rfl) rfl rfl rfl ?_
                    refine G.any rfl rfl (.assign rfl) rfl rfl rfl ?_
                    refine G.nil ?_
                    refine E.blkN ?_
                    refine E.thenN ?_
                    refine WC.region ?_
                    refine W.any (.move rfl) rfl rfl rfl ?_
                    refine W.any (.sub rfl rfl (by omega)) rfl rfl rfl ?_
                    refine W.any (.assign rfl) rfl rfl rfl ?_
                    refine W.nil ?_
                    have f29 := ((o16.ch h14_9 ((Apart.symm ap1_9_10))).le (h15_3.trans (h16_2.trans d19)))
                    have f30 := (o19.le (h15_3.trans (h16_2.trans d19)))
                    refine E.again (j - 1, (addC am (feeG (xs.getD (j - 1) noEdge).pol am).1).1, ex + (xs.getD (j - 1) noEdge).pol.d, nextC (xs.getD (j - 1) noEdge) am ex, (am, ex) :: l) (.cons rfl (.cons rfl (.cons rfl (.cons rfl (.cons rfl (.cons' rfl (int_eq (by omega)) (.nil _))))))) ?_ ?_
                    · exact ⟨by omega, by simp; omega, costF_step (by omega) (by omega) hF (by assumption) (by omega), fun h0 => by first | (exfalso; omega) | (have hv := addC_val (by assumption : (addC am (feeG (xs.getD (j - 1) noEdge).pol am).1).2 = true); rw [hv.1]; exact ⟨by rw [nextC_some (by assumption) (by assumption), hv.1], by omega, by omega, by omega, by omega⟩), L27, by have := zl0; have := h9_4.size; have := h9_5.size; have := h10_10.size; have := h14_7.size; have := h14_9.size; have := h15_3.size; have := h16_2.size; have := d19.size; omega, f29, f30⟩
                    · first | omega | (simp only []; omega)
              · refine WC.condY rfl (congrArg not ((Bool.eq_false_iff.2 c3))) ?_
                refine WC.seq ?_
                refine WC.region ?_
                refine W.any (.assign rfl) rfl rfl rfl ?_
                refine W.any (.assign rfl) rfl rfl rfl ?_
                refine W.any (.assign rfl) rfl rfl rfl ?_
                refine W.nil ?_
                refine E.thenN ?_
                refine WC.ret ?_
                refine E.blkR ?_
                refine E.thenR ?_
                refine E.blkR ?_
                refine E.thenR ?_
                refine E.thenR ?_
                refine E.blkR ?_
                refine E.thenR ?_
                refine E.retG3 rfl rfl rfl rfl ?_
                have hc : costG xs a x = ([], [], 6) := costG_er (by assumption) (by assumption) (by assumption) (by first | exact costF_six (by omega) (by omega) hF (by assumption) | exact costF_none (j := j - 1) (by omega) (by omega) (by rw [costF_step (by omega) (by omega) hF (by assumption) (by omega), nextC_none (by first | exact .inl (by assumption) | exact .inr (by assumption))]))
                exact ⟨none, 0, none, 0, by rw [hc]; rfl, by rw [hc]; exact OVec.nil _ _ _ _ _ _, by rw [hc]; exact OVec.nil _ _ _ _ _ _, L13⟩
            · refine WC.condN rfl (decide_eq_false c2) ?_
              have hj0 : j = 0 := by omega
              refine WC.exit ?_
              refine E.thenX ?_
              refine E.thenX ?_
              refine E.blkH ?_
              refine E.thenN ?_
              refine WC.seq ?_
              refine WC.region ?_
              refine W.any (.move rfl) rfl rfl rfl ?_
              refine W.any (.move rfl) rfl rfl rfl ?_
              refine W.any (.assign rfl) rfl rfl rfl ?_
              refine W.any (.assign rfl) rfl rfl rfl ?_
              refine W.any (.assign rfl) rfl rfl rfl ?_
              refine W.nil ?_
              refine E.thenN ?_
              refine WC.ret ?_
              refine E.retG3 rfl rfl rfl rfl ?_
              have hc := costG_ok (by assumption) (by assumption) (by assumption) (show costF a x xs = .ok (nx, l) by rw [show j = 0 by omega] at hF; exact hF)
              subst hj0
              exact ⟨some ⟨g1, 0, none⟩, n, some ⟨g2, 0, none⟩, n, by rw [hc]; simp [show l.length = n by omega], by rw [hc]; exact ((f0_0.mono L3.size)).cast (by simp; omega) (by simp), by rw [hc]; exact ((f0_1.mono L3.size)).cast (by simp; omega) (by simp), Ll0⟩
      · refine WC.condY rfl (congrArg not ((Bool.eq_false_iff.2 c1))) ?_
        refine WC.seq ?_
        refine WC.region ?_
        refine W.any (.assign rfl) rfl rfl rfl ?_
        refine W.any (.assign rfl) rfl rfl rfl ?_
        refine W.any (.assign rfl) rfl rfl rfl ?_
        refine W.nil ?_
        refine E.thenN ?_
        refine WC.ret ?_
        refine E.thenR ?_
        refine E.retG3 rfl rfl rfl rfl ?_
        have hc : costG xs a x = ([], [], 1) := costG_arg (by assumption) (by first | exact .inl (by assumption) | exact .inr (by assumption))
        exact ⟨none, 0, none, 0, by rw [hc]; rfl, by rw [hc]; exact OVec.nil _ _ _ _ _ _, by rw [hc]; exact OVec.nil _ _ _ _ _ _, L3⟩
    · refine W.any (.dec (.move rfl) (congrArg not ((Bool.eq_false_iff.2 q3_3)))) rfl rfl rfl ?_
      refine W.skip rfl rfl rfl (rfl) rfl rfl ?_
      refine W.skip rfl rfl rfl (rfl) rfl rfl ?_
      refine W.skip rfl rfl rfl (rfl) rfl rfl ?_
      refine W.any (.pickT rfl rfl rfl) rfl rfl rfl ?_
      refine W.nil ?_
      refine E.thenN ?_
      refine WC.condT rfl ?_
      refine WC.seq ?_
      refine WC.region ?_
      refine W.any (.assign rfl) rfl rfl rfl ?_
      refine W.any (.assign rfl) rfl rfl rfl ?_
      refine W.any (.assign rfl) rfl rfl rfl ?_
      refine W.nil ?_
      refine E.thenN ?_
      refine WC.ret ?_
      refine E.thenR ?_
      refine E.retG3 rfl rfl rfl rfl ?_
      have hc : costG xs a x = ([], [], 1) := costG_arg (by assumption) (by first | exact .inl (by assumption) | exact .inr (by assumption))
      exact ⟨none, 0, none, 0, by rw [hc]; rfl, by rw [hc]; exact OVec.nil _ _ _ _ _ _, by rw [hc]; exact OVec.nil _ _ _ _ _ _, L2⟩
  · refine WC.condY rfl (congrArg not ((Bool.eq_false_iff.2 c0))) ?_
    refine WC.seq ?_
    refine WC.region ?_
    refine W.any (.assign rfl) rfl rfl rfl ?_
    refine W.any (.assign rfl) rfl rfl rfl ?_
    refine W.any (.assign rfl) rfl rfl rfl ?_
    refine W.nil ?_
    refine E.thenN ?_
    refine WC.ret ?_
    refine E.thenR ?_
    refine E.retG3 rfl rfl rfl rfl ?_
    have hc : costG xs a x = ([], [], 19) := costG_way (by assumption)
    exact ⟨none, 0, none, 0, by rw [hc]; rfl, by rw [hc]; exact OVec.nil _ _ _ _ _ _, by rw [hc]; exact OVec.nil _ _ _ _ _ _, L1⟩
end Go.Proofs.YtgpdfkplkaojcaaGreat

namespace Go.Proofs.YtgpdfkplkaojcaaGreat
open Go Go.Sx Go.Hsp Go.Num Go.Osp Go.Gsp
set_option maxRecDepth 20000
set_option linter.unusedSimpArgs false
set_option linter.unusedVariables false
theorem hops_next (w : List Gsp.Edge) (s t : List Int) (p b : List Nat) (k : Nat) : (List.range k).map (hopAt w s t p b) ++ [(((w.drop 1).getD k noEdge).t, ((w.drop 1).getD k noEdge).c, s.getD (k + 1) 0, t.getD (k + 1) 0, p.getD (k + 1) 0, b.getD k 0)] = (List.range (k + 1)).map (hopAt w s t p b) := by
  rw [List.range_succ, List.map_append]
  simp only [List.getD, List.getElem?_drop, Nat.add_comm 1 k, List.map_cons, List.map_nil, hopAt]
set_option maxHeartbeats 4000000 in
theorem hops_ok (a x : Int) {A Ap Ab : Option Addr} {n c np cp nb cb : Nat} {xs : List Gsp.Edge} {pts bl : List Nat} (w : World) (hV : Vec w edgeV 9 A n xs) (hn : n ≤ 1000000) (hP : Vec w pv1 1 Ap np pts) (hnp : np ≤ 1000000) (hB : Vec w pv1 1 Ab nb bl) (hnb : nb ≤ 1000000) (hnc : n ≤ c) : Calls Tryz.prog 19 #[.slice A n c, .int .i64 (a), .int .i64 (x), .agg #[.slice Ap np cp, .slice Ab nb cb]] w fun r w' => ∃ A' c', r = .returned (.tuple #[.slice A' (hopsG xs a x pts bl).1.length c', .int .i64 (hopsG xs a x pts bl).2]) ∧ OVec w' w.heap.size 68 hopV 6 A' (hopsG xs a x pts bl).1.length c' (hopsG xs a x pts bl).1 ∧ Le w w' := by
  have hl := hV.1
  have hlp := hP.1
  have hlb := hB.1
  refine enter Tryz.func19 rfl rfl ?_
  have L0 := Le.refl w
  refine WC.seq ?_
  refine WC.region ?_
  refine W.ef rfl rfl rfl ?_
  refine Ef.boxA rfl ?_
  intro g0_0 w0_0 hg0_0 b0_0 h0_0
  have L1 := L0.trans h0_0
  have b0_0 : Blk w0_0 g0_0 57 #[.slice Ap np cp, .slice Ab nb cb] := b0_0
  refine W.any (.assign rfl) rfl rfl rfl ?_
  refine W.any (.assign rfl) rfl rfl rfl ?_
  refine W.nil ?_
  refine E.thenN ?_
  refine WC.seq ?_
  refine WC.region ?_
  refine W.any (.move rfl) rfl rfl rfl ?_
  refine W.any (.move rfl) rfl rfl rfl ?_
  refine W.any (.move rfl) rfl rfl rfl ?_
  refine W.ef rfl rfl rfl ?_
  refine Ef.call go16 rfl rfl (cost_ok a x w0_0 (hV.le L1) (by omega)) ?_
  rintro _ w1_3 ⟨Aa1_3, ca1_3, Ab1_3, cb1_3, rfl, oa1_3, ob1_3, h1_3⟩
  refine ⟨_, rfl, ?_⟩
  have L2 := L1.trans h1_3
  have hcl0 := @costG_lens xs a x
  have hwl0 : (costG xs a x).2.2 = 0 → wayG xs = true := fun h => (costG_inv h).1
  have hg0 : hopsG xs a x pts bl = if (costG xs a x).2.2 ≠ 0 then ([], (costG xs a x).2.2) else if pts.length ≠ xs.length ∨ bl.length ≠ xs.length - 1 then ([], 1) else (hopsL xs (costG xs a x).1 (costG xs a x).2.1 pts bl a x, 0) := rfl
  generalize costG xs a x = C at *
  refine W.any (.move rfl) rfl rfl rfl ?_
  refine W.any (.extract (v := .slice Aa1_3 C.1.length ca1_3) rfl rfl) rfl rfl rfl ?_
  refine W.any (.extract (v := .slice Ab1_3 C.2.1.length cb1_3) rfl rfl) rfl rfl rfl ?_
  refine W.any (.extract (v := .int .i64 (C.2.2)) rfl rfl) rfl rfl rfl ?_
  refine W.any (.assign rfl) rfl rfl rfl ?_
  refine W.any (.assign rfl) rfl rfl rfl ?_
  refine W.any (.assign rfl) rfl rfl rfl ?_
  refine W.nil ?_
  refine E.thenN ?_
  refine WC.seq ?_
  refine WC.region ?_
  refine W.any (.move rfl) rfl rfl rfl ?_
  refine W.rd (.len Tryz.underlying44 rfl) rfl rfl rfl ?_
  refine W.any (.sub rfl rfl (by omega)) rfl rfl rfl ?_
  refine W.any (.assign rfl) rfl rfl rfl ?_
  refine W.nil ?_
  refine E.thenN ?_
  refine WC.seq ?_
  refine WC.block ?_
  refine WC.seq ?_
  refine WC.region ?_
  refine W.any (.move rfl) rfl rfl rfl ?_
  refine W.any (.neq rfl rfl) rfl rfl rfl ?_
  refine W.any (.assign rfl) rfl rfl rfl ?_
  refine W.nil ?_
  refine E.thenN ?_
  by_cases c0 : C.2.2 ≠ 0
  · refine WC.condY rfl (decide_eq_true c0) ?_
    refine WC.seq ?_
    refine WC.region ?_
    refine W.any (.move rfl) rfl rfl rfl ?_
    refine W.any (.assign rfl) rfl rfl rfl ?_
    refine W.any (.assign rfl) rfl rfl rfl ?_
    refine W.nil ?_
    refine E.thenN ?_
    refine WC.ret ?_
    refine E.blkR ?_
    refine E.thenR ?_
    refine E.retG2 rfl rfl rfl ?_
    have hg : hopsG xs a x pts bl = ([], C.2.2) := by rw [hg0, if_pos (by omega)]
    exact ⟨none, 0, by rw [hg]; rfl, by rw [hg]; exact OVec.nil _ _ _ _ _ _, L2⟩
  · refine WC.condN rfl (decide_eq_false c0) ?_
    have hcl := hcl0 (Decidable.not_not.1 (by assumption))
    have hwl := wayG_len (hwl0 (Decidable.not_not.1 (by assumption)))
    refine WC.seq ?_
    refine WC.region ?_
    refine W.any (.field0 fa57_0 rfl) rfl rfl rfl ?_
    have f3 := (b0_0.le h1_3)
    refine W.rd (.loadB (v := .slice Ap np cp) na26 rfl f3 rfl) rfl rfl rfl ?_
    refine W.rd (.len Tryz.underlying26 rfl) rfl rfl rfl ?_
    refine W.any (.move rfl) rfl rfl rfl ?_
    refine W.any (.add rfl rfl (by omega)) rfl rfl rfl ?_
    refine W.any (.neq rfl rfl) rfl rfl rfl ?_
    by_cases q5_6 : ((np : Nat) : Int) ≠ ((((n : Nat) : Int) - 1) + 1)
    · refine W.any (.dec (.move rfl) (decide_eq_true q5_6)) rfl rfl rfl ?_
      refine W.skip rfl rfl rfl (rfl) rfl rfl ?_
      refine W.skip rfl rfl rfl (rfl) rfl rfl ?_
      refine W.skip rfl rfl rfl (rfl) rfl rfl ?_
      refine W.skip rfl rfl rfl (rfl) rfl rfl ?_
      refine W.skip rfl rfl rfl (rfl) rfl rfl ?_
      refine W.any (.pickT rfl rfl rfl) rfl rfl rfl ?_
      refine W.any (.assign rfl) rfl rfl rfl ?_
      refine W.nil ?_
      refine E.thenN ?_
      refine WC.condT rfl ?_
      refine WC.seq ?_
      refine WC.region ?_
      refine W.any (.assign rfl) rfl rfl rfl ?_
      refine W.any (.assign rfl) rfl rfl rfl ?_
      refine W.nil ?_
      refine E.thenN ?_
      refine WC.ret ?_
      refine E.blkR ?_
      refine E.thenR ?_
      refine E.retG2 rfl rfl rfl ?_
      have hg : hopsG xs a x pts bl = ([], 1) := by rw [hg0, if_neg (by omega), if_pos (by omega)]
      exact ⟨none, 0, by rw [hg]; rfl, by rw [hg]; exact OVec.nil _ _ _ _ _ _, L2⟩
    · refine W.any (.dec (.move rfl) (decide_eq_false q5_6)) rfl rfl rfl ?_
      refine W.rdg (Any.rd (.field0 fa57_1 rfl) _) rfl rfl rfl (rfl) rfl rfl ?_
      refine W.rdg (.loadB (v := .slice Ab nb cb) na24 rfl f3 rfl) rfl rfl rfl (rfl) rfl rfl ?_
      refine W.rdg (.len Tryz.underlying24 rfl) rfl rfl rfl (rfl) rfl rfl ?_
      refine W.rdg (Any.rd (.move rfl) _) rfl rfl rfl (rfl) rfl rfl ?_
      refine W.rdg (Any.rd (.neq rfl rfl) _) rfl rfl rfl (rfl) rfl rfl ?_
      refine W.any (.pickF rfl rfl rfl) rfl rfl rfl ?_
      refine W.any (.assign rfl) rfl rfl rfl ?_
      refine W.nil ?_
      refine E.thenN ?_
      by_cases c1 : ((nb : Nat) : Int) ≠ (((n : Nat) : Int) - 1)
      · refine WC.condY rfl (decide_eq_true c1) ?_
        refine WC.seq ?_
        refine WC.region ?_
        refine W.any (.assign rfl) rfl rfl rfl ?_
        refine W.any (.assign rfl) rfl rfl rfl ?_
        refine W.nil ?_
        refine E.thenN ?_
        refine WC.ret ?_
        refine E.blkR ?_
        refine E.thenR ?_
        refine E.retG2 rfl rfl rfl ?_
        have hg : hopsG xs a x pts bl = ([], 1) := by rw [hg0, if_neg (by omega), if_pos (by omega)]
        exact ⟨none, 0, by rw [hg]; rfl, by rw [hg]; exact OVec.nil _ _ _ _ _ _, L2⟩
      · refine WC.condN rfl (decide_eq_false c1) ?_
        refine WC.skip ?_
        refine E.blkN ?_
        refine E.thenN ?_
        refine WC.seq ?_
        refine WC.region ?_
        refine W.any (.move rfl) rfl rfl rfl ?_
        refine W.any (.add rfl rfl (by omega)) rfl rfl rfl ?_
        refine W.ef rfl rfl rfl ?_
        refine Ef.vmake0 ((n - 1) + 1) hopV Tryz.underlying63 el68 rfl rfl rfl (by omega) (by omega) (by unfold maxLen; omega) ?_
        intro g7_2 w7_2 hg7_2 o7_2 h7_2
        have L4 := L2.trans h7_2
        refine W.any (.assign rfl) rfl rfl rfl ?_
        refine W.nil ?_
        refine E.thenN ?_
        refine WC.seq ?_
        refine WC.seq ?_
        refine WC.region ?_
        refine W.any (.move rfl) rfl rfl rfl ?_
        have v5 := hV.cutL c 1 (by omega) (by omega) edgeV_row
        have v5l := v5.1
        refine W.any (.cutL (1) Tryz.underlying44 sz36 rfl rfl (rfl) (by omega) (by omega)) rfl rfl rfl ?_
        refine W.rd (.len Tryz.underlying44 rfl) rfl rfl rfl ?_
        refine W.any (.move rfl) rfl rfl rfl ?_
        refine W.nil ?_
        refine E.thenN ?_
        refine WC.block ?_
        have f6 := (f3.le h7_2)
        have f7 := (oa1_3.le h7_2)
        have f8 := (ob1_3.le h7_2)
        refine WC.loop (ι := Nat × (Option Addr) × Nat) (fun ⟨k, Aa, ca⟩ => [(1, .int .i64 (a)), (2, .int .i64 (x)), (7, .pointer (some ⟨g0_0, 0, none⟩)), (10, .slice Aa1_3 C.1.length ca1_3), (11, .slice Ab1_3 C.2.1.length cb1_3), (13, .int .i64 ((((n : Nat) : Int) - 1))), (14, .slice Aa k ca), (50, .slice (cutA A c 1 9) (n - 1) (c - 1)), (51, .int .i64 ((((n - 1) : Nat) : Int))), (52, .int .i64 (((k : Nat) : Int)))]) (fun ⟨k, Aa, ca⟩ wl0 => (k ≤ n - 1) ∧ Le w wl0 ∧ w7_2.heap.size ≤ wl0.heap.size ∧ Blk wl0 g0_0 57 #[.slice Ap np cp, .slice Ab nb cb] ∧ OVec wl0 w0_0.heap.size 3 iv 1 Aa1_3 C.1.length ca1_3 C.1 ∧ OVec wl0 w0_0.heap.size 3 iv 1 Ab1_3 C.2.1.length cb1_3 C.2.1 ∧ OVec wl0 w1_3.heap.size 68 hopV 6 Aa k ca ((List.range k).map (hopAt xs C.1 C.2.1 pts bl))) (fun ⟨k, Aa, ca⟩ => n - 1 - k) (0, (some ⟨g7_2, 0, none⟩), ((n - 1) + 1)) ?_ ?_ ?_
        · exact .cons rfl (.cons rfl (.cons rfl (.cons rfl (.cons rfl (.cons rfl (.cons rfl (.cons rfl (.cons rfl (.cons rfl (.nil _))))))))))
        · exact ⟨by omega, L4, Nat.le_refl _, f6, f7, f8, o7_2⟩
        · rintro ⟨k, Aa, ca⟩ wl0 ⟨hk, Ll0, zl0, f0_0, f0_1, f0_2, f0_3⟩
          have lb0_5 : w0_0.heap.size ≤ wl0.heap.size := by have := h1_3.size; have := h7_2.size; omega
          have lb0_6 : w0_0.heap.size ≤ wl0.heap.size := by have := h1_3.size; have := h7_2.size; omega
          have lb0_7 : w1_3.heap.size ≤ wl0.heap.size := by have := h7_2.size; omega
          refine WC.seq ?_
          refine WC.region ?_
          refine W.any (.lss rfl rfl) rfl rfl rfl ?_
          refine W.nil ?_
          refine E.thenN ?_
          refine WC.seq ?_
          by_cases c2 : ((k : Nat) : Int) < (((n - 1) : Nat) : Int)
          · refine WC.condY rfl (decide_eq_true c2) ?_
            refine WC.skip ?_
            refine E.thenN ?_
            refine WC.seq ?_
            refine WC.block ?_
            refine WC.seq ?_
            refine WC.region ?_
            refine W.any (.move rfl) rfl rfl rfl ?_
            refine W.any (.idxS (k) Tryz.underlying44 sz36 rfl rfl (v5.isSome edgeV_row (by omega)) (rfl) (by omega)) rfl rfl rfl ?_
            refine W.rd (.vload ag36 rfl (v5.le Ll0) edgeV_row (getS (xs.drop 1) noEdge (by first | omega | (simp only [List.length_cons, List.length_nil]; omega)))) rfl rfl rfl ?_
            refine W.ef rfl rfl rfl ?_
            refine Ef.allocA z36 ?_
            intro g10_3 w10_3 hg10_3 b10_3 h10_3
            have L9 := Ll0.trans h10_3
            have b10_3 : Blk w10_3 g10_3 36 (edgeV noEdge).toArray := b10_3
            refine W.any (.assign rfl) rfl rfl rfl ?_
            refine W.ef0 rfl rfl ?_
            refine Ef.storeAll sz36 (by rfl) rfl rfl b10_3 (by simp only [List.size_toArray, edgeV_row.len]) (edgeV_row.one ((xs.drop 1).getD k noEdge)) ?_
            intro w10_5 b10_5 h10_5
            have b10_5 : Blk w10_5 g10_3 36 (edgeV ((xs.drop 1).getD k noEdge)).toArray := b10_5
            have L10 : Le w w10_5 := L9.then_ h10_5 (fun q hq => by cases hq; exact Nat.le_trans Ll0.size hg10_3)
            refine W.nil ?_
            refine E.thenN ?_
            refine WC.draw [0, 1, 2, 3, 4, 5, 6, 7, 8, 9, 10, 11, 12, 13, 14, 15, 16, 17, 18, 19, 20, 21, 22, 23, 24, 25, 26, 27, 28, 29] mixed (by kernel_rfl) ?_
            intro w11 d11
            have L11 := L10.trans d11
            refine G.any rfl rfl (.move rfl) rfl rfl rfl ?_
            refine G.any rfl rfl (.field0 fa36_1 rfl) rfl rfl rfl ?_
            have f12 := (b10_5.le d11)
            refine G.rd rfl rfl (.loadB (v := .int .i64 (((xs.drop 1).getD k noEdge).t)) na3 rfl f12 rfl) rfl rfl rfl ?_
            refine G.any rfl rfl (.field0 fa36_2 rfl) rfl rfl rfl ?_
            refine G.rd rfl rfl (.loadB (v := .int .i64 (((xs.drop 1).getD k noEdge).c)) na3 rfl f12 rfl) rfl rfl rfl ?_
            refine G.any rfl rfl (.move rfl) rfl rfl rfl ?_
            refine G.any rfl rfl (.move rfl) rfl rfl rfl ?_
            refine G.any rfl rfl (.add rfl rfl (by omega)) rfl rfl rfl ?_
            refine G.any rfl rfl (.idxS ((k + 1)) Tryz.underlying23 sz3 rfl rfl (oa1_3.vec.isSome iv_row (by omega)) (by omega) (by omega)) rfl rfl rfl ?_
            have f13 := (((f0_1.le h10_3).ch h10_5 (fun q hq => by cases hq; exact (fun he => by have := (f0_1.row he).2; omega))).le d11)
            refine G.rd rfl rfl (.vone (v := .int .i64 ((C.1.getD (k + 1) 0))) na3 rfl f13.vec iv_row (getS C.1 0 (by first | omega | (simp only [List.length_cons, List.length_nil]; omega))) rfl) rfl rfl rfl ?_
            refine G.any rfl rfl (.move rfl) rfl rfl rfl ?_
            refine G.any rfl rfl (.move rfl) rfl rfl rfl ?_
            refine G.any rfl rfl (.add rfl rfl (by omega)) rfl rfl rfl ?_
            refine G.any rfl rfl (.idxS ((k + 1)) Tryz.underlying23 sz3 rfl rfl (ob1_3.vec.isSome iv_row (by omega)) (by omega) (by omega)) rfl rfl rfl ?_
            have f14 := (((f0_2.le h10_3).ch h10_5 (fun q hq => by cases hq; exact (fun he => by have := (f0_2.row he).2; omega))).le d11)
            refine G.rd rfl rfl (.vone (v := .int .i64 ((C.2.1.getD (k + 1) 0))) na3 rfl f14.vec iv_row (getS C.2.1 0 (by first | omega | (simp only [List.length_cons, List.length_nil]; omega))) rfl) rfl rfl rfl ?_
            refine G.any rfl rfl (.field0 fa57_0 rfl) rfl rfl rfl ?_
            have f15 := (((f0_0.le h10_3).ch h10_5 (fun h => (show g10_3 ≠ g0_0 from by have := f0_0.lt; omega) (Option.some.inj h))).le d11)
            refine G.rd rfl rfl (.loadB (v := .slice Ap np cp) na26 rfl f15 rfl) rfl rfl rfl ?_
            refine G.any rfl rfl (.move rfl) rfl rfl rfl ?_
            refine G.any rfl rfl (.add rfl rfl (by omega)) rfl rfl rfl ?_
            refine G.any rfl rfl (.idxS ((k + 1)) Tryz.underlying26 sz28 rfl rfl (hP.isSome pv1_row (by omega)) (by omega) (by omega)) rfl rfl rfl ?_
            refine G.rd rfl rfl (.vone (v := .int .u64 ((((pts.getD (k + 1) 0) : Nat) : Int))) na28 rfl (hP.le L11) pv1_row (getS pts 0 (by first | omega | (simp only [List.length_cons, List.length_nil]; omega))) rfl) rfl rfl rfl ?_
            refine G.any rfl rfl (.field0 fa57_1 rfl) rfl rfl rfl ?_
            refine G.rd rfl rfl (.loadB (v := .slice Ab nb cb) na24 rfl f15 rfl) rfl rfl rfl ?_
            refine G.any rfl rfl (.move rfl) rfl rfl rfl ?_
            refine G.any rfl rfl (.idxS (k) Tryz.underlying24 sz30 rfl rfl (hB.isSome pv1_row (by omega)) (rfl) (by omega)) rfl rfl rfl ?_
            refine G.rd rfl rfl (.vone (v := .int .u64 ((((bl.getD k 0) : Nat) : Int))) na30 rfl (hB.le L11) pv1_row (getS bl 0 (by first | omega | (simp only [List.length_cons, List.length_nil]; omega))) rfl) rfl rfl rfl ?_
            refine G.any rfl rfl (.buildP (hopV (((xs.drop 1).getD k noEdge).t, ((xs.drop 1).getD k noEdge).c, (C.1.getD (k + 1) 0), (C.2.1.getD (k + 1) 0), (pts.getD (k + 1) 0), (bl.getD k 0))) pl68 z68 rfl rfl) rfl rfl rfl ?_
            refine G.ef rfl rfl rfl rfl rfl ?_
            refine Ef.buildSliceV (len := 1) [_] Tryz.underlying63 el68 rfl (by simp [Value.cells, hopV_row.len]) rfl (by decide) (by decide) ?_
            intro g11_27 w11_27 hg11_27 b11_27 h11_27
            refine ⟨fun _ => h11_27, ?_⟩
            have L16 := L11.trans h11_27
            have b11_27 : Blk w11_27 g11_27 68 (([(((xs.drop 1).getD k noEdge).t, ((xs.drop 1).getD k noEdge).c, (C.1.getD (k + 1) 0), (C.2.1.getD (k + 1) 0), (pts.getD (k + 1) 0), (bl.getD k 0))]).map hopV).flatten.toArray := b11_27
            have o11_27 : OVec w11_27 w11.heap.size 68 hopV 6 (some ⟨g11_27, 0, none⟩) 1 1 ([(((xs.drop 1).getD k noEdge).t, ((xs.drop 1).getD k noEdge).c, (C.1.getD (k + 1) 0), (C.2.1.getD (k + 1) 0), (pts.getD (k + 1) 0), (bl.getD k 0))]) := b11_27.ovec hg11_27 hopV_row rfl rfl (by decide)
            have f17 := (((f0_3.le h10_3).ch h10_5 (fun q hq => by cases hq; exact (fun he => by have := (f0_3.row he).2; omega))).le (d11.trans h11_27))
            refine G.ef rfl rfl rfl rfl rfl ?_
            refine Ef.vpush (a := (((xs.drop 1).getD k noEdge).t, ((xs.drop 1).getD k noEdge).c, (C.1.getD (k + 1) 0), (C.2.1.getD (k + 1) 0), (pts.getD (k + 1) 0), (bl.getD k 0))) Tryz.underlying63 el68 Tryz.underlying63 hopV_row rfl f17 rfl b11_27 (by omega) (by unfold maxLen; omega) (by have := lb0_7; have := h10_3.size; have := h10_5.size; have := d11.size; have := h11_27.size; omega) ?_
            intro A11_28 c11_28 w11_28 o11_28 h11_28 at11_28
            refine ⟨fun h => absurd h (ne_true_of_eq_false (by kernel_rfl)), ?_⟩
            have L18 : Le w w11_28 := L16.then_ h11_28 (fun q hq => Nat.le_trans L2.size (f17.row hq).1)
            refine G.any rfl rfl (.assign rfl) rfl rfl rfl ?_
            refine G.nil ?_
            refine E.blkN ?_
            refine E.thenN ?_
            refine WC.region ?_
            refine W.any (.add rfl rfl (by omega)) rfl rfl rfl ?_
            refine W.any (.move rfl) rfl rfl rfl ?_
            refine W.nil ?_
            have f19 := ((f15.le h11_27).ch h11_28 (fun he => by have := (f17.row he).1; have := f3.lt; omega))
            have f20 := ((f13.le h11_27).ch h11_28 ((Apart.symm (fun q h1 h2 => by have := (oa1_3.row h1).2; have := (f17.row h2).1; omega))))
            have f21 := ((f14.le h11_27).ch h11_28 ((Apart.symm (fun q h1 h2 => by have := (ob1_3.row h1).2; have := (f17.row h2).1; omega))))
            refine E.again (k + 1, A11_28, c11_28) (.cons rfl (.cons rfl (.cons rfl (.cons rfl (.cons rfl (.cons rfl (.cons rfl (.cons rfl (.cons rfl (.cons rfl (.nil _))))))))))) ?_ ?_
            · exact ⟨by omega, L18, by have := zl0; have := h10_3.size; have := h10_5.size; have := d11.size; have := h11_27.size; have := h11_28.size; omega, f19, f20, f21, (o11_28).cast rfl (hops_next _ _ _ _ _ _)⟩
            · first | omega | (simp only []; omega)
          · refine WC.condN rfl (decide_eq_false c2) ?_
            refine WC.exit ?_
            refine E.thenX ?_
            refine E.thenX ?_
            refine E.blkH ?_
            refine E.thenN ?_
            refine WC.seq ?_
            refine WC.region ?_
            refine W.any (.move rfl) rfl rfl rfl ?_
            refine W.any (.move rfl) rfl rfl rfl ?_
            refine W.any (.move rfl) rfl rfl rfl ?_
            refine W.any (.field0 fa57_0 rfl) rfl rfl rfl ?_
            refine W.rd (.loadB (v := .slice Ap np cp) na26 rfl f0_0 rfl) rfl rfl rfl ?_
            refine W.any (.move rfl) rfl rfl rfl ?_
            refine W.any (.idxS ((n - 1)) Tryz.underlying26 sz28 rfl rfl (hP.isSome pv1_row (by omega)) (by omega) (by omega)) rfl rfl rfl ?_
            refine W.rd (.vone (v := .int .u64 ((((pts.getD (n - 1) 0) : Nat) : Int))) na28 rfl (hP.le Ll0) pv1_row (getS pts 0 (by first | omega | (simp only [List.length_cons, List.length_nil]; omega))) rfl) rfl rfl rfl ?_
            refine W.any (.buildP (hopV ((-1), 0, a, x, (pts.getD (n - 1) 0), 0)) pl68 z68 rfl rfl) rfl rfl rfl ?_
            refine W.ef rfl rfl rfl ?_
            refine Ef.buildSliceV (len := 1) [_] Tryz.underlying63 el68 rfl (by simp [Value.cells, hopV_row.len]) rfl (by decide) (by decide) ?_
            intro g13_9 w13_9 hg13_9 b13_9 h13_9
            have L22 := Ll0.trans h13_9
            have b13_9 : Blk w13_9 g13_9 68 (([((-1), 0, a, x, (pts.getD (n - 1) 0), 0)]).map hopV).flatten.toArray := b13_9
            have o13_9 : OVec w13_9 wl0.heap.size 68 hopV 6 (some ⟨g13_9, 0, none⟩) 1 1 ([((-1), 0, a, x, (pts.getD (n - 1) 0), 0)]) := b13_9.ovec hg13_9 hopV_row rfl rfl (by decide)
            have f23 := (f0_3.le h13_9)
            refine W.ef rfl rfl rfl ?_
            refine Ef.vpush (a := ((-1), 0, a, x, (pts.getD (n - 1) 0), 0)) Tryz.underlying63 el68 Tryz.underlying63 hopV_row rfl f23 rfl b13_9 (by omega) (by unfold maxLen; omega) (by have := lb0_7; have := h13_9.size; omega) ?_
            intro A13_10 c13_10 w13_10 o13_10 h13_10 at13_10
            have L24 : Le w w13_10 := L22.then_ h13_10 (fun q hq => Nat.le_trans L2.size (f23.row hq).1)
            refine W.any (.assign rfl) rfl rfl rfl ?_
            refine W.any (.assign rfl) rfl rfl rfl ?_
            refine W.nil ?_
            refine E.thenN ?_
            refine WC.ret ?_
            refine E.retG2 rfl rfl rfl ?_
            have hg : hopsG xs a x pts bl = (hopsL xs C.1 C.2.1 pts bl a x, 0) := by rw [hg0, if_neg (by omega), if_neg (by omega)]
            have hk1 : k = xs.length - 1 := by omega
            subst hk1
            exact ⟨A13_10, c13_10, by rw [hg]; simp [hopsL], by rw [hg]; exact ((o13_10.mono L2.size)).cast (by simp [hopsL]) (by unfold hopsL; rw [hl]), L24⟩
end Go.Proofs.YtgpdfkplkaojcaaGreat

namespace Go.Proofs.YtgpdfkplkaojcaaGreat
open Go Go.Sx Go.Hsp Go.Num Go.Osp
theorem eqv_hop {d : Nat} (a b : Hop) : Eqv Tryz.prog (d + 2) 68 (.agg (hopV a).toArray) (.agg (hopV b).toArray) (decide (a = b)) := by
  have h := Eqv.ints (P := Tryz.prog) (d := d) (t := 68) (hopV a) (hopV b) [(.i64, 0), (.i64, 1), (.i64, 2), (.i64, 3), (.u64, 4), (.u64, 5)] (by kernel_rfl) (by kernel_rfl) (by
    rw [show (Tryz.prog.fieldsOf 68) = _ from (by unfold Program.fieldsOf; rw [Tryz.underlying68])]
    exact ⟨by decide, rfl, Tryz.underlying3, ⟨_, _, rfl, rfl⟩, by decide, rfl, Tryz.underlying3, ⟨_, _, rfl, rfl⟩, by decide, rfl, Tryz.underlying3, ⟨_, _, rfl, rfl⟩, by decide, rfl, Tryz.underlying3, ⟨_, _, rfl, rfl⟩, by decide, rfl, Tryz.underlying28, ⟨_, _, rfl, rfl⟩, by decide, rfl, Tryz.underlying30, ⟨_, _, rfl, rfl⟩, trivial⟩)
  have e : eqAll (hopV a) (hopV b) [(.i64, 0), (.i64, 1), (.i64, 2), (.i64, 3), (.u64, 4), (.u64, 5)] = decide (a = b) := by
    obtain ⟨a1, a2, a3, a4, a5, a6⟩ := a
    obtain ⟨b1, b2, b3, b4, b5, b6⟩ := b
    simp only [eqAll, hopV, List.getElem?_cons_zero, List.getElem?_cons_succ, Prod.mk.injEq]
    rw [Bool.eq_iff_iff]
    simp only [Bool.and_eq_true, decide_eq_true_eq, Bool.and_true]
    constructor
    · rintro ⟨h1, h2, h3, h4, h5, h6⟩; exact ⟨h1, h2, h3, h4, by omega, by omega⟩
    · rintro ⟨h1, h2, h3, h4, h5, h6⟩; exact ⟨h1, h2, h3, h4, by omega, by omega⟩
  rw [e] at h
  exact h
end Go.Proofs.YtgpdfkplkaojcaaGreat

namespace Go.Proofs.YtgpdfkplkaojcaaGreat
open Go Go.Sx Go.Hsp Go.Num Go.Osp Go.Gsp
set_option maxRecDepth 20000
set_option linter.unusedSimpArgs false
set_option linter.unusedVariables false
theorem eqv_pol {d : Nat} (a b : Pol) : Eqv Tryz.prog (d + 2) 34 (.agg (polV a).toArray) (.agg (polV b).toArray) (decide (a = b)) := by
  have h := Eqv.ints (P := Tryz.prog) (d := d) (t := 34) (polV a) (polV b) [(.i64, 0), (.i64, 1), (.i64, 2), (.i64, 3), (.i64, 4)] (by kernel_rfl) (by kernel_rfl) (by
    rw [show (Tryz.prog.fieldsOf 34) = _ from (by unfold Program.fieldsOf; rw [Tryz.underlying34])]
    exact ⟨by decide, rfl, Tryz.underlying3, ⟨_, _, rfl, rfl⟩, by decide, rfl, Tryz.underlying3, ⟨_, _, rfl, rfl⟩, by decide, rfl, Tryz.underlying3, ⟨_, _, rfl, rfl⟩, by decide, rfl, Tryz.underlying3, ⟨_, _, rfl, rfl⟩, by decide, rfl, Tryz.underlying3, ⟨_, _, rfl, rfl⟩, trivial⟩)
  have e : eqAll (polV a) (polV b) [(.i64, 0), (.i64, 1), (.i64, 2), (.i64, 3), (.i64, 4)] = decide (a = b) := by
    obtain ⟨a1, a2, a3, a4, a5⟩ := a
    obtain ⟨b1, b2, b3, b4, b5⟩ := b
    simp only [eqAll, polV, List.getElem?_cons_zero, List.getElem?_cons_succ, Pol.mk.injEq]
    rw [Bool.eq_iff_iff]
    simp only [Bool.and_eq_true, decide_eq_true_eq, Bool.and_true]
  rw [e] at h
  exact h
theorem eqv_edge {d : Nat} (a b : Gsp.Edge) : Eqv Tryz.prog (d + 3) 36 (.agg (edgeV a).toArray) (.agg (edgeV b).toArray) (decide (a = b)) := by
  have h := Eqv.struct (P := Tryz.prog) (d := d + 2) (t := 36) (edgeV a).toArray (edgeV b).toArray [(0, .int .i64 a.f, .int .i64 b.f, decide (a.f = b.f)), (1, .int .i64 a.t, .int .i64 b.t, decide (a.t = b.t)), (2, .int .i64 a.c, .int .i64 b.c, decide (a.c = b.c)), (3, .int .i64 a.r, .int .i64 b.r, decide (a.r = b.r)), (4, .agg (polV a.pol).toArray, .agg (polV b.pol).toArray, decide (a.pol = b.pol))] (by kernel_rfl) (by kernel_rfl) (by
    rw [show (Tryz.prog.fieldsOf 36) = _ from (by unfold Program.fieldsOf; rw [Tryz.underlying36])]
    exact ⟨by decide, rfl, run_part1 na3 rfl, run_part1 na3 rfl, Eqv.int _ _ Tryz.underlying3, by decide, rfl, run_part1 na3 rfl, run_part1 na3 rfl, Eqv.int _ _ Tryz.underlying3, by decide, rfl, run_part1 na3 rfl, run_part1 na3 rfl, Eqv.int _ _ Tryz.underlying3, by decide, rfl, run_part1 na3 rfl, run_part1 na3 rfl, Eqv.int _ _ Tryz.underlying3, by decide, rfl, run_partA (polV a.pol) ag34 rfl rfl, run_partA (polV b.pol) ag34 rfl rfl, eqv_pol _ _, trivial⟩)
  have e : (decide (a.f = b.f) && (decide (a.t = b.t) && (decide (a.c = b.c) && (decide (a.r = b.r) && (decide (a.pol = b.pol) && true))))) = decide (a = b) := by
    obtain ⟨a1, a2, a3, a4, a5⟩ := a
    obtain ⟨b1, b2, b3, b4, b5⟩ := b
    rw [Bool.eq_iff_iff]
    simp [Gsp.Edge.mk.injEq]
  have h' : Eqv Tryz.prog (d + 3) 36 (.agg (edgeV a).toArray) (.agg (edgeV b).toArray) (decide (a.f = b.f) && (decide (a.t = b.t) && (decide (a.c = b.c) && (decide (a.r = b.r) && (decide (a.pol = b.pol) && true))))) := h
  rw [e] at h'
  exact h'

theorem ints_ok {A B : Option Addr} {n c m d : Nat} {xs ys : List (Int)} (w : World) (hV : Vec w iv 1 A n xs) (hU : Vec w iv 1 B m ys) (hn : n ≤ 1000000) : Calls Tryz.prog 20 #[.slice A n c, .slice B m d] w fun r w' => r = .returned (.bool (decide (xs = ys))) ∧ Le w w' := by
  have hl := hV.1
  have hm := hU.1
  refine enter Tryz.func20 rfl rfl ?_
  have L0 := Le.refl w
  refine WC.seq ?_
  refine WC.region ?_
  refine W.any (.assign rfl) rfl rfl rfl ?_
  refine W.nil ?_
  refine E.thenN ?_
  refine WC.seq ?_
  refine WC.seq ?_
  refine WC.region ?_
  refine W.any (.move rfl) rfl rfl rfl ?_
  refine W.rd (.len Tryz.underlying23 rfl) rfl rfl rfl ?_
  refine W.any (.move rfl) rfl rfl rfl ?_
  refine W.rd (.len Tryz.underlying23 rfl) rfl rfl rfl ?_
  refine W.any (.neq rfl rfl) rfl rfl rfl ?_
  refine W.nil ?_
  refine E.thenN ?_
  by_cases c0 : ((n : Nat) : Int) ≠ ((m : Nat) : Int)
  · refine WC.condY rfl (decide_eq_true c0) ?_
    refine WC.seq ?_
    refine WC.region ?_
    refine W.any (.assign rfl) rfl rfl rfl ?_
    refine W.nil ?_
    refine E.thenN ?_
    refine WC.ret ?_
    refine E.thenR ?_
    refine E.retG1 rfl rfl ?_
    exact ⟨congrArg (fun b => Ending.returned (Value.bool b)) (decide_eq_false (fun h => by subst h; first | omega | exact absurd rfl (by assumption))).symm, L0⟩
  · refine WC.condN rfl (decide_eq_false c0) ?_
    refine WC.skip ?_
    refine E.thenN ?_
    refine WC.seq ?_
    refine WC.seq ?_
    refine WC.region ?_
    refine W.any (.assign rfl) rfl rfl rfl ?_
    refine W.nil ?_
    refine E.thenN ?_
    refine WC.block ?_
    refine WC.loop (ι := Nat) (fun k => [(0, .slice A n c), (1, .slice B m d), (5, .int .i64 (((k : Nat) : Int)))]) (fun k wl0 => (k ≤ n) ∧ (∀ j, j < k → xs.getD j 0 = ys.getD j 0) ∧ Le w wl0 ∧ w.heap.size ≤ wl0.heap.size) (fun k => n - k) 0 ?_ ?_ ?_
    · exact .cons rfl (.cons rfl (.cons rfl (.nil _)))
    · exact ⟨Nat.zero_le _, fun j hj => absurd hj (Nat.not_lt_zero _), L0, Nat.le_refl _⟩
    · rintro k wl0 ⟨hk, hz, Ll0, zl0⟩
      refine WC.seq ?_
      refine WC.seq ?_
      refine WC.region ?_
      refine W.any (.move rfl) rfl rfl rfl ?_
      refine W.any (.move rfl) rfl rfl rfl ?_
      refine W.rd (.len Tryz.underlying23 rfl) rfl rfl rfl ?_
      refine W.any (.lss rfl rfl) rfl rfl rfl ?_
      refine W.nil ?_
      refine E.thenN ?_
      by_cases c1 : ((k : Nat) : Int) < ((n : Nat) : Int)
      · refine WC.condY rfl (decide_eq_true c1) ?_
        refine WC.skip ?_
        refine E.thenN ?_
        refine WC.seq ?_
        refine WC.block ?_
        refine WC.seq ?_
        refine WC.draw [0, 1, 2, 3, 4, 5, 6, 7, 8] mixed (by kernel_rfl) ?_
        intro w6 d6
        have L1 := Ll0.trans d6
        refine G.any rfl rfl (.move rfl) rfl rfl rfl ?_
        refine G.any rfl rfl (.move rfl) rfl rfl rfl ?_
        refine G.any rfl rfl (.idxS (k) Tryz.underlying23 sz3 rfl rfl (hV.isSome iv_row (by omega)) (rfl) (by omega)) rfl rfl rfl ?_
        refine G.rd rfl rfl (.vone (v := .int .i64 ((xs.getD k 0))) na3 rfl (hV.le L1) iv_row (getS xs 0 (by first | omega | (simp only [List.length_cons, List.length_nil]; omega))) rfl) rfl rfl rfl ?_
        refine G.any rfl rfl (.move rfl) rfl rfl rfl ?_
        refine G.any rfl rfl (.move rfl) rfl rfl rfl ?_
        refine G.any rfl rfl (.idxS (k) Tryz.underlying23 sz3 rfl rfl (hU.isSome iv_row (by omega)) (rfl) (by omega)) rfl rfl rfl ?_
        refine G.rd rfl rfl (.vone (v := .int .i64 ((ys.getD k 0))) na3 rfl (hU.le L1) iv_row (getS ys 0 (by first | omega | (simp only [List.length_cons, List.length_nil]; omega))) rfl) rfl rfl rfl ?_
        refine G.any rfl rfl (.neq rfl rfl) rfl rfl rfl ?_
        refine G.nil ?_
        refine E.thenN ?_
        by_cases c2 : (xs.getD k 0) ≠ (ys.getD k 0)
        · refine WC.condY rfl (decide_eq_true c2) ?_
          refine WC.seq ?_
          refine WC.region ?_
          refine W.any (.assign rfl) rfl rfl rfl ?_
          refine W.nil ?_
          refine E.thenN ?_
          refine WC.ret ?_
          refine E.blkR ?_
          refine E.thenR ?_
          refine E.thenR ?_
          refine E.blkR ?_
          refine E.thenR ?_
          refine E.retG1 rfl rfl ?_
          exact ⟨congrArg (fun b => Ending.returned (Value.bool b)) (decide_eq_false (fun h => by subst h; first | omega | exact absurd rfl (by assumption))).symm, L1⟩
        · refine WC.condN rfl (decide_eq_false c2) ?_
          refine WC.skip ?_
          refine E.blkN ?_
          refine E.thenN ?_
          refine WC.region ?_
          refine W.any (.move rfl) rfl rfl rfl ?_
          refine W.any (.add rfl rfl (by omega)) rfl rfl rfl ?_
          refine W.any (.assign rfl) rfl rfl rfl ?_
          refine W.nil ?_
          refine E.again (k + 1) (.cons rfl (.cons rfl (.cons rfl (.nil _)))) ?_ ?_
          · exact ⟨by omega, fun j hj => by rcases Nat.lt_or_ge j k with h | h; exact hz j h; rw [show j = k by omega]; first | exact Decidable.not_not.1 c2 | exact c2, L1, by have := zl0; have := d6.size; omega⟩
          · first | omega | (simp only []; omega)
      · refine WC.condN rfl (decide_eq_false c1) ?_
        refine WC.exit ?_
        refine E.thenX ?_
        refine E.thenX ?_
        refine E.blkH ?_
        refine E.thenN ?_
        refine WC.seq ?_
        refine WC.region ?_
        refine W.any (.assign rfl) rfl rfl rfl ?_
        refine W.nil ?_
        refine E.thenN ?_
        refine WC.ret ?_
        refine E.retG1 rfl rfl ?_
        exact ⟨congrArg (fun b => Ending.returned (Value.bool b)) (decide_eq_true (ext_getD (by omega) (fun j hj => hz j (by omega)))).symm, Ll0⟩



theorem same_ok {A B : Option Addr} {n c m d : Nat} {xs ys : List (Gsp.Edge)} (w : World) (hV : Vec w edgeV 9 A n xs) (hU : Vec w edgeV 9 B m ys) (hn : n ≤ 1000000) : Calls Tryz.prog 11 #[.slice A n c, .slice B m d] w fun r w' => r = .returned (.bool (decide (xs = ys))) ∧ Le w w' := by
  have hl := hV.1
  have hm := hU.1
  refine enter Tryz.func11 rfl rfl ?_
  have L0 := Le.refl w
  refine WC.seq ?_
  refine WC.region ?_
  refine W.any (.assign rfl) rfl rfl rfl ?_
  refine W.nil ?_
  refine E.thenN ?_
  refine WC.seq ?_
  refine WC.seq ?_
  refine WC.region ?_
  refine W.any (.move rfl) rfl rfl rfl ?_
  refine W.rd (.len Tryz.underlying44 rfl) rfl rfl rfl ?_
  refine W.any (.move rfl) rfl rfl rfl ?_
  refine W.rd (.len Tryz.underlying44 rfl) rfl rfl rfl ?_
  refine W.any (.neq rfl rfl) rfl rfl rfl ?_
  refine W.nil ?_
  refine E.thenN ?_
  by_cases c0 : ((n : Nat) : Int) ≠ ((m : Nat) : Int)
  · refine WC.condY rfl (decide_eq_true c0) ?_
    refine WC.seq ?_
    refine WC.region ?_
    refine W.any (.assign rfl) rfl rfl rfl ?_
    refine W.nil ?_
    refine E.thenN ?_
    refine WC.ret ?_
    refine E.thenR ?_
    refine E.retG1 rfl rfl ?_
    exact ⟨congrArg (fun b => Ending.returned (Value.bool b)) (decide_eq_false (fun h => by subst h; first | omega | exact absurd rfl (by assumption))).symm, L0⟩
  · refine WC.condN rfl (decide_eq_false c0) ?_
    refine WC.skip ?_
    refine E.thenN ?_
    refine WC.seq ?_
    refine WC.seq ?_
    refine WC.region ?_
    refine W.any (.assign rfl) rfl rfl rfl ?_
    refine W.nil ?_
    refine E.thenN ?_
    refine WC.block ?_
    refine WC.loop (ι := Nat) (fun k => [(0, .slice A n c), (1, .slice B m d), (5, .int .i64 (((k : Nat) : Int)))]) (fun k wl0 => (k ≤ n) ∧ (∀ j, j < k → xs.getD j noEdge = ys.getD j noEdge) ∧ Le w wl0 ∧ w.heap.size ≤ wl0.heap.size) (fun k => n - k) 0 ?_ ?_ ?_
    · exact .cons rfl (.cons rfl (.cons rfl (.nil _)))
    · exact ⟨Nat.zero_le _, fun j hj => absurd hj (Nat.not_lt_zero _), L0, Nat.le_refl _⟩
    · rintro k wl0 ⟨hk, hz, Ll0, zl0⟩
      refine WC.seq ?_
      refine WC.seq ?_
      refine WC.region ?_
      refine W.any (.move rfl) rfl rfl rfl ?_
      refine W.any (.move rfl) rfl rfl rfl ?_
      refine W.rd (.len Tryz.underlying44 rfl) rfl rfl rfl ?_
      refine W.any (.lss rfl rfl) rfl rfl rfl ?_
      refine W.nil ?_
      refine E.thenN ?_
      by_cases c1 : ((k : Nat) : Int) < ((n : Nat) : Int)
      · refine WC.condY rfl (decide_eq_true c1) ?_
        refine WC.skip ?_
        refine E.thenN ?_
        refine WC.seq ?_
        refine WC.block ?_
        refine WC.seq ?_
        refine WC.draw [0, 1, 2, 3, 4, 5, 6, 7, 8] mixed (by kernel_rfl) ?_
        intro w6 d6
        have L1 := Ll0.trans d6
        refine G.any rfl rfl (.move rfl) rfl rfl rfl ?_
        refine G.any rfl rfl (.move rfl) rfl rfl rfl ?_
        refine G.any rfl rfl (.idxS (k) Tryz.underlying44 sz36 rfl rfl (hV.isSome edgeV_row (by omega)) (rfl) (by omega)) rfl rfl rfl ?_
        refine G.rd rfl rfl (.vload ag36 rfl (hV.le L1) edgeV_row (getS xs noEdge (by first | omega | (simp only [List.length_cons, List.length_nil]; omega)))) rfl rfl rfl ?_
        refine G.any rfl rfl (.move rfl) rfl rfl rfl ?_
        refine G.any rfl rfl (.move rfl) rfl rfl rfl ?_
        refine G.any rfl rfl (.idxS (k) Tryz.underlying44 sz36 rfl rfl (hU.isSome edgeV_row (by omega)) (rfl) (by omega)) rfl rfl rfl ?_
        refine G.rd rfl rfl (.vload ag36 rfl (hU.le L1) edgeV_row (getS ys noEdge (by first | omega | (simp only [List.length_cons, List.length_nil]; omega)))) rfl rfl rfl ?_
        refine G.any rfl rfl (.neA eg36 rfl rfl (eqv_edge (d := 9997) _ _)) rfl rfl rfl ?_
        refine G.nil ?_
        refine E.thenN ?_
        by_cases c2 : (xs.getD k noEdge) = (ys.getD k noEdge)
        · refine WC.condN rfl (congrArg not (decide_eq_true c2)) ?_
          refine WC.skip ?_
          refine E.blkN ?_
          refine E.thenN ?_
          refine WC.region ?_
          refine W.any (.move rfl) rfl rfl rfl ?_
          refine W.any (.add rfl rfl (by omega)) rfl rfl rfl ?_
          refine W.any (.assign rfl) rfl rfl rfl ?_
          refine W.nil ?_
          refine E.again (k + 1) (.cons rfl (.cons rfl (.cons rfl (.nil _)))) ?_ ?_
          · exact ⟨by omega, fun j hj => by rcases Nat.lt_or_ge j k with h | h; exact hz j h; rw [show j = k by omega]; first | exact Decidable.not_not.1 c2 | exact c2, L1, by have := zl0; have := d6.size; omega⟩
          · first | omega | (simp only []; omega)
        · refine WC.condY rfl (congrArg not (decide_eq_false c2)) ?_
          refine WC.seq ?_
          refine WC.region ?_
          refine W.any (.assign rfl) rfl rfl rfl ?_
          refine W.nil ?_
          refine E.thenN ?_
          refine WC.ret ?_
          refine E.blkR ?_
          refine E.thenR ?_
          refine E.thenR ?_
          refine E.blkR ?_
          refine E.thenR ?_
          refine E.retG1 rfl rfl ?_
          exact ⟨congrArg (fun b => Ending.returned (Value.bool b)) (decide_eq_false (fun h => by subst h; first | omega | exact absurd rfl (by assumption))).symm, L1⟩
      · refine WC.condN rfl (decide_eq_false c1) ?_
        refine WC.exit ?_
        refine E.thenX ?_
        refine E.thenX ?_
        refine E.blkH ?_
        refine E.thenN ?_
        refine WC.seq ?_
        refine WC.region ?_
        refine W.any (.assign rfl) rfl rfl rfl ?_
        refine W.nil ?_
        refine E.thenN ?_
        refine WC.ret ?_
        refine E.retG1 rfl rfl ?_
        exact ⟨congrArg (fun b => Ending.returned (Value.bool b)) (decide_eq_true (ext_getD (by omega) (fun j hj => hz j (by omega)))).symm, Ll0⟩
end Go.Proofs.YtgpdfkplkaojcaaGreat

namespace Go.Sx
open Go Go.RowKit
/-- Results in a variable and in a slot. -/
theorem E.retCT {P : Program} {env : Env} {n : Nat} {w : World} {fn : Func} {R : Ending → World → Prop} {t1 ty1 t2 s1 : Nat} {g1 : Nat} {b1 : TypeId} {cs1 : Array Value} {v2 : Value} (hr : fn.results = #[.cell t1 ty1, .tmp t2])
    (h1 : look env t1 = some (.pointer (some ⟨g1, 0, none⟩))) (h2 : look env t2 = some v2) (hB1 : Blk w g1 b1 cs1) (ha1 : IsAgg P ty1 s1) (hs1 : cs1.size = s1) (h : R (.returned (.tuple #[.agg cs1, v2])) w) : E (bodyPost P fn R) n .ret env w := fun a ha => by
  subst hs1
  obtain ⟨d1, u1, u2, u3⟩ := ha1
  have l1 := run_loadVar_row (P := P) w g1 b1 ty1 cs1 (0, 0) d1 hB1 u1 (by cases d1 <;> simp_all) u3
  refine bodyPost_ret (v := .tuple #[.agg cs1, v2]) ?_ ha.1 h
  simp [results, hr, ha.2.2 t1 _ h1, ha.2.2 t2 _ h2, asAddr, l1]
end Go.Sx
namespace Go.Proofs.YtgpdfkplkaojcaaGreat
open Go Go.Sx Go.Hsp Go.Num Go.Osp
set_option maxRecDepth 20000
theorem made_pv (k : Nat) : madeCells (Value.int .u64 0).cells (k * 1) = ((List.replicate k 0).map pv).toArray := by
  apply Array.ext'
  apply List.ext_getElem (by simp [madeCells])
  intro i h1 h2
  simp [madeCells, Value.cells, Nat.mod_one]
  rfl
theorem set_pv (l : List Nat) (i x : Nat) : ((l.map pv).toArray).setIfInBounds i (pv x) = ((l.set i x).map pv).toArray := by simp [List.map_set]
theorem getpB (ks : List Nat) {k : Nat} (h : k < ks.length) : (ks.map pv).toArray[k]? = some (pv (ks.getD k 0)) := by simp [h, List.getD]
theorem addP_lt (a b : Nat) : addP a b < 18446744073709551616 := Nat.lt_trans (Nat.mod_lt _ (by decide)) (by decide : M < 18446744073709551616)
theorem fromP_lt (p : Nat) (hp : p < 18446744073709551616) : ∀ l, ∀ x ∈ fromP p l, x < 18446744073709551616
  | [], x, hx => by simp [fromP] at hx; subst hx; exact hp
  | b :: l, x, hx => by
    rw [fromP, List.mem_cons] at hx
    rcases hx with rfl | hx
    · exact addP_lt _ _
    · exact fromP_lt p hp l x hx
theorem mixP_lt (p : Nat) (hp : p < 18446744073709551616) (l : List Nat) (m i : Nat) : (List.replicate m 0 ++ fromP p l).getD i 0 < 18446744073709551616 := by
  refine getD_lt (fun x hx => ?_) (by decide) i
  rcases List.mem_append.1 hx with hx | hx
  · rw [(List.mem_replicate.1 hx).2]; decide
  · exact fromP_lt p hp l x hx
theorem one2s {A B : Option Addr} {a b a' b' : Nat} : ∀ v ∈ [Value.slice A a a', Value.slice B b b'], v.oneCell' = true := fun v hv => by
  simp at hv; rcases hv with rfl | rfl <;> rfl












theorem drawn_ok (name : ByteArray) (hnm : byteCells name = nBlind.map u8v) {A : Option Addr} {c : Nat} {xs : List Byte} (i : Nat) (w : World) (hS : Sb w A 32 xs) : Calls Tryz.prog 47 #[.string name, .slice A 32 c, .int .i64 (i : Int)] w fun e w' => e = .returned (.int .u64 ((fromB (tag nBlind [xs, [BitVec.ofNat 8 i]]) : Nat) : Int)) ∧ Le w w' := by
  refine enter Tryz.func47 rfl rfl ?_
  have L0 := Le.refl w
  refine WC.seq ?_
  refine WC.region ?_
  refine W.any (.assign rfl) rfl rfl rfl ?_
  refine W.nil ?_
  refine E.thenN ?_
  refine WC.seq ?_
  refine WC.region ?_
  refine W.any (.move rfl) rfl rfl rfl ?_
  refine W.any (.move rfl) rfl rfl rfl ?_
  refine W.any (.move rfl) rfl rfl rfl ?_
  refine W.rd (.toU8 i (isS Tryz.underlying3) Tryz.underlying5 rfl rfl) rfl rfl rfl ?_
  refine W.ef rfl rfl rfl ?_
  refine Ef.buildSlice1 Tryz.underlying99 el5 rfl rfl ?_
  intro g1_4 w1_4 hg1_4 b1_4 h1_4
  have L1_4 := L0.trans h1_4
  refine W.ef rfl rfl rfl ?_
  refine Ef.buildSliceN [_, _] Tryz.underlying134 el99 rfl one2s rfl (by decide) (by decide) ?_
  intro g1_5 w1_5 hg1_5 b1_5 h1_5
  have L1_5 := L1_4.trans h1_5
  refine W.ef rfl rfl rfl ?_
  refine Ef.call go61 rfl rfl (tag_ok _ nBlind w1_5 (ps := [xs, [BitVec.ofNat 8 i]]) hnm (b1_5.sl (s := 1) (n := 2) rfl) (.cons (hS.le L1_5) (.cons (Blk.sb (xs := [BitVec.ofNat 8 i]) (b1_4.le h1_5) rfl) (.nil _))) (by rw [tagLen2, hS.len]; show 24 + 5 + 32 + 1 ≤ _; decide)) ?_
  rintro _ w1_6 ⟨rfl, h1_6⟩
  refine ⟨_, rfl, ?_⟩
  have L1_6 := L1_5.trans h1_6
  refine W.ef rfl rfl rfl ?_
  refine Ef.call go60 rfl rfl (from_ok _ (tag_length _ _) w1_6) ?_
  rintro _ w1_7 ⟨rfl, h1_7⟩
  refine ⟨_, rfl, ?_⟩
  have L1_7 := L1_6.trans h1_7
  refine W.any (.assign rfl) rfl rfl rfl ?_
  refine W.nil ?_
  refine E.thenN ?_
  refine WC.ret ?_
  refine E.ret1 rfl rfl ?_
  exact ⟨rfl, L1_7⟩

theorem pfrom_ok (p : Nat) (hp : p < 18446744073709551616) (hr : right p = true) {A : Option Addr} {n c : Nat} {xs : List Nat} (w : World) (hS : Sl w 1 A n (xs.map pv)) (hn : n < 8) : Calls Tryz.prog 48 #[.int .u64 ((p : Nat) : Int), .slice A n c] w fun e w' => ∃ g, e = .returned (.slice (some ⟨g, 0, none⟩) (n + 1) (n + 1)) ∧ w.heap.size ≤ g ∧ Blk w' g 28 ((fromP p xs).map pv).toArray ∧ Le w w' := by
  have hl := hS.1
  rw [List.length_map, Nat.mul_one] at hl
  refine enter Tryz.func48 rfl rfl ?_
  have L0 := Le.refl w
  refine WC.seq ?_
  refine WC.region ?_
  refine W.any (.assign rfl) rfl rfl rfl ?_
  refine W.nil ?_
  refine E.thenN ?_
  refine WC.seq ?_
  refine WC.region ?_
  refine W.any (.move rfl) rfl rfl rfl ?_
  refine W.rd (.len Tryz.underlying24 rfl) rfl rfl rfl ?_
  refine W.any (.assign rfl) rfl rfl rfl ?_
  refine W.nil ?_
  refine E.thenN ?_
  refine WC.seq ?_
  refine WC.seq ?_
  refine WC.region ?_
  refine W.any (.move rfl) rfl rfl rfl ?_
  refine W.ef rfl rfl rfl ?_
  refine Ef.call go46 rfl rfl (pright_T p hp hr w) ?_
  rintro _ w2_1 ⟨rfl, h2_1⟩
  refine ⟨_, rfl, ?_⟩
  have L2_1 := L0.trans h2_1
  refine W.any (.not rfl) rfl rfl rfl ?_
  refine W.any (.move rfl) rfl rfl rfl ?_
  refine W.rdg (Any.rd (.move rfl) _) rfl rfl rfl (rfl) rfl rfl ?_
  refine W.rdg (Any.rd (.dec (.geq rfl rfl) (decide_eq_false (by omega))) _) rfl rfl rfl (rfl) rfl rfl ?_
  refine W.any (.pickF rfl rfl rfl) rfl rfl rfl ?_
  refine W.nil ?_
  refine E.thenN ?_
  refine WC.condF rfl ?_
  refine WC.skip ?_
  refine E.thenN ?_
  refine WC.seq ?_
  refine WC.region ?_
  refine W.any (.move rfl) rfl rfl rfl ?_
  refine W.any (.add rfl rfl (by omega)) rfl rfl rfl ?_
  refine W.ef rfl rfl rfl ?_
  refine Ef.makeSlice (n + 1) (n + 1) Tryz.underlying26 el28 rfl (by omega) rfl (by omega) (Nat.le_refl _) (by omega) (by unfold maxLen; omega) ?_
  intro g4_2 w4_2 hg4_2 b4_2 h4_2
  have L4_2 := L2_1.trans h4_2
  have bp : Blk w4_2 g4_2 28 ((List.replicate (n + 1) 0).map pv).toArray := b4_2.cast (made_pv _)
  have hg := Nat.le_trans L2_1.size hg4_2
  refine W.any (.assign rfl) rfl rfl rfl ?_
  refine W.nil ?_
  refine E.thenN ?_
  refine WC.seq ?_
  refine WC.region ?_
  refine W.any (.move rfl) rfl rfl rfl ?_
  refine W.any (.move rfl) rfl rfl rfl ?_
  refine W.any (.move rfl) rfl rfl rfl ?_
  refine W.any (.idxB1 (n) Tryz.underlying26 sz28 rfl rfl (rfl) (by omega)) rfl rfl rfl ?_
  refine W.ef0 rfl rfl ?_
  refine Ef.store sz28 rfl rfl (bp) (by simp) (rfl) ?_
  intro w5_4 b5_4 h5_4
  have L5_4 : Le w w5_4 := L4_2.then_ h5_4 (fun q hq => by cases hq; exact hg)
  have bp : Blk w5_4 g4_2 28 ((List.replicate n 0 ++ [p]).map pv).toArray := b5_4.cast ((set_pv _ n p).trans (by rw [List.replicate_succ', List.set_append_right _ _ (by simp)]; simp))
  refine W.nil ?_
  refine E.thenN ?_
  refine WC.seq ?_
  refine WC.seq ?_
  refine WC.region ?_
  refine W.any (.move rfl) rfl rfl rfl ?_
  refine W.any (.move rfl) rfl rfl rfl ?_
  refine W.nil ?_
  refine E.thenN ?_
  refine WC.block ?_
  refine WC.loop (ι := Nat) (fun k => [(1, .slice A n c), (5, .int .i64 (n : Int)), (6, .slice (some ⟨g4_2, 0, none⟩) (n + 1) (n + 1)), (25, .int .i64 (n : Int)), (26, .int .i64 (k : Int))]) (fun k wl => k ≤ n ∧ Le w wl ∧ Blk wl g4_2 28 ((List.replicate (n - k) 0 ++ fromP p (xs.drop (n - k))).map pv).toArray) (fun k => n - k) 0 ?_ ?_ ?_
  · exact .cons rfl (.cons rfl (.cons rfl (.cons rfl (.cons rfl (.nil _)))))
  · exact ⟨Nat.zero_le _, L5_4, bp.cast (by rw [Nat.sub_zero, List.drop_of_length_le (by omega)]; rfl)⟩
  · rintro k wl ⟨hk, Ll, bl⟩
    refine WC.seq ?_
    refine WC.region ?_
    refine W.any (.lss rfl rfl) rfl rfl rfl ?_
    refine W.nil ?_
    refine E.thenN ?_
    refine WC.seq ?_
    refine WC.cond rfl (fun c1 => ?_) (fun c1 => ?_)
    · have hmx := mixP_lt p hp (xs.drop (n - k)) (n - k) (n - 1 - k + 1)
      have hml : (List.replicate (n - k) 0 ++ fromP p (xs.drop (n - k))).length = n + 1 := by rw [List.length_append, List.length_replicate, fromP_length, List.length_drop]; omega
      refine WC.skip ?_
      refine E.thenN ?_
      refine WC.seq ?_
      refine WC.block ?_
      refine WC.seq ?_
      refine WC.region ?_
      refine W.any (.move rfl) rfl rfl rfl ?_
      refine W.any (.assign rfl) rfl rfl rfl ?_
      refine W.nil ?_
      refine E.thenN ?_
      refine WC.seq ?_
      refine WC.region ?_
      refine W.any (.move rfl) rfl rfl rfl ?_
      refine W.any (.sub rfl rfl (by omega)) rfl rfl rfl ?_
      refine W.any (.move rfl) rfl rfl rfl ?_
      refine W.any (.sub rfl rfl (by omega)) rfl rfl rfl ?_
      refine W.any (.assign rfl) rfl rfl rfl ?_
      refine W.nil ?_
      refine E.thenN ?_
      refine WC.draw [0, 1, 2, 3, 4, 5, 6, 7, 8, 9, 10, 11, 12, 13, 14] mixed (by kernel_rfl) ?_
      intro w10 d10
      have L10 := Ll.trans d10
      refine G.any rfl rfl (.move rfl) rfl rfl rfl ?_
      refine G.any rfl rfl (.move rfl) rfl rfl rfl ?_
      refine G.any rfl rfl (.move rfl) rfl rfl rfl ?_
      refine G.any rfl rfl (.move rfl) rfl rfl rfl ?_
      refine G.any rfl rfl (.add rfl rfl (by omega)) rfl rfl rfl ?_
      refine G.any rfl rfl (.idxB1 (n - 1 - k + 1) Tryz.underlying26 sz28 rfl rfl (by omega) (by omega)) rfl rfl rfl ?_
      refine G.rd rfl rfl (.loadB na28 rfl (bl.le d10) (getpB _ (by omega))) rfl rfl rfl ?_
      refine G.any rfl rfl (.move rfl) rfl rfl rfl ?_
      refine G.any rfl rfl (.move rfl) rfl rfl rfl ?_
      refine G.any rfl rfl (.idxS1 (n - 1 - k) Tryz.underlying24 sz30 rfl rfl (hS.isSome (j := n - 1 - k) (by omega) (by decide)) (by omega) (by omega)) rfl rfl rfl ?_
      refine G.rd rfl rfl (.loadS na30 rfl (hS.le L10) (getp xs (by omega))) rfl rfl rfl ?_
      refine G.ef rfl rfl rfl rfl rfl ?_
      refine Ef.call go5 rfl rfl (base_ok _ w10) ?_
      rintro _ w10_11 ⟨rfl, h10_11⟩
      refine ⟨_, rfl, ?_⟩
      have L10_11 := L10.trans h10_11
      refine ⟨fun _ => h10_11, ?_⟩
      refine G.ef rfl rfl rfl rfl rfl ?_
      refine Ef.call go75 rfl rfl (padd_ok _ _ hmx (base_lt _) w10_11) ?_
      rintro _ w10_12 ⟨rfl, h10_12⟩
      refine ⟨_, rfl, ?_⟩
      have L10_12 := L10_11.trans h10_12
      refine ⟨fun _ => h10_12, ?_⟩
      refine G.any rfl rfl (.idxB1 (n - 1 - k) Tryz.underlying26 sz28 rfl rfl (by omega) (by omega)) rfl rfl rfl ?_
      refine G.ef0 rfl rfl rfl rfl ?_
      refine Ef.store sz28 rfl rfl (bl.le (d10.trans (h10_11.trans h10_12))) (by rw [List.size_toArray, List.length_map]; omega) (rfl) ?_
      intro w10_14 b10_14 h10_14
      have L10_14 : Le w w10_14 := L10_12.then_ h10_14 (fun q hq => by cases hq; exact hg)
      refine ⟨fun h => absurd h (ne_true_of_eq_false (by kernel_rfl)), ?_⟩
      refine G.nil ?_
      refine E.blkN ?_
      refine E.thenN ?_
      refine WC.region ?_
      refine W.any (.add rfl rfl (by omega)) rfl rfl rfl ?_
      refine W.any (.move rfl) rfl rfl rfl ?_
      refine W.nil ?_
      refine E.again (k + 1) (.cons rfl (.cons rfl (.cons rfl (.cons rfl (.cons rfl (.nil _)))))) ?_ ?_
      · exact ⟨by omega, L10_14, b10_14.cast ((set_pv _ _ _).trans (by have := fill_back p xs k (by omega); rw [hl] at this; rw [← this]))⟩
      · first | omega | (simp only []; omega)
    · have hkn : n = k := by omega
      subst hkn
      refine WC.exit ?_
      refine E.thenX ?_
      refine E.thenX ?_
      refine E.blkH ?_
      refine E.thenN ?_
      refine WC.seq ?_
      refine WC.region ?_
      refine W.any (.move rfl) rfl rfl rfl ?_
      refine W.any (.assign rfl) rfl rfl rfl ?_
      refine W.nil ?_
      refine E.thenN ?_
      refine WC.ret ?_
      refine E.ret1 rfl rfl ?_
      exact ⟨g4_2, rfl, hg, bl.cast (by rw [Nat.sub_self]; rfl), Ll⟩

set_option maxHeartbeats 1000000 in
theorem pnew_ok (p : Nat) (hp : p < 18446744073709551616) (hr : right p = true) (hp1 : p ≠ 1) (seed : List Byte) (hse : seed.length = 32) (n : Nat) (h1 : 1 ≤ n) (h8 : n ≤ 8) (w : World) : Calls Tryz.prog 17 #[.int .u64 ((p : Nat) : Int), .agg (seed.map u8v).toArray, .int .i64 (n : Int)] w fun e w' => ∃ g A c, e = .returned (.tuple #[.agg #[.slice (some ⟨g, 0, none⟩) n n, .slice A (n - 1) c], .bool true]) ∧ w.heap.size ≤ g ∧ Blk w' g 28 ((fromP p (blindsP seed (n - 1))).map pv).toArray ∧ Sx.Own w' w.heap.size 30 1 A (n - 1) c ((blindsP seed (n - 1)).map pv) ∧ Le w w' := by
  refine enter Tryz.func17 rfl rfl ?_
  have L0 := Le.refl w
  refine WC.seq ?_
  refine WC.region ?_
  refine W.ef rfl rfl rfl ?_
  refine Ef.boxA rfl ?_
  intro g0_0 w0_0 hg0_0 b0_0 h0_0
  have L0_0 := L0.trans h0_0
  refine W.ef rfl rfl rfl ?_
  refine Ef.allocA z57 ?_
  intro g0_1 w0_1 hg0_1 b0_1 h0_1
  have L0_1 := L0_0.trans h0_1
  have bs := b0_0.le h0_1
  have br : Blk w0_1 g0_1 57 #[.slice none 0 0, .slice none 0 0] := b0_1
  have hL0 := h0_0.trans h0_1
  have LL := Le.refl w0_1
  refine W.any (.assign rfl) rfl rfl rfl ?_
  refine W.nil ?_
  refine E.thenN ?_
  refine WC.seq ?_
  refine WC.seq ?_
  refine WC.region ?_
  refine W.any (.move rfl) rfl rfl rfl ?_
  refine W.ef rfl rfl rfl ?_
  refine Ef.call go46 rfl rfl (pright_T p hp hr w0_1) ?_
  rintro _ w1_1 ⟨rfl, h1_1⟩
  refine ⟨_, rfl, ?_⟩
  have L1_1 := LL.trans h1_1
  refine W.any (.not rfl) rfl rfl rfl ?_
  refine W.any (.move rfl) rfl rfl rfl ?_
  refine W.rdg (Any.rd (.move rfl) _) rfl rfl rfl (rfl) rfl rfl ?_
  refine W.rdg (Any.rd (.dec (.eql rfl rfl) (decide_eq_false (by omega))) _) rfl rfl rfl (rfl) rfl rfl ?_
  refine W.any (.pickF rfl rfl rfl) rfl rfl rfl ?_
  refine W.any (.move rfl) rfl rfl rfl ?_
  refine W.rdg (Any.rd (.move rfl) _) rfl rfl rfl (rfl) rfl rfl ?_
  refine W.rdg (Any.rd (.dec (.lss rfl rfl) (decide_eq_false (by omega))) _) rfl rfl rfl (rfl) rfl rfl ?_
  refine W.any (.pickF rfl rfl rfl) rfl rfl rfl ?_
  refine W.any (.move rfl) rfl rfl rfl ?_
  refine W.rdg (Any.rd (.move rfl) _) rfl rfl rfl (rfl) rfl rfl ?_
  refine W.rdg (Any.rd (.dec (.gtr rfl rfl) (decide_eq_false (by omega))) _) rfl rfl rfl (rfl) rfl rfl ?_
  refine W.any (.pickF rfl rfl rfl) rfl rfl rfl ?_
  refine W.nil ?_
  refine E.thenN ?_
  refine WC.condF rfl ?_
  refine WC.skip ?_
  refine E.thenN ?_
  refine WC.seq ?_
  refine WC.region ?_
  refine W.ef rfl rfl rfl ?_
  refine Ef.allocA z57 ?_
  intro g3_0 w3_0 hg3_0 b3_0 h3_0
  have L3_0 := L1_1.trans h3_0
  have b3 : Blk w3_0 g3_0 57 #[.slice none 0 0, .slice none 0 0] := b3_0
  refine W.nil ?_
  refine E.thenN ?_
  refine WC.seq ?_
  refine WC.seq ?_
  refine WC.region ?_
  refine W.any (.move rfl) rfl rfl rfl ?_
  refine W.any (.sub rfl rfl (by omega)) rfl rfl rfl ?_
  refine W.any (.move rfl) rfl rfl rfl ?_
  refine W.nil ?_
  refine E.thenN ?_
  refine WC.block ?_
  refine WC.loop (ι := Nat × Option Addr × Nat) (fun ⟨k, Ab, cb⟩ => [(0, .int .u64 ((p : Nat) : Int)), (4, .pointer (some ⟨g0_0, 0, none⟩)), (6, .pointer (some ⟨g0_1, 0, none⟩)), (8, .pointer (some ⟨g3_0, 0, none⟩)), (27, .int .i64 ((n : Int) - 1)), (28, .int .i64 (k : Int))]) (fun ⟨k, Ab, cb⟩ wl => k ≤ n - 1 ∧ Le w1_1 wl ∧ Blk wl g3_0 57 #[.slice none 0 0, .slice Ab k cb] ∧ Sx.Own wl w1_1.heap.size 30 1 Ab k cb ((blindsP seed k).map pv) ∧ rowOf Ab cb ≠ some g3_0) (fun ⟨k, Ab, cb⟩ => n - 1 - k) (0, none, 0) ?_ ?_ ?_
  · exact .cons rfl (.cons rfl (.cons rfl (.cons rfl (.cons rfl (.cons rfl (.nil _))))))
  · exact ⟨Nat.zero_le _, h3_0, b3, Own.nil _ _ _ _ _, by simp [rowOf_zero]⟩
  · rintro ⟨k, Ab, cb⟩ wl ⟨hk, Ll, bl, ob, nb⟩
    have hgl := bl.lt
    refine WC.seq ?_
    refine WC.region ?_
    refine W.any (.lss rfl rfl) rfl rfl rfl ?_
    refine W.nil ?_
    refine E.thenN ?_
    refine WC.seq ?_
    refine WC.cond rfl (fun c1 => ?_) (fun c1 => ?_)
    · refine WC.skip ?_
      refine E.thenN ?_
      refine WC.seq ?_
      refine WC.block ?_
      refine WC.seq ?_
      refine WC.region ?_
      refine W.any (.move rfl) rfl rfl rfl ?_
      refine W.any (.assign rfl) rfl rfl rfl ?_
      refine W.nil ?_
      refine E.thenN ?_
      refine WC.draw [0, 1, 2, 3, 4, 5, 6, 7, 8] mixed (by kernel_rfl) ?_
      intro w7 d7
      have L7 := Ll.trans d7
      have bl := bl.le d7
      have ob := ob.le d7
      refine G.any rfl rfl (.field0 fa57_1 rfl) rfl rfl rfl ?_
      refine G.rd rfl rfl (.loadB na24 rfl (bl) (rfl)) rfl rfl rfl ?_
      refine G.any rfl rfl (.cutArr Tryz.underlying61 sz5 rfl) rfl rfl rfl ?_
      refine G.any rfl rfl (.move rfl) rfl rfl rfl ?_
      refine G.ef rfl rfl rfl rfl rfl ?_
      refine Ef.call go47 rfl rfl (drawn_ok _ rfl k w7 ((bs.le (L1_1.trans L7)).sb hse)) ?_
      rintro _ w7_4 ⟨rfl, h7_4⟩
      refine ⟨_, rfl, ?_⟩
      have L7_4 := L7.trans h7_4
      refine ⟨fun _ => h7_4, ?_⟩
      refine G.ef rfl rfl rfl rfl rfl ?_
      refine Ef.buildSlice1 Tryz.underlying24 el30 rfl rfl ?_
      intro g7_5 w7_5 hg7_5 b7_5 h7_5
      have L7_5 := L7_4.trans h7_5
      refine ⟨fun _ => h7_5, ?_⟩
      refine G.ef rfl rfl rfl rfl rfl ?_
      refine Ef.append Tryz.underlying24 el30 rfl ((ob.le h7_4).le h7_5) rfl (b7_5.src1 Tryz.underlying24 rfl) (by omega) (by unfold maxLen; omega) (L7_5.size) ?_
      intro A7_6 c7_6 w7_6 o7_6 h7_6 at7_6
      have L7_6 : Le w1_1 w7_6 := L7_5.then_ h7_6 (fun q hq => (ob.row hq).1)
      refine ⟨fun h => absurd h (ne_true_of_eq_false (by kernel_rfl)), ?_⟩
      have bl := ((bl.le h7_4).le h7_5).ch h7_6 nb
      have ob7 : Sx.Own w7_6 w1_1.heap.size 30 1 A7_6 (k + 1) c7_6 ((blindsP seed (k + 1)).map pv) := o7_6.cast rfl (by rw [blindsP_succ, List.map_append]; rfl)
      refine G.any rfl rfl (.field0 fa57_1 rfl) rfl rfl rfl ?_
      have nb7 : rowOf A7_6 c7_6 ≠ some g3_0 := at7_6.off (by have := d7.size; have := h7_4.size; have := h7_5.size; omega) nb
      refine G.ef0 rfl rfl rfl rfl ?_
      refine Ef.store sz24 rfl rfl (bl) (by simp) (rfl) ?_
      intro w7_8 b7_8 h7_8
      have L7_8 : Le w1_1 w7_8 := L7_6.then_ h7_8 (fun q hq => by cases hq; exact hg3_0)
      refine ⟨fun h => absurd h (ne_true_of_eq_false (by kernel_rfl)), ?_⟩
      have o8 := ob7.ch h7_8 (fun q hq => by cases hq; exact nb7)
      refine G.nil ?_
      refine E.blkN ?_
      refine E.thenN ?_
      refine WC.region ?_
      refine W.any (.add rfl rfl (by omega)) rfl rfl rfl ?_
      refine W.any (.move rfl) rfl rfl rfl ?_
      refine W.nil ?_
      refine E.again (k + 1, A7_6, c7_6) (.cons rfl (.cons rfl (.cons rfl (.cons rfl (.cons rfl (.cons rfl (.nil _))))))) ?_ ?_
      · exact ⟨by omega, L7_8, b7_8, o8, nb7⟩
      · first | omega | (simp only []; omega)
    · have hkn : k = n - 1 := by omega
      subst hkn
      refine WC.exit ?_
      refine E.thenX ?_
      refine E.thenX ?_
      refine E.blkH ?_
      refine E.thenN ?_
      refine WC.seq ?_
      refine WC.region ?_
      refine W.any (.move rfl) rfl rfl rfl ?_
      refine W.any (.field0 fa57_1 rfl) rfl rfl rfl ?_
      refine W.rd (.loadB na24 rfl (bl) (rfl)) rfl rfl rfl ?_
      refine W.ef rfl rfl rfl ?_
      refine Ef.call go48 rfl rfl (pfrom_ok p hp hr wl ob.sl (by omega)) ?_
      rintro _ w9_3 ⟨g9, rfl, hg9, b9, h9_3⟩
      refine ⟨_, rfl, ?_⟩
      have L9_3 := Ll.trans h9_3
      refine W.any (.field0 fa57_0 rfl) rfl rfl rfl ?_
      refine W.ef0 rfl rfl ?_
      refine Ef.store sz26 rfl rfl (bl.le h9_3) (by simp) (rfl) ?_
      intro w9_5 b9_5 h9_5
      have L9_5 : Le w1_1 w9_5 := L9_3.then_ h9_5 (fun q hq => by cases hq; exact hg3_0)
      have b9 := b9.ch h9_5 (by simp; have := bl.lt; omega)
      have ob := (ob.le h9_3).ch h9_5 (fun q hq => by cases hq; exact nb)
      refine W.nil ?_
      refine E.thenN ?_
      refine WC.seq ?_
      refine WC.region ?_
      refine W.rd (.loadAll ag57 (by rfl) rfl (b9_5)) rfl rfl rfl ?_
      refine W.ef0 rfl rfl ?_
      refine Ef.storeAll sz57 (by rfl) rfl rfl (br.le (L1_1.trans L9_5)) (by rfl) (one2s) ?_
      intro w10_1 b10_1 h10_1
      have L10_1 : Le w w10_1 := (hL0.trans (L1_1.trans L9_5)).then_ h10_1 (fun q hq => by cases hq; exact Nat.le_trans h0_0.size hg0_1)
      have b9 := b9.ch h10_1 (by simp; have := br.lt; have := L1_1.size; have := Ll.size; omega)
      have ob := ob.ch h10_1 (fun q hq => by cases hq; exact fun he => by have := (ob.row he).1; have := br.lt; have := L1_1.size; omega)
      refine W.any (.assign rfl) rfl rfl rfl ?_
      refine W.nil ?_
      refine E.thenN ?_
      refine WC.ret ?_
      refine E.retCT rfl rfl rfl b10_1 ag57 (by rfl) ?_
      exact ⟨g9, Ab, cb, by rw [show n - 1 + 1 = n by omega]; rfl, Nat.le_trans (hL0.trans (L1_1.trans Ll)).size hg9, b9, ob.mono (hL0.trans L1_1).size, L10_1⟩
end Go.Proofs.YtgpdfkplkaojcaaGreat

