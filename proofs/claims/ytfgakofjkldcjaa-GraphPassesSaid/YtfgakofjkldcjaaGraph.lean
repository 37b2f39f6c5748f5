/- The graph (layer 36): those, Out, In, Find, Right, Way, walked. -/
import Derived.Test.YtfgakofjkldcjaaHop
namespace Go.Proofs.Ytfgakofjkldcjaa
open Go Go.Sx Go.Hsp Go.Num Go.Osp Go.Gsp
set_option maxRecDepth 20000
set_option linter.unusedSimpArgs false
set_option linter.unusedVariables false
theorem filter_T {pr : Gsp.Edge → Bool} (xs : List Gsp.Edge) (k : Nat) (hk : k < xs.length) (h : pr (xs.getD k noEdge) = true) : (xs.take k).filter pr ++ [xs.getD k noEdge] = (xs.take (k + 1)).filter pr := by
  rw [List.take_add_one, getS xs noEdge hk, List.filter_append]
  simp [List.filter_cons, -List.getD_eq_getElem?_getD, h]
theorem filter_F {pr : Gsp.Edge → Bool} (xs : List Gsp.Edge) (k : Nat) (hk : k < xs.length) (h : ¬ pr (xs.getD k noEdge) = true) : (xs.take k).filter pr = (xs.take (k + 1)).filter pr := by
  rw [List.take_add_one, getS xs noEdge hk, List.filter_append]
  simp [List.filter_cons, -List.getD_eq_getElem?_getD, h]
/-- Where the first one lies of which something is so. -/
def idxE (pr : Gsp.Edge → Bool) (xs : List Gsp.Edge) : Int := if xs.any pr then (xs.findIdx pr : Int) else -1
theorem idxE_at {pr : Gsp.Edge → Bool} {xs : List Gsp.Edge} {k : Nat} (hk : k < xs.length) (hb : ∀ j, j < k → ¬ pr (xs.getD j noEdge) = true) (h : pr (xs.getD k noEdge) = true) : (k : Int) = idxE pr xs := by
  have hx : xs.getD k noEdge = xs[k] := by simp [List.getD, hk]
  have : xs.findIdx pr = k := by
    rw [List.findIdx_eq hk]
    exact ⟨by rw [← hx]; exact h, fun j hj => by have := hb j hj; simpa [List.getD, show j < xs.length by omega] using this⟩
  rw [idxE, if_pos (by rw [List.any_eq_true]; exact ⟨xs[k], List.getElem_mem hk, by rw [← hx]; exact h⟩), this]
theorem idxE_no {pr : Gsp.Edge → Bool} {xs : List Gsp.Edge} {k : Nat} (hk : xs.length ≤ k) (hb : ∀ j, j < k → j < xs.length → ¬ pr (xs.getD j noEdge) = true) : -1 = idxE pr xs := by
  rw [idxE, if_neg]
  rw [List.any_eq_true]
  rintro ⟨y, hy, hp⟩
  obtain ⟨j, hj, rfl⟩ := List.mem_iff_getElem.1 hy
  exact hb j (by omega) hj (by simpa [List.getD, hj] using hp)
/-- Who was there ahead of edge k. -/
def Been (bs : List Bool) (xs : List Gsp.Edge) (k : Nat) : Prop := ∀ v : Nat, v < 12 → (bs.getD v false = true ↔ ∃ j, j < k ∧ ((xs.getD j noEdge).f = (v : Int) ∨ (xs.getD j noEdge).t = (v : Int)))
theorem been_first (xs : List Gsp.Edge) : Been (List.replicate 12 false) xs 0 := fun v hv => ⟨fun h => absurd h (by rw [show (List.replicate 12 false).getD v false = false from (show ∀ v, v < 12 → (List.replicate 12 false).getD v false = false by decide) v hv]; decide), fun ⟨j, hj, _⟩ => absurd hj (Nat.not_lt_zero _)⟩
theorem been_next {bs : List Bool} {xs : List Gsp.Edge} {k : Nat} (hb : bs.length = 12) (h1 : edgeOk (xs.getD k noEdge) = true) (hd : Been bs xs k) : Been ((bs.set (xs.getD k noEdge).f.toNat true).set (xs.getD k noEdge).t.toNat true) xs (k + 1) := by
  have hok := edgeOk_T h1
  intro v hv
  have e : ((bs.set (xs.getD k noEdge).f.toNat true).set (xs.getD k noEdge).t.toNat true).getD v false = true ↔ ((xs.getD k noEdge).t.toNat = v ∨ (xs.getD k noEdge).f.toNat = v ∨ bs.getD v false = true) := by
    simp only [List.getD, List.getElem?_set, List.length_set, hb]
    by_cases h2 : (xs.getD k noEdge).t.toNat = v
    · simp only [List.getD] at h2; simp [h2, hv]
    · by_cases h3 : (xs.getD k noEdge).f.toNat = v
      · simp only [List.getD] at h2 h3; simp [h2, h3, hv]
      · simp only [List.getD] at h2 h3; simp [h2, h3]
  rw [e, hd v hv]
  constructor
  · rintro (h | h | ⟨j, hj, h⟩)
    · exact ⟨k, by omega, .inr (by omega)⟩
    · exact ⟨k, by omega, .inl (by omega)⟩
    · exact ⟨j, by omega, h⟩
  · rintro ⟨j, hj, h⟩
    by_cases hjk : j = k
    · subst hjk; rcases h with h | h <;> omega
    · exact .inr (.inr ⟨j, by omega, h⟩)
theorem way_next {bs : List Bool} {xs : List Gsp.Edge} {k : Nat} (hz : ∀ j, j < k → WayAt xs j) (h1 : edgeOk (xs.getD k noEdge) = true) (hl : 0 < k → (xs.getD (k - 1) noEdge).t = (xs.getD k noEdge).f) (hd : Been bs xs k) (hn : ¬ bs.getD (xs.getD k noEdge).t.toNat false = true) : ∀ j, j < k + 1 → WayAt xs j := by
  intro j hj
  by_cases hjk : j = k
  · subst hjk
    have hok := edgeOk_T h1
    refine ⟨h1, hl, fun q hq he => ?_⟩
    by_cases hqj : q = j
    · subst hqj; exact hok.2.2.1 he
    · exact hn ((hd _ (by omega)).2 ⟨q, by omega, .inl (by omega)⟩)
  · exact hz j (by omega)
theorem way_fail {bs : List Bool} {xs : List Gsp.Edge} {k : Nat} (hz : ∀ j, j < k → WayAt xs j) (hd : Been bs xs k) (hn : bs.getD (xs.getD k noEdge).t.toNat false = true) : ¬ WayAt xs k := fun ⟨h1, hl, hw⟩ => by
  have hok := edgeOk_T h1
  obtain ⟨j, hj, h | h⟩ := (hd _ (by omega)).1 hn
  · exact hw j (by omega) (by omega)
  · have hj1 : (xs.getD (j + 1) noEdge).f = (xs.getD j noEdge).t := by
      by_cases hjk : j + 1 = k
      · have := hl (by omega); rw [show k - 1 = j by omega] at this; rw [hjk]; exact this.symm
      · have := (hz (j + 1) (by omega)).2.1 (by omega); rw [show j + 1 - 1 = j by omega] at this; exact this.symm
    exact hw (j + 1) (by omega) (by rw [hj1]; omega)
/-- The edge of a channel, from a party on. -/
def findE (xs : List Gsp.Edge) (ch fr : Int) : Gsp.Edge × Bool := if xs.any (fun e => decide (e.c = ch) && decide (e.f = fr)) then (xs.getD (xs.findIdx (fun e => decide (e.c = ch) && decide (e.f = fr))) noEdge, true) else (noEdge, false)
theorem those_ok {A : Option Addr} {n c : Nat} {xs : List Gsp.Edge} {F : Nat} {caps : Array Value} (pr : Gsp.Edge → Bool) (hgo : IsGo Try.prog F) (w : World) (hV : Vec w edgeV 9 A n xs) (hn : n ≤ 1000000) (hf : ∀ (e : Gsp.Edge) (w1 : World), Le w w1 → Calls Try.prog F (#[.agg (edgeV e).toArray] ++ caps) w1 fun r w2 => r = .returned (.bool (pr e)) ∧ Le w1 w2) : Calls Try.prog 83 #[.slice A n c, .func (.func F) #[] caps] w fun r w' => ∃ A' c', r = .returned (.slice A' (xs.filter pr).length c') ∧ OVec w' w.heap.size 76 edgeV 9 A' (xs.filter pr).length c' (xs.filter pr) ∧ Le w w' := by
  have hl := hV.1
  refine enter Try.func83 rfl rfl ?_
  have L0 := Le.refl w
  refine WC.seq ?_
  refine WC.region ?_
  refine W.any (.assign rfl) rfl rfl rfl ?_
  refine W.nil ?_
  refine E.thenN ?_
  refine WC.seq ?_
  refine WC.region ?_
  refine W.any (.assign rfl) rfl rfl rfl ?_
  refine W.nil ?_
  refine E.thenN ?_
  refine WC.seq ?_
  refine WC.seq ?_
  refine WC.region ?_
  refine W.any (.move rfl) rfl rfl rfl ?_
  refine W.rd (.len Try.underlying59 rfl) rfl rfl rfl ?_
  refine W.any (.move rfl) rfl rfl rfl ?_
  refine W.nil ?_
  refine E.thenN ?_
  refine WC.block ?_
  refine WC.loop (ι := Nat × (Option Addr) × Nat) (fun ⟨k, Aa, ca⟩ => [(1, .func (.func F) #[] caps), (5, .slice Aa (((xs.take k).filter pr).length) ca), (8, .slice A n c), (9, .int .i64 (((n : Nat) : Int))), (10, .int .i64 (((k : Nat) : Int)))]) (fun ⟨k, Aa, ca⟩ wl0 => (k ≤ n) ∧ Le w wl0 ∧ w.heap.size ≤ wl0.heap.size ∧ OVec wl0 w.heap.size 76 edgeV 9 Aa (((xs.take k).filter pr).length) ca ((xs.take k).filter pr)) (fun ⟨k, Aa, ca⟩ => n - k) (0, none, 0) ?_ ?_ ?_
  · exact .cons rfl (.cons rfl (.cons rfl (.cons rfl (.cons rfl (.nil _)))))
  · exact ⟨by omega, L0, Nat.le_refl _, (OVec.nil w w.heap.size 76 edgeV 9 none)⟩
  · rintro ⟨k, Aa, ca⟩ wl0 ⟨hk, Ll0, sz0, f0_0⟩
    have lb0_2 : w.heap.size ≤ wl0.heap.size := by omega
    refine WC.seq ?_
    refine WC.region ?_
    refine W.any (.lss rfl rfl) rfl rfl rfl ?_
    refine W.nil ?_
    refine E.thenN ?_
    refine WC.seq ?_
    by_cases c0 : ((k : Nat) : Int) < ((n : Nat) : Int)
    · refine WC.condY rfl (decide_eq_true c0) ?_
      refine WC.skip ?_
      refine E.thenN ?_
      refine WC.seq ?_
      refine WC.block ?_
      refine WC.seq ?_
      refine WC.region ?_
      refine W.any (.idxS (k) Try.underlying59 sz76 rfl rfl (hV.isSome edgeV_row (by omega)) (rfl) (by omega)) rfl rfl rfl ?_
      refine W.rd (.vload ag76 rfl (hV.le Ll0) edgeV_row (getS xs noEdge (by first | omega | (simp only [List.length_cons, List.length_nil]; omega)))) rfl rfl rfl ?_
      refine W.ef rfl rfl rfl ?_
      refine Ef.allocA z76 ?_
      intro g4_2 w4_2 hg4_2 b4_2 h4_2
      have L1 := Ll0.trans h4_2
      have b4_2 : Blk w4_2 g4_2 76 (edgeV noEdge).toArray := b4_2
      refine W.ef0 rfl rfl ?_
      refine Ef.storeAll sz76 (by rfl) rfl rfl b4_2 (by rfl) (edgeV_row.one (xs.getD k noEdge)) ?_
      intro w4_3 b4_3 h4_3
      have b4_3 : Blk w4_3 g4_2 76 (edgeV (xs.getD k noEdge)).toArray := b4_3
      have L2 : Le w w4_3 := L1.then_ h4_3 (fun q hq => by cases hq; exact Nat.le_trans Ll0.size hg4_2)
      refine W.nil ?_
      refine E.thenN ?_
      refine WC.seq ?_
      refine WC.region ?_
      refine W.any (.move rfl) rfl rfl rfl ?_
      refine W.rd (.loadAll ag76 (by rfl) rfl b4_3) rfl rfl rfl ?_
      refine W.ef rfl rfl rfl ?_
      refine Ef.callC hgo rfl rfl rfl (hf _ _ L2) ?_
      rintro _ w5_2 ⟨rfl, h5_2⟩
      refine ⟨_, rfl, ?_⟩
      have L3 := L2.trans h5_2
      refine W.nil ?_
      refine E.thenN ?_
      by_cases c1 : pr (xs.getD k noEdge) = true
      · refine WC.condY rfl (c1) ?_
        refine WC.region ?_
        refine W.any (.move rfl) rfl rfl rfl ?_
        have f4 := (b4_3.le h5_2)
        refine W.rd (.loadAll ag76 (by rfl) rfl f4) rfl rfl rfl ?_
        refine W.ef rfl rfl rfl ?_
        refine Ef.buildSliceV (len := 1) [_] Try.underlying59 el76 rfl (by simp [Value.cells, edgeV_row.len]) rfl (by decide) (by decide) ?_
        intro g6_2 w6_2 hg6_2 b6_2 h6_2
        have L5 := L3.trans h6_2
        have b6_2 : Blk w6_2 g6_2 76 (([xs.getD k noEdge]).map edgeV).flatten.toArray := b6_2
        have o6_2 : OVec w6_2 w5_2.heap.size 76 edgeV 9 (some ⟨g6_2, 0, none⟩) 1 1 ([xs.getD k noEdge]) := b6_2.ovec hg6_2 edgeV_row rfl rfl (by decide)
        have f6 := (((f0_0.le h4_2).ch h4_3 (fun q hq => by cases hq; exact (fun he => by have := (f0_0.row he).2; omega))).le (h5_2.trans h6_2))
        refine W.ef rfl rfl rfl ?_
        refine Ef.vpush (a := (xs.getD k noEdge)) Try.underlying59 el76 Try.underlying59 edgeV_row rfl f6 rfl b6_2 (by have := List.length_filter_le pr (xs.take k); simp at this; omega) (by have := List.length_filter_le pr (xs.take k); simp at this; unfold maxLen; omega) (by have := lb0_2; have := h4_2.size; have := h4_3.size; have := h5_2.size; have := h6_2.size; omega) ?_
        intro A6_3 c6_3 w6_3 o6_3 h6_3 at6_3
        have L7 : Le w w6_3 := L5.then_ h6_3 (fun q hq => Nat.le_trans L0.size (f6.row hq).1)
        refine W.any (.assign rfl) rfl rfl rfl ?_
        refine W.nil ?_
        refine E.blkN ?_
        refine E.thenN ?_
        refine WC.region ?_
        refine W.any (.add rfl rfl (by omega)) rfl rfl rfl ?_
        refine W.any (.move rfl) rfl rfl rfl ?_
        refine W.nil ?_
        refine E.again (k + 1, A6_3, c6_3) (.cons rfl (.cons' rfl (slice_eq (by rw [← filter_T xs k (by omega) c1]; simp)) (.cons rfl (.cons rfl (.cons rfl (.nil _)))))) ?_ ?_
        · exact ⟨by omega, L7, by have := sz0; have := h4_2.size; have := h4_3.size; have := h5_2.size; have := h6_2.size; have := h6_3.size; omega, (o6_3).cast (by rw [← filter_T xs k (by omega) c1]; simp) (filter_T xs k (by omega) c1)⟩
        · first | omega | (simp only []; omega)
      · refine WC.condN rfl ((Bool.eq_false_iff.2 c1)) ?_
        refine WC.skip ?_
        refine E.blkN ?_
        refine E.thenN ?_
        refine WC.region ?_
        refine W.any (.add rfl rfl (by omega)) rfl rfl rfl ?_
        refine W.any (.move rfl) rfl rfl rfl ?_
        refine W.nil ?_
        have f8 := (((f0_0.le h4_2).ch h4_3 (fun q hq => by cases hq; exact (fun he => by have := (f0_0.row he).2; omega))).le h5_2)
        refine E.again (k + 1, Aa, ca) (.cons rfl (.cons' rfl (slice_eq (by rw [← filter_F xs k (by omega) c1])) (.cons rfl (.cons rfl (.cons rfl (.nil _)))))) ?_ ?_
        · exact ⟨by omega, L3, by have := sz0; have := h4_2.size; have := h4_3.size; have := h5_2.size; omega, (f8).cast (by rw [← filter_F xs k (by omega) c1]) (filter_F xs k (by omega) c1)⟩
        · first | omega | (simp only []; omega)
    · refine WC.condN rfl (decide_eq_false c0) ?_
      refine WC.exit ?_
      refine E.thenX ?_
      refine E.thenX ?_
      refine E.blkH ?_
      refine E.thenN ?_
      refine WC.seq ?_
      refine WC.region ?_
      refine W.any (.move rfl) rfl rfl rfl ?_
      refine W.any (.assign rfl) rfl rfl rfl ?_
      refine W.nil ?_
      refine E.thenN ?_
      refine WC.ret ?_
      refine E.retG1 rfl rfl ?_
      exact ⟨_, _, by rw [List.take_of_length_le (by omega)], f0_0.cast (by rw [List.take_of_length_le (by omega)]) (by rw [List.take_of_length_le (by omega)]), Ll0⟩

theorem out1_ok (e : Gsp.Edge) (p : Int) {g : Nat} (w : World) (hg : Blk w g 3 #[.int .i64 p]) : Calls Try.prog 86 #[.agg (edgeV e).toArray, .pointer (some ⟨g, 0, none⟩)] w fun r w' => r = .returned (.bool (decide (e.f = p))) ∧ Le w w' := by
  refine enter Try.func86 rfl rfl ?_
  have L0 := Le.refl w
  refine WC.seq ?_
  refine WC.region ?_
  refine W.ef rfl rfl rfl ?_
  refine Ef.boxA rfl ?_
  intro g0_0 w0_0 hg0_0 b0_0 h0_0
  have L1 := L0.trans h0_0
  have b0_0 : Blk w0_0 g0_0 76 (edgeV e).toArray := b0_0
  refine W.any (.assign rfl) rfl rfl rfl ?_
  refine W.nil ?_
  refine E.thenN ?_
  refine WC.seq ?_
  refine WC.region ?_
  refine W.any (.field0 fa76_0 rfl) rfl rfl rfl ?_
  refine W.rd (.loadB (v := .int .i64 (e.f)) na3 rfl b0_0 rfl) rfl rfl rfl ?_
  refine W.rd (.loadB (v := .int .i64 (p)) na3 rfl (hg.le L1) rfl) rfl rfl rfl ?_
  refine W.any (.eql rfl rfl) rfl rfl rfl ?_
  refine W.any (.assign rfl) rfl rfl rfl ?_
  refine W.nil ?_
  refine E.thenN ?_
  refine WC.ret ?_
  refine E.retG1 rfl rfl ?_
  exact ⟨rfl, L1⟩

theorem out_ok (p : Int) {A : Option Addr} {n c : Nat} {xs : List Gsp.Edge} (w : World) (hV : Vec w edgeV 9 A n xs) (hn : n ≤ 1000000) : Calls Try.prog 42 #[.slice A n c, .int .i64 (p)] w fun r w' => ∃ A' c', r = .returned (.slice A' (xs.filter (fun e => decide (e.f = p))).length c') ∧ OVec w' w.heap.size 76 edgeV 9 A' (xs.filter (fun e => decide (e.f = p))).length c' (xs.filter (fun e => decide (e.f = p))) ∧ Le w w' := by
  refine enter Try.func42 rfl rfl ?_
  have L0 := Le.refl w
  refine WC.seq ?_
  refine WC.region ?_
  refine W.ef rfl rfl rfl ?_
  refine Ef.box rfl ?_
  intro g0_0 w0_0 hg0_0 b0_0 h0_0
  have L1 := L0.trans h0_0
  have b0_0 : Blk w0_0 g0_0 3 #[.int .i64 (p)] := b0_0
  refine W.any (.assign rfl) rfl rfl rfl ?_
  refine W.nil ?_
  refine E.thenN ?_
  refine WC.seq ?_
  refine WC.region ?_
  refine W.any (.move rfl) rfl rfl rfl ?_
  refine W.any (.makeFunc rfl) rfl rfl rfl ?_
  refine W.ef rfl rfl rfl ?_
  refine Ef.call go83 rfl rfl (those_ok (fun e => decide (e.f = p)) go86 w0_0 (hV.le L1) (by omega) (fun e w1 hl => out1_ok e p w1 (b0_0.le hl))) ?_
  rintro _ w1_2 ⟨At1_2, ct1_2, rfl, ot1_2, h1_2⟩
  refine ⟨_, rfl, ?_⟩
  have L3 := L1.trans h1_2
  refine W.any (.assign rfl) rfl rfl rfl ?_
  refine W.nil ?_
  refine E.thenN ?_
  refine WC.ret ?_
  refine E.retG1 rfl rfl ?_
  exact ⟨_, _, rfl, ot1_2.mono h0_0.size, L3⟩

theorem in1_ok (e : Gsp.Edge) (p : Int) {g : Nat} (w : World) (hg : Blk w g 3 #[.int .i64 p]) : Calls Try.prog 87 #[.agg (edgeV e).toArray, .pointer (some ⟨g, 0, none⟩)] w fun r w' => r = .returned (.bool (decide (e.t = p))) ∧ Le w w' := by
  refine enter Try.func87 rfl rfl ?_
  have L0 := Le.refl w
  refine WC.seq ?_
  refine WC.region ?_
  refine W.ef rfl rfl rfl ?_
  refine Ef.boxA rfl ?_
  intro g0_0 w0_0 hg0_0 b0_0 h0_0
  have L1 := L0.trans h0_0
  have b0_0 : Blk w0_0 g0_0 76 (edgeV e).toArray := b0_0
  refine W.any (.assign rfl) rfl rfl rfl ?_
  refine W.nil ?_
  refine E.thenN ?_
  refine WC.seq ?_
  refine WC.region ?_
  refine W.any (.field0 fa76_1 rfl) rfl rfl rfl ?_
  refine W.rd (.loadB (v := .int .i64 (e.t)) na3 rfl b0_0 rfl) rfl rfl rfl ?_
  refine W.rd (.loadB (v := .int .i64 (p)) na3 rfl (hg.le L1) rfl) rfl rfl rfl ?_
  refine W.any (.eql rfl rfl) rfl rfl rfl ?_
  refine W.any (.assign rfl) rfl rfl rfl ?_
  refine W.nil ?_
  refine E.thenN ?_
  refine WC.ret ?_
  refine E.retG1 rfl rfl ?_
  exact ⟨rfl, L1⟩

theorem in_ok (p : Int) {A : Option Addr} {n c : Nat} {xs : List Gsp.Edge} (w : World) (hV : Vec w edgeV 9 A n xs) (hn : n ≤ 1000000) : Calls Try.prog 43 #[.slice A n c, .int .i64 (p)] w fun r w' => ∃ A' c', r = .returned (.slice A' (xs.filter (fun e => decide (e.t = p))).length c') ∧ OVec w' w.heap.size 76 edgeV 9 A' (xs.filter (fun e => decide (e.t = p))).length c' (xs.filter (fun e => decide (e.t = p))) ∧ Le w w' := by
  refine enter Try.func43 rfl rfl ?_
  have L0 := Le.refl w
  refine WC.seq ?_
  refine WC.region ?_
  refine W.ef rfl rfl rfl ?_
  refine Ef.box rfl ?_
  intro g0_0 w0_0 hg0_0 b0_0 h0_0
  have L1 := L0.trans h0_0
  have b0_0 : Blk w0_0 g0_0 3 #[.int .i64 (p)] := b0_0
  refine W.any (.assign rfl) rfl rfl rfl ?_
  refine W.nil ?_
  refine E.thenN ?_
  refine WC.seq ?_
  refine WC.region ?_
  refine W.any (.move rfl) rfl rfl rfl ?_
  refine W.any (.makeFunc rfl) rfl rfl rfl ?_
  refine W.ef rfl rfl rfl ?_
  refine Ef.call go83 rfl rfl (those_ok (fun e => decide (e.t = p)) go87 w0_0 (hV.le L1) (by omega) (fun e w1 hl => in1_ok e p w1 (b0_0.le hl))) ?_
  rintro _ w1_2 ⟨At1_2, ct1_2, rfl, ot1_2, h1_2⟩
  refine ⟨_, rfl, ?_⟩
  have L3 := L1.trans h1_2
  refine W.any (.assign rfl) rfl rfl rfl ?_
  refine W.nil ?_
  refine E.thenN ?_
  refine WC.ret ?_
  refine E.retG1 rfl rfl ?_
  exact ⟨_, _, rfl, ot1_2.mono h0_0.size, L3⟩

theorem index_ok {A : Option Addr} {n c : Nat} {xs : List Gsp.Edge} {F : Nat} {caps : Array Value} (pr : Gsp.Edge → Bool) (hgo : IsGo Try.prog F) (w : World) (hV : Vec w edgeV 9 A n xs) (hn : n ≤ 1000000) (hf : ∀ (e : Gsp.Edge) (w1 : World), Le w w1 → Calls Try.prog F (#[.agg (edgeV e).toArray] ++ caps) w1 fun r w2 => r = .returned (.bool (pr e)) ∧ Le w1 w2) : Calls Try.prog 88 #[.slice A n c, .func (.func F) #[] caps] w fun r w' => r = .returned (.int .i64 (idxE pr xs)) ∧ Le w w' := by
  have hl := hV.1
  refine enter Try.func88 rfl rfl ?_
  have L0 := Le.refl w
  refine WC.seq ?_
  refine WC.region ?_
  refine W.any (.assign rfl) rfl rfl rfl ?_
  refine W.nil ?_
  refine E.thenN ?_
  refine WC.seq ?_
  refine WC.seq ?_
  refine WC.region ?_
  refine W.any (.move rfl) rfl rfl rfl ?_
  refine W.rd (.len Try.underlying59 rfl) rfl rfl rfl ?_
  refine W.any (.move rfl) rfl rfl rfl ?_
  refine W.nil ?_
  refine E.thenN ?_
  refine WC.block ?_
  refine WC.loop (ι := Nat) (fun k => [(0, .slice A n c), (1, .func (.func F) #[] caps), (7, .int .i64 (((n : Nat) : Int))), (8, .int .i64 (((k : Nat) : Int)))]) (fun k wl0 => (k ≤ n) ∧ (∀ j, j < k → ¬ pr (xs.getD j noEdge) = true) ∧ Le w wl0 ∧ w.heap.size ≤ wl0.heap.size) (fun k => n - k) 0 ?_ ?_ ?_
  · exact .cons rfl (.cons rfl (.cons rfl (.cons rfl (.nil _))))
  · exact ⟨Nat.zero_le _, fun j hj => absurd hj (Nat.not_lt_zero _), L0, Nat.le_refl _⟩
  · rintro k wl0 ⟨hk, hz, Ll0, sz0⟩
    refine WC.seq ?_
    refine WC.region ?_
    refine W.any (.lss rfl rfl) rfl rfl rfl ?_
    refine W.nil ?_
    refine E.thenN ?_
    refine WC.seq ?_
    by_cases c0 : ((k : Nat) : Int) < ((n : Nat) : Int)
    · refine WC.condY rfl (decide_eq_true c0) ?_
      refine WC.skip ?_
      refine E.thenN ?_
      refine WC.seq ?_
      refine WC.block ?_
      refine WC.seq ?_
      refine WC.region ?_
      refine W.any (.move rfl) rfl rfl rfl ?_
      refine W.any (.assign rfl) rfl rfl rfl ?_
      refine W.nil ?_
      refine E.thenN ?_
      refine WC.seq ?_
      refine WC.region ?_
      refine W.any (.move rfl) rfl rfl rfl ?_
      refine W.any (.move rfl) rfl rfl rfl ?_
      refine W.any (.move rfl) rfl rfl rfl ?_
      refine W.any (.idxS (k) Try.underlying59 sz76 rfl rfl (hV.isSome edgeV_row (by omega)) (rfl) (by omega)) rfl rfl rfl ?_
      refine W.rd (.vload ag76 rfl (hV.le Ll0) edgeV_row (getS xs noEdge (by first | omega | (simp only [List.length_cons, List.length_nil]; omega)))) rfl rfl rfl ?_
      refine W.ef rfl rfl rfl ?_
      refine Ef.callC hgo rfl rfl rfl (hf _ _ Ll0) ?_
      rintro _ w4_5 ⟨rfl, h4_5⟩
      refine ⟨_, rfl, ?_⟩
      have L1 := Ll0.trans h4_5
      refine W.nil ?_
      refine E.thenN ?_
      by_cases c1 : pr (xs.getD k noEdge) = true
      · refine WC.condY rfl (c1) ?_
        refine WC.seq ?_
        refine WC.region ?_
        refine W.any (.move rfl) rfl rfl rfl ?_
        refine W.any (.assign rfl) rfl rfl rfl ?_
        refine W.nil ?_
        refine E.thenN ?_
        refine WC.ret ?_
        refine E.blkR ?_
        refine E.thenR ?_
        refine E.thenR ?_
        refine E.blkR ?_
        refine E.thenR ?_
        refine E.retG1 rfl rfl ?_
        exact ⟨by rw [idxE_at (by omega) hz c1], L1⟩
      · refine WC.condN rfl ((Bool.eq_false_iff.2 c1)) ?_
        refine WC.skip ?_
        refine E.blkN ?_
        refine E.thenN ?_
        refine WC.region ?_
        refine W.any (.add rfl rfl (by omega)) rfl rfl rfl ?_
        refine W.any (.move rfl) rfl rfl rfl ?_
        refine W.nil ?_
        refine E.again (k + 1) (.cons rfl (.cons rfl (.cons rfl (.cons rfl (.nil _))))) ?_ ?_
        · exact ⟨by omega, fun j hj => by rcases Nat.lt_or_ge j k with h | h; exact hz j h; rw [show j = k by omega]; exact c1, L1, by have := sz0; have := h4_5.size; omega⟩
        · first | omega | (simp only []; omega)
    · refine WC.condN rfl (decide_eq_false c0) ?_
      refine WC.exit ?_
      refine E.thenX ?_
      refine E.thenX ?_
      refine E.blkH ?_
      refine E.thenN ?_
      refine WC.seq ?_
      refine WC.region ?_
      refine W.any (.assign rfl) rfl rfl rfl ?_
      refine W.nil ?_
      refine E.thenN ?_
      refine WC.ret ?_
      refine E.retG1 rfl rfl ?_
      exact ⟨by rw [idxE_no (k := k) (by omega) (fun j h1 _ => hz j h1)], Ll0⟩

theorem find1_ok (e : Gsp.Edge) (ch fr : Int) {g1 g2 : Nat} (w : World) (hg1 : Blk w g1 3 #[.int .i64 ch]) (hg2 : Blk w g2 3 #[.int .i64 fr]) : Calls Try.prog 89 #[.agg (edgeV e).toArray, .pointer (some ⟨g1, 0, none⟩), .pointer (some ⟨g2, 0, none⟩)] w fun r w' => r = .returned (.bool (decide (e.c = ch) && decide (e.f = fr))) ∧ Le w w' := by
  refine enter Try.func89 rfl rfl ?_
  have L0 := Le.refl w
  refine WC.seq ?_
  refine WC.region ?_
  refine W.ef rfl rfl rfl ?_
  refine Ef.boxA rfl ?_
  intro g0_0 w0_0 hg0_0 b0_0 h0_0
  have L1 := L0.trans h0_0
  have b0_0 : Blk w0_0 g0_0 76 (edgeV e).toArray := b0_0
  refine W.any (.assign rfl) rfl rfl rfl ?_
  refine W.nil ?_
  refine E.thenN ?_
  refine WC.seq ?_
  refine WC.region ?_
  refine W.any (.field0 fa76_2 rfl) rfl rfl rfl ?_
  refine W.rd (.loadB (v := .int .i64 (e.c)) na3 rfl b0_0 rfl) rfl rfl rfl ?_
  refine W.rd (.loadB (v := .int .i64 (ch)) na3 rfl (hg1.le L1) rfl) rfl rfl rfl ?_
  refine W.any (.eql rfl rfl) rfl rfl rfl ?_
  by_cases q1_4 : e.c = ch
  · refine W.any (.dec (.move rfl) (decide_eq_true q1_4)) rfl rfl rfl ?_
    refine W.rdg (Any.rd (.field0 fa76_0 rfl) _) rfl rfl rfl (rfl) rfl rfl ?_
    refine W.rdg (.loadB (v := .int .i64 (e.f)) na3 rfl b0_0 rfl) rfl rfl rfl (rfl) rfl rfl ?_
    refine W.rdg (.loadB (v := .int .i64 (fr)) na3 rfl (hg2.le L1) rfl) rfl rfl rfl (rfl) rfl rfl ?_
    refine W.rdg (Any.rd (.eql rfl rfl) _) rfl rfl rfl (rfl) rfl rfl ?_
    refine W.any (.pickT rfl rfl rfl) rfl rfl rfl ?_
    refine W.any (.assign rfl) rfl rfl rfl ?_
    refine W.nil ?_
    refine E.thenN ?_
    refine WC.ret ?_
    refine E.retG1 rfl rfl ?_
    exact ⟨congrArg (fun b => Ending.returned (Value.bool b)) (by simp [q1_4]), L1⟩
  · refine W.any (.dec (.move rfl) (decide_eq_false q1_4)) rfl rfl rfl ?_
    refine W.skip rfl rfl rfl (rfl) rfl rfl ?_
    refine W.skip rfl rfl rfl (rfl) rfl rfl ?_
    refine W.skip rfl rfl rfl (rfl) rfl rfl ?_
    refine W.skip rfl rfl rfl (rfl) rfl rfl ?_
    refine W.any (.pickF rfl rfl rfl) rfl rfl rfl ?_
    refine W.any (.assign rfl) rfl rfl rfl ?_
    refine W.nil ?_
    refine E.thenN ?_
    refine WC.ret ?_
    refine E.retG1 rfl rfl ?_
    exact ⟨congrArg (fun b => Ending.returned (Value.bool b)) (by simp [q1_4]), L1⟩

theorem find_ok (ch fr : Int) {A : Option Addr} {n c : Nat} {xs : List Gsp.Edge} (w : World) (hV : Vec w edgeV 9 A n xs) (hn : n ≤ 1000000) : Calls Try.prog 46 #[.slice A n c, .int .i64 (ch), .int .i64 (fr)] w fun r w' => r = .returned (.tuple #[.agg (edgeV (findE xs ch fr).1).toArray, .bool (findE xs ch fr).2]) ∧ Le w w' := by
  have hl := hV.1
  refine enter Try.func46 rfl rfl ?_
  have L0 := Le.refl w
  refine WC.seq ?_
  refine WC.region ?_
  refine W.ef rfl rfl rfl ?_
  refine Ef.box rfl ?_
  intro g0_0 w0_0 hg0_0 b0_0 h0_0
  have L1 := L0.trans h0_0
  have b0_0 : Blk w0_0 g0_0 3 #[.int .i64 (ch)] := b0_0
  refine W.ef rfl rfl rfl ?_
  refine Ef.box rfl ?_
  intro g0_1 w0_1 hg0_1 b0_1 h0_1
  have L2 := L1.trans h0_1
  have b0_1 : Blk w0_1 g0_1 3 #[.int .i64 (fr)] := b0_1
  refine W.ef rfl rfl rfl ?_
  refine Ef.allocA z76 ?_
  intro g0_2 w0_2 hg0_2 b0_2 h0_2
  have L3 := L2.trans h0_2
  have b0_2 : Blk w0_2 g0_2 76 (edgeV noEdge).toArray := b0_2
  refine W.any (.assign rfl) rfl rfl rfl ?_
  refine W.nil ?_
  refine E.thenN ?_
  refine WC.seq ?_
  refine WC.region ?_
  refine W.any (.move rfl) rfl rfl rfl ?_
  refine W.any (.makeFunc rfl) rfl rfl rfl ?_
  have f4 := (b0_0.le (h0_1.trans h0_2))
  have f5 := (b0_1.le h0_2)
  refine W.ef rfl rfl rfl ?_
  refine Ef.call go88 rfl rfl (index_ok (fun e => decide (e.c = ch) && decide (e.f = fr)) go89 w0_2 (hV.le L3) (by omega) (fun e w1 hl => find1_ok e ch fr w1 (f4.le hl) (f5.le hl))) ?_
  rintro _ w1_2 ⟨rfl, h1_2⟩
  refine ⟨_, rfl, ?_⟩
  have L6 := L3.trans h1_2
  refine W.any (.assign rfl) rfl rfl rfl ?_
  refine W.nil ?_
  refine E.thenN ?_
  refine WC.seq ?_
  refine WC.seq ?_
  refine WC.region ?_
  refine W.any (.move rfl) rfl rfl rfl ?_
  refine W.any (.lss rfl rfl) rfl rfl rfl ?_
  refine W.nil ?_
  refine E.thenN ?_
  by_cases c0 : (idxE (fun e => decide (e.c = ch) && decide (e.f = fr)) xs) < 0
  · refine WC.condY rfl (decide_eq_true c0) ?_
    refine WC.seq ?_
    refine WC.region ?_
    refine W.any (.buildP (edgeV (⟨0, 0, 0, 0, noPol⟩)) pl76 z76 rfl rfl) rfl rfl rfl ?_
    have f7 := (b0_2.le h1_2)
    refine W.ef0 rfl rfl ?_
    refine Ef.storeAll sz76 (by rfl) rfl rfl f7 (by rfl) (edgeV_row.one (⟨0, 0, 0, 0, noPol⟩)) ?_
    intro w3_1 b3_1 h3_1
    have b3_1 : Blk w3_1 g0_2 76 (edgeV (⟨0, 0, 0, 0, noPol⟩)).toArray := b3_1
    have L8 : Le w w3_1 := L6.then_ h3_1 (fun q hq => by cases hq; exact Nat.le_trans L2.size hg0_2)
    refine W.any (.assign rfl) rfl rfl rfl ?_
    refine W.nil ?_
    refine E.thenN ?_
    refine WC.ret ?_
    refine E.thenR ?_
    refine E.retG2 rfl (resA rfl b3_1 ag76 (by rfl)) rfl ?_
    exact ⟨by rw [findE, if_neg (by intro h; rw [idxE, if_pos h] at c0; omega)]; rfl, L8⟩
  · refine WC.condN rfl (decide_eq_false c0) ?_
    have hany : xs.any (fun e => decide (e.c = ch) && decide (e.f = fr)) = true := by rw [idxE] at c0; split at c0; assumption; omega
    have hix : idxE (fun e => decide (e.c = ch) && decide (e.f = fr)) xs = (xs.findIdx (fun e => decide (e.c = ch) && decide (e.f = fr)) : Nat) := by rw [idxE, if_pos hany]
    have hlt : xs.findIdx (fun e => decide (e.c = ch) && decide (e.f = fr)) < xs.length := List.findIdx_lt_length_of_exists (by simpa using hany)
    refine WC.skip ?_
    refine E.thenN ?_
    refine WC.seq ?_
    refine WC.region ?_
    refine W.any (.move rfl) rfl rfl rfl ?_
    refine W.any (.move rfl) rfl rfl rfl ?_
    refine W.any (.idxS (xs.findIdx (fun e => decide (e.c = ch) && decide (e.f = fr))) Try.underlying59 sz76 rfl rfl (hV.isSome edgeV_row (by omega)) (hix) (by omega)) rfl rfl rfl ?_
    refine W.rd (.vload ag76 rfl (hV.le L6) edgeV_row (getS xs noEdge (by first | omega | (simp only [List.length_cons, List.length_nil]; omega)))) rfl rfl rfl ?_
    have f9 := (b0_2.le h1_2)
    refine W.ef0 rfl rfl ?_
    refine Ef.storeAll sz76 (by rfl) rfl rfl f9 (by rfl) (edgeV_row.one (xs.getD (xs.findIdx (fun e => decide (e.c = ch) && decide (e.f = fr))) noEdge)) ?_
    intro w4_4 b4_4 h4_4
    have b4_4 : Blk w4_4 g0_2 76 (edgeV (xs.getD (xs.findIdx (fun e => decide (e.c = ch) && decide (e.f = fr))) noEdge)).toArray := b4_4
    have L10 : Le w w4_4 := L6.then_ h4_4 (fun q hq => by cases hq; exact Nat.le_trans L2.size hg0_2)
    refine W.any (.assign rfl) rfl rfl rfl ?_
    refine W.nil ?_
    refine E.thenN ?_
    refine WC.ret ?_
    refine E.retG2 rfl (resA rfl b4_4 ag76 (by rfl)) rfl ?_
    exact ⟨by rw [findE, if_pos hany], L10⟩

theorem gright_ok {A : Option Addr} {n c : Nat} {xs : List Gsp.Edge} (w : World) (hV : Vec w edgeV 9 A n xs) (hn : n ≤ 1000000) : Calls Try.prog 45 #[.slice A n c] w fun r w' => r = .returned (.bool (rightG xs)) ∧ Le w w' := by
  have hl := hV.1
  refine enter Try.func45 rfl rfl ?_
  have L0 := Le.refl w
  refine WC.seq ?_
  refine WC.region ?_
  refine W.any (.assign rfl) rfl rfl rfl ?_
  refine W.nil ?_
  refine E.thenN ?_
  refine WC.seq ?_
  refine WC.seq ?_
  refine WC.region ?_
  refine W.any (.move rfl) rfl rfl rfl ?_
  refine W.rd (.len Try.underlying59 rfl) rfl rfl rfl ?_
  refine W.any (.move rfl) rfl rfl rfl ?_
  refine W.nil ?_
  refine E.thenN ?_
  refine WC.block ?_
  refine WC.loop (ι := Nat) (fun k => [(0, .slice A n c), (6, .slice A n c), (7, .int .i64 (((n : Nat) : Int))), (8, .int .i64 (((k : Nat) : Int)))]) (fun k wl0 => (k ≤ n) ∧ (∀ j, j < k → RightAt xs j) ∧ Le w wl0 ∧ w.heap.size ≤ wl0.heap.size) (fun k => n - k) 0 ?_ ?_ ?_
  · exact .cons rfl (.cons rfl (.cons rfl (.cons rfl (.nil _))))
  · exact ⟨Nat.zero_le _, fun j hj => absurd hj (Nat.not_lt_zero _), L0, Nat.le_refl _⟩
  · rintro k wl0 ⟨hk, hz, Ll0, sz0⟩
    refine WC.seq ?_
    refine WC.region ?_
    refine W.any (.lss rfl rfl) rfl rfl rfl ?_
    refine W.nil ?_
    refine E.thenN ?_
    refine WC.seq ?_
    by_cases c0 : ((k : Nat) : Int) < ((n : Nat) : Int)
    · refine WC.condY rfl (decide_eq_true c0) ?_
      refine WC.skip ?_
      refine E.thenN ?_
      refine WC.seq ?_
      refine WC.block ?_
      refine WC.seq ?_
      refine WC.region ?_
      refine W.any (.move rfl) rfl rfl rfl ?_
      refine W.any (.idxS (k) Try.underlying59 sz76 rfl rfl (hV.isSome edgeV_row (by omega)) (rfl) (by omega)) rfl rfl rfl ?_
      refine W.rd (.vload ag76 rfl (hV.le Ll0) edgeV_row (getS xs noEdge (by first | omega | (simp only [List.length_cons, List.length_nil]; omega)))) rfl rfl rfl ?_
      refine W.ef rfl rfl rfl ?_
      refine Ef.allocA z76 ?_
      intro g3_3 w3_3 hg3_3 b3_3 h3_3
      have L1 := Ll0.trans h3_3
      have b3_3 : Blk w3_3 g3_3 76 (edgeV noEdge).toArray := b3_3
      refine W.any (.assign rfl) rfl rfl rfl ?_
      refine W.ef0 rfl rfl ?_
      refine Ef.storeAll sz76 (by rfl) rfl rfl b3_3 (by rfl) (edgeV_row.one (xs.getD k noEdge)) ?_
      intro w3_5 b3_5 h3_5
      have b3_5 : Blk w3_5 g3_3 76 (edgeV (xs.getD k noEdge)).toArray := b3_5
      have L2 : Le w w3_5 := L1.then_ h3_5 (fun q hq => by cases hq; exact Nat.le_trans Ll0.size hg3_3)
      refine W.nil ?_
      refine E.thenN ?_
      refine WC.seq ?_
      refine WC.seq ?_
      refine WC.draw [0, 1, 2, 3, 4, 5, 6, 7, 8, 9, 10, 11, 12, 13, 14, 15, 16] mixed (by kernel_rfl) ?_
      intro w4 d4
      have L3 := L2.trans d4
      have f4 := (b3_5.le d4)
      refine G.rd rfl rfl (.loadAll ag76 (by rfl) rfl f4) rfl rfl rfl ?_
      refine G.ef rfl rfl rfl rfl rfl ?_
      refine Ef.call go82 rfl rfl (edge_ok (xs.getD k noEdge) w4) ?_
      rintro _ w4_1 ⟨rfl, h4_1⟩
      refine ⟨_, rfl, ?_⟩
      refine ⟨fun _ => h4_1, ?_⟩
      have L5 := L3.trans h4_1
      refine G.any rfl rfl (.not rfl) rfl rfl rfl ?_
      by_cases q4_3 : edgeOk (xs.getD k noEdge) = true
      · refine G.any rfl rfl (.dec (.move rfl) (congrArg not (q4_3))) rfl rfl rfl ?_
        refine G.anyg rfl rfl (.move rfl) rfl rfl rfl (rfl) rfl rfl ?_
        refine G.anyg rfl rfl (.gtr rfl rfl) rfl rfl rfl (rfl) rfl rfl ?_
        by_cases q4_6 : 0 < ((k : Nat) : Int)
        · refine G.anyg rfl rfl (.dec (.move rfl) (decide_eq_true q4_6)) rfl rfl rfl (rfl) rfl rfl ?_
          refine G.anyg rfl rfl (.move rfl) rfl rfl rfl (rfl) rfl rfl ?_
          refine G.anyg rfl rfl (.move rfl) rfl rfl rfl (rfl) rfl rfl ?_
          refine G.anyg rfl rfl (.sub rfl rfl (by omega)) rfl rfl rfl (rfl) rfl rfl ?_
          refine G.anyg rfl rfl (.idxS ((k - 1)) Try.underlying59 sz76 rfl rfl (hV.isSome edgeV_row (by omega)) (by omega) (by omega)) rfl rfl rfl (rfl) rfl rfl ?_
          refine G.rdg rfl rfl (.vload ag76 rfl (hV.le L5) edgeV_row (getS xs noEdge (by first | omega | (simp only [List.length_cons, List.length_nil]; omega)))) rfl rfl rfl (rfl) rfl rfl ?_
          have f6 := (f4.le h4_1)
          refine G.rdg rfl rfl (.loadAll ag76 (by rfl) rfl f6) rfl rfl rfl (rfl) rfl rfl ?_
          refine G.efg rfl rfl rfl rfl rfl (rfl) rfl rfl ?_
          refine Ef.call go85 rfl rfl (order_ok (xs.getD (k - 1) noEdge) (xs.getD k noEdge) w4_1) ?_
          rintro _ w4_13 ⟨rfl, h4_13⟩
          refine ⟨_, rfl, ?_⟩
          refine ⟨fun _ => h4_13, ?_⟩
          have L7 := L5.trans h4_13
          refine G.anyg rfl rfl (.geq rfl rfl) rfl rfl rfl (rfl) rfl rfl ?_
          refine G.anyg rfl rfl (.pickT rfl rfl rfl) rfl rfl rfl (rfl) rfl rfl ?_
          refine G.any rfl rfl (.pickF rfl rfl rfl) rfl rfl rfl ?_
          refine G.nil ?_
          refine E.thenN ?_
          by_cases c1 : 0 ≤ (ordE (xs.getD (k - 1) noEdge) (xs.getD k noEdge))
          · refine WC.condY rfl (decide_eq_true c1) ?_
            refine WC.seq ?_
            refine WC.region ?_
            refine W.any (.assign rfl) rfl rfl rfl ?_
            refine W.nil ?_
            refine E.thenN ?_
            refine WC.ret ?_
            refine E.thenR ?_
            refine E.blkR ?_
            refine E.thenR ?_
            refine E.thenR ?_
            refine E.blkR ?_
            refine E.thenR ?_
            refine E.retG1 rfl rfl ?_
            exact ⟨congrArg (fun b => Ending.returned (Value.bool b)) (decide_eq_false (fun hr => by have hr := hr k (by omega); unfold RightAt at hr; first | exact absurd hr.1 (by assumption) | (have h2 := hr.2; clear hr; omega))).symm, L7⟩
          · refine WC.condN rfl (decide_eq_false c1) ?_
            refine WC.skip ?_
            refine E.thenN ?_
            refine WC.seq ?_
            refine WC.seq ?_
            refine WC.draw [0, 1, 2, 3, 4, 5, 6, 7, 8, 9, 10, 11, 12] mixed (by kernel_rfl) ?_
            intro w6 d6
            have L8 := L7.trans d6
            refine G.any rfl rfl (.move rfl) rfl rfl rfl ?_
            refine G.any rfl rfl (.eql rfl rfl) rfl rfl rfl ?_
            by_cases q6_2 : ((k : Nat) : Int) = 0
            · refine G.any rfl rfl (.dec (.move rfl) (decide_eq_true q6_2)) rfl rfl rfl ?_
              refine G.skip rfl rfl rfl rfl (rfl) rfl rfl ?_
              refine G.skip rfl rfl rfl rfl (rfl) rfl rfl ?_
              refine G.skip rfl rfl rfl rfl (rfl) rfl rfl ?_
              refine G.skip rfl rfl rfl rfl (rfl) rfl rfl ?_
              refine G.skip rfl rfl rfl rfl (rfl) rfl rfl ?_
              refine G.skip rfl rfl rfl rfl (rfl) rfl rfl ?_
              refine G.skip rfl rfl rfl rfl (rfl) rfl rfl ?_
              refine G.skip rfl rfl rfl rfl (rfl) rfl rfl ?_
              refine G.skip rfl rfl rfl rfl (rfl) rfl rfl ?_
              refine G.any rfl rfl (.pickT rfl rfl rfl) rfl rfl rfl ?_
              refine G.nil ?_
              refine E.thenN ?_
              refine WC.condT rfl ?_
              refine WC.exit ?_
              refine E.thenX ?_
              refine E.blkH ?_
              refine E.thenN ?_
              refine WC.region ?_
              refine W.any (.add rfl rfl (by omega)) rfl rfl rfl ?_
              refine W.any (.move rfl) rfl rfl rfl ?_
              refine W.nil ?_
              refine E.again (k + 1) (.cons rfl (.cons rfl (.cons rfl (.cons rfl (.nil _))))) ?_ ?_
              · exact ⟨by omega, fun j hj => by rcases Nat.lt_or_ge j k with h | h; exact hz j h; rw [show j = k by omega]; refine ⟨by assumption, fun _ => ?_, fun ⟨_, _⟩ => ⟨?_, ?_, ?_, ?_⟩⟩ <;> first | omega | (exfalso; omega) | (exact fun ⟨_, _⟩ => by omega), L8, by have := sz0; have := h3_3.size; have := h3_5.size; have := d4.size; have := h4_1.size; have := h4_13.size; have := d6.size; omega⟩
              · first | omega | (simp only []; omega)
            · refine G.any rfl rfl (.dec (.move rfl) (decide_eq_false q6_2)) rfl rfl rfl ?_
              refine G.anyg rfl rfl (.move rfl) rfl rfl rfl (rfl) rfl rfl ?_
              refine G.anyg rfl rfl (.move rfl) rfl rfl rfl (rfl) rfl rfl ?_
              refine G.anyg rfl rfl (.sub rfl rfl (by omega)) rfl rfl rfl (rfl) rfl rfl ?_
              refine G.anyg rfl rfl (.idxS ((k - 1)) Try.underlying59 sz76 rfl rfl (hV.isSome edgeV_row (by omega)) (by omega) (by omega)) rfl rfl rfl (rfl) rfl rfl ?_
              refine G.anyg rfl rfl (.vfield fa76_2 (hV.isSome edgeV_row (by omega)) rfl) rfl rfl rfl (rfl) rfl rfl ?_
              refine G.rdg rfl rfl (.vcell (j := (k - 1)) (o := 2) (v := .int .i64 ((xs.getD (k - 1) noEdge).c)) na3 rfl (hV.le L8) edgeV_row (getS xs noEdge (by first | omega | (simp only [List.length_cons, List.length_nil]; omega))) rfl) rfl rfl rfl (rfl) rfl rfl ?_
              refine G.anyg rfl rfl (.field0 fa76_2 rfl) rfl rfl rfl (rfl) rfl rfl ?_
              have f9 := (f6.le (h4_13.trans d6))
              refine G.rdg rfl rfl (.loadB (v := .int .i64 ((xs.getD k noEdge).c)) na3 rfl f9 rfl) rfl rfl rfl (rfl) rfl rfl ?_
              refine G.anyg rfl rfl (.neq rfl rfl) rfl rfl rfl (rfl) rfl rfl ?_
              refine G.any rfl rfl (.pickF rfl rfl rfl) rfl rfl rfl ?_
              refine G.nil ?_
              refine E.thenN ?_
              by_cases c2 : ((xs.getD (k - 1) noEdge).c) ≠ ((xs.getD k noEdge).c)
              · refine WC.condY rfl (decide_eq_true c2) ?_
                refine WC.exit ?_
                refine E.thenX ?_
                refine E.blkH ?_
                refine E.thenN ?_
                refine WC.region ?_
                refine W.any (.add rfl rfl (by omega)) rfl rfl rfl ?_
                refine W.any (.move rfl) rfl rfl rfl ?_
                refine W.nil ?_
                refine E.again (k + 1) (.cons rfl (.cons rfl (.cons rfl (.cons rfl (.nil _))))) ?_ ?_
                · exact ⟨by omega, fun j hj => by rcases Nat.lt_or_ge j k with h | h; exact hz j h; rw [show j = k by omega]; refine ⟨by assumption, fun _ => ?_, fun ⟨_, _⟩ => ⟨?_, ?_, ?_, ?_⟩⟩ <;> first | omega | (exfalso; omega) | (exact fun ⟨_, _⟩ => by omega), L8, by have := sz0; have := h3_3.size; have := h3_5.size; have := d4.size; have := h4_1.size; have := h4_13.size; have := d6.size; omega⟩
                · first | omega | (simp only []; omega)
              · refine WC.condN rfl (decide_eq_false c2) ?_
                refine WC.skip ?_
                refine E.thenN ?_
                refine WC.seq ?_
                refine WC.region ?_
                refine W.any (.move rfl) rfl rfl rfl ?_
                refine W.any (.move rfl) rfl rfl rfl ?_
                refine W.any (.sub rfl rfl (by omega)) rfl rfl rfl ?_
                refine W.any (.idxS ((k - 1)) Try.underlying59 sz76 rfl rfl (hV.isSome edgeV_row (by omega)) (by omega) (by omega)) rfl rfl rfl ?_
                refine W.rd (.vload ag76 rfl (hV.le L8) edgeV_row (getS xs noEdge (by first | omega | (simp only [List.length_cons, List.length_nil]; omega)))) rfl rfl rfl ?_
                refine W.ef rfl rfl rfl ?_
                refine Ef.allocA z76 ?_
                intro g7_5 w7_5 hg7_5 b7_5 h7_5
                have L10 := L8.trans h7_5
                have b7_5 : Blk w7_5 g7_5 76 (edgeV noEdge).toArray := b7_5
                refine W.ef0 rfl rfl ?_
                refine Ef.storeAll sz76 (by rfl) rfl rfl b7_5 (by rfl) (edgeV_row.one (xs.getD (k - 1) noEdge)) ?_
                intro w7_6 b7_6 h7_6
                have b7_6 : Blk w7_6 g7_5 76 (edgeV (xs.getD (k - 1) noEdge)).toArray := b7_6
                have L11 : Le w w7_6 := L10.then_ h7_6 (fun q hq => by cases hq; exact Nat.le_trans L8.size hg7_5)
                refine W.nil ?_
                refine E.thenN ?_
                refine WC.seq ?_
                refine WC.draw [0, 1, 2, 3, 4, 5, 6, 7, 8, 9, 10, 11, 12, 13, 14, 15, 16, 17, 18, 19, 20, 21, 22, 23, 24, 25, 26, 27, 28, 29, 30, 31, 32, 33] mixed (by kernel_rfl) ?_
                intro w8 d8
                have L12 := L11.trans d8
                refine G.any rfl rfl (.move rfl) rfl rfl rfl ?_
                refine G.any rfl rfl (.gtr rfl rfl) rfl rfl rfl ?_
                by_cases q8_2 : 1 < ((k : Nat) : Int)
                · refine G.any rfl rfl (.dec (.move rfl) (decide_eq_true q8_2)) rfl rfl rfl ?_
                  refine G.anyg rfl rfl (.move rfl) rfl rfl rfl (rfl) rfl rfl ?_
                  refine G.anyg rfl rfl (.move rfl) rfl rfl rfl (rfl) rfl rfl ?_
                  refine G.anyg rfl rfl (.sub rfl rfl (by omega)) rfl rfl rfl (rfl) rfl rfl ?_
                  refine G.anyg rfl rfl (.idxS ((k - 2)) Try.underlying59 sz76 rfl rfl (hV.isSome edgeV_row (by omega)) (by omega) (by omega)) rfl rfl rfl (rfl) rfl rfl ?_
                  refine G.anyg rfl rfl (.vfield fa76_2 (hV.isSome edgeV_row (by omega)) rfl) rfl rfl rfl (rfl) rfl rfl ?_
                  refine G.rdg rfl rfl (.vcell (j := (k - 2)) (o := 2) (v := .int .i64 ((xs.getD (k - 2) noEdge).c)) na3 rfl (hV.le L12) edgeV_row (getS xs noEdge (by first | omega | (simp only [List.length_cons, List.length_nil]; omega))) rfl) rfl rfl rfl (rfl) rfl rfl ?_
                  refine G.anyg rfl rfl (.field0 fa76_2 rfl) rfl rfl rfl (rfl) rfl rfl ?_
                  have f13 := (((f9.le h7_5).ch h7_6 (fun h => (show g7_5 ≠ g3_3 from by have := f9.lt; omega) (Option.some.inj h))).le d8)
                  refine G.rdg rfl rfl (.loadB (v := .int .i64 ((xs.getD k noEdge).c)) na3 rfl f13 rfl) rfl rfl rfl (rfl) rfl rfl ?_
                  refine G.anyg rfl rfl (.eql rfl rfl) rfl rfl rfl (rfl) rfl rfl ?_
                  refine G.any rfl rfl (.pickT rfl rfl rfl) rfl rfl rfl ?_
                  by_cases q8_13 : ((xs.getD (k - 2) noEdge).c) = ((xs.getD k noEdge).c)
                  · refine G.any rfl rfl (.dec (.move rfl) (decide_eq_true q8_13)) rfl rfl rfl ?_
                    refine G.skip rfl rfl rfl rfl (rfl) rfl rfl ?_
                    refine G.skip rfl rfl rfl rfl (rfl) rfl rfl ?_
                    refine G.skip rfl rfl rfl rfl (rfl) rfl rfl ?_
                    refine G.skip rfl rfl rfl rfl (rfl) rfl rfl ?_
                    refine G.skip rfl rfl rfl rfl (rfl) rfl rfl ?_
                    refine G.any rfl rfl (.pickT rfl rfl rfl) rfl rfl rfl ?_
                    refine G.any rfl rfl (.move rfl) rfl rfl rfl ?_
                    refine G.skip rfl rfl rfl rfl (rfl) rfl rfl ?_
                    refine G.skip rfl rfl rfl rfl (rfl) rfl rfl ?_
                    refine G.skip rfl rfl rfl rfl (rfl) rfl rfl ?_
                    refine G.skip rfl rfl rfl rfl (rfl) rfl rfl ?_
                    refine G.skip rfl rfl rfl rfl (rfl) rfl rfl ?_
                    refine G.any rfl rfl (.pickT rfl rfl rfl) rfl rfl rfl ?_
                    refine G.any rfl rfl (.move rfl) rfl rfl rfl ?_
                    refine G.skip rfl rfl rfl rfl (rfl) rfl rfl ?_
                    refine G.skip rfl rfl rfl rfl (rfl) rfl rfl ?_
                    refine G.skip rfl rfl rfl rfl (rfl) rfl rfl ?_
                    refine G.skip rfl rfl rfl rfl (rfl) rfl rfl ?_
                    refine G.skip rfl rfl rfl rfl (rfl) rfl rfl ?_
                    refine G.any rfl rfl (.pickT rfl rfl rfl) rfl rfl rfl ?_
                    refine G.nil ?_
                    refine E.thenN ?_
                    refine WC.condT rfl ?_
                    refine WC.seq ?_
                    refine WC.region ?_
                    refine W.any (.assign rfl) rfl rfl rfl ?_
                    refine W.nil ?_
                    refine E.thenN ?_
                    refine WC.ret ?_
                    refine E.blkR ?_
                    refine E.thenR ?_
                    refine E.thenR ?_
                    refine E.blkR ?_
                    refine E.thenR ?_
                    refine E.retG1 rfl rfl ?_
                    exact ⟨congrArg (fun b => Ending.returned (Value.bool b)) (decide_eq_false (fun hr => by have hr := hr k (by omega); unfold RightAt at hr; first | exact absurd hr.1 (by assumption) | (have h2 := hr.2; clear hr; omega))).symm, L12⟩
                  · refine G.any rfl rfl (.dec (.move rfl) (decide_eq_false q8_13)) rfl rfl rfl ?_
                    refine G.anyg rfl rfl (.field0 fa76_0 rfl) rfl rfl rfl (rfl) rfl rfl ?_
                    have f14 := (b7_6.le d8)
                    refine G.rdg rfl rfl (.loadB (v := .int .i64 ((xs.getD (k - 1) noEdge).f)) na3 rfl f14 rfl) rfl rfl rfl (rfl) rfl rfl ?_
                    refine G.anyg rfl rfl (.field0 fa76_1 rfl) rfl rfl rfl (rfl) rfl rfl ?_
                    refine G.rdg rfl rfl (.loadB (v := .int .i64 ((xs.getD k noEdge).t)) na3 rfl f13 rfl) rfl rfl rfl (rfl) rfl rfl ?_
                    refine G.anyg rfl rfl (.neq rfl rfl) rfl rfl rfl (rfl) rfl rfl ?_
                    refine G.any rfl rfl (.pickF rfl rfl rfl) rfl rfl rfl ?_
                    by_cases q8_20 : ((xs.getD (k - 1) noEdge).f) ≠ ((xs.getD k noEdge).t)
                    · refine G.any rfl rfl (.dec (.move rfl) (decide_eq_true q8_20)) rfl rfl rfl ?_
                      refine G.skip rfl rfl rfl rfl (rfl) rfl rfl ?_
                      refine G.skip rfl rfl rfl rfl (rfl) rfl rfl ?_
                      refine G.skip rfl rfl rfl rfl (rfl) rfl rfl ?_
                      refine G.skip rfl rfl rfl rfl (rfl) rfl rfl ?_
                      refine G.skip rfl rfl rfl rfl (rfl) rfl rfl ?_
                      refine G.any rfl rfl (.pickT rfl rfl rfl) rfl rfl rfl ?_
                      refine G.any rfl rfl (.move rfl) rfl rfl rfl ?_
                      refine G.skip rfl rfl rfl rfl (rfl) rfl rfl ?_
                      refine G.skip rfl rfl rfl rfl (rfl) rfl rfl ?_
                      refine G.skip rfl rfl rfl rfl (rfl) rfl rfl ?_
                      refine G.skip rfl rfl rfl rfl (rfl) rfl rfl ?_
                      refine G.skip rfl rfl rfl rfl (rfl) rfl rfl ?_
                      refine G.any rfl rfl (.pickT rfl rfl rfl) rfl rfl rfl ?_
                      refine G.nil ?_
                      refine E.thenN ?_
                      refine WC.condT rfl ?_
                      refine WC.seq ?_
                      refine WC.region ?_
                      refine W.any (.assign rfl) rfl rfl rfl ?_
                      refine W.nil ?_
                      refine E.thenN ?_
                      refine WC.ret ?_
                      refine E.blkR ?_
                      refine E.thenR ?_
                      refine E.thenR ?_
                      refine E.blkR ?_
                      refine E.thenR ?_
                      refine E.retG1 rfl rfl ?_
                      exact ⟨congrArg (fun b => Ending.returned (Value.bool b)) (decide_eq_false (fun hr => by have hr := hr k (by omega); unfold RightAt at hr; first | exact absurd hr.1 (by assumption) | (have h2 := hr.2; clear hr; omega))).symm, L12⟩
                    · refine G.any rfl rfl (.dec (.move rfl) (decide_eq_false q8_20)) rfl rfl rfl ?_
                      refine G.anyg rfl rfl (.field0 fa76_1 rfl) rfl rfl rfl (rfl) rfl rfl ?_
                      refine G.rdg rfl rfl (.loadB (v := .int .i64 ((xs.getD (k - 1) noEdge).t)) na3 rfl f14 rfl) rfl rfl rfl (rfl) rfl rfl ?_
                      refine G.anyg rfl rfl (.field0 fa76_0 rfl) rfl rfl rfl (rfl) rfl rfl ?_
                      refine G.rdg rfl rfl (.loadB (v := .int .i64 ((xs.getD k noEdge).f)) na3 rfl f13 rfl) rfl rfl rfl (rfl) rfl rfl ?_
                      refine G.anyg rfl rfl (.neq rfl rfl) rfl rfl rfl (rfl) rfl rfl ?_
                      refine G.any rfl rfl (.pickF rfl rfl rfl) rfl rfl rfl ?_
                      by_cases q8_27 : ((xs.getD (k - 1) noEdge).t) ≠ ((xs.getD k noEdge).f)
                      · refine G.any rfl rfl (.dec (.move rfl) (decide_eq_true q8_27)) rfl rfl rfl ?_
                        refine G.skip rfl rfl rfl rfl (rfl) rfl rfl ?_
                        refine G.skip rfl rfl rfl rfl (rfl) rfl rfl ?_
                        refine G.skip rfl rfl rfl rfl (rfl) rfl rfl ?_
                        refine G.skip rfl rfl rfl rfl (rfl) rfl rfl ?_
                        refine G.skip rfl rfl rfl rfl (rfl) rfl rfl ?_
                        refine G.any rfl rfl (.pickT rfl rfl rfl) rfl rfl rfl ?_
                        refine G.nil ?_
                        refine E.thenN ?_
                        refine WC.condT rfl ?_
                        refine WC.seq ?_
                        refine WC.region ?_
                        refine W.any (.assign rfl) rfl rfl rfl ?_
                        refine W.nil ?_
                        refine E.thenN ?_
                        refine WC.ret ?_
                        refine E.blkR ?_
                        refine E.thenR ?_
                        refine E.thenR ?_
                        refine E.blkR ?_
                        refine E.thenR ?_
                        refine E.retG1 rfl rfl ?_
                        exact ⟨congrArg (fun b => Ending.returned (Value.bool b)) (decide_eq_false (fun hr => by have hr := hr k (by omega); unfold RightAt at hr; first | exact absurd hr.1 (by assumption) | (have h2 := hr.2; clear hr; omega))).symm, L12⟩
                      · refine G.any rfl rfl (.dec (.move rfl) (decide_eq_false q8_27)) rfl rfl rfl ?_
                        refine G.anyg rfl rfl (.field0 fa76_3 rfl) rfl rfl rfl (rfl) rfl rfl ?_
                        refine G.rdg rfl rfl (.loadB (v := .int .i64 ((xs.getD (k - 1) noEdge).r)) na3 rfl f14 rfl) rfl rfl rfl (rfl) rfl rfl ?_
                        refine G.anyg rfl rfl (.field0 fa76_3 rfl) rfl rfl rfl (rfl) rfl rfl ?_
                        refine G.rdg rfl rfl (.loadB (v := .int .i64 ((xs.getD k noEdge).r)) na3 rfl f13 rfl) rfl rfl rfl (rfl) rfl rfl ?_
                        refine G.anyg rfl rfl (.neq rfl rfl) rfl rfl rfl (rfl) rfl rfl ?_
                        refine G.any rfl rfl (.pickF rfl rfl rfl) rfl rfl rfl ?_
                        refine G.nil ?_
                        refine E.thenN ?_
                        by_cases c3 : ((xs.getD (k - 1) noEdge).r) ≠ ((xs.getD k noEdge).r)
                        · refine WC.condY rfl (decide_eq_true c3) ?_
                          refine WC.seq ?_
                          refine WC.region ?_
                          refine W.any (.assign rfl) rfl rfl rfl ?_
                          refine W.nil ?_
                          refine E.thenN ?_
                          refine WC.ret ?_
                          refine E.blkR ?_
                          refine E.thenR ?_
                          refine E.thenR ?_
                          refine E.blkR ?_
                          refine E.thenR ?_
                          refine E.retG1 rfl rfl ?_
                          exact ⟨congrArg (fun b => Ending.returned (Value.bool b)) (decide_eq_false (fun hr => by have hr := hr k (by omega); unfold RightAt at hr; first | exact absurd hr.1 (by assumption) | (have h2 := hr.2; clear hr; omega))).symm, L12⟩
                        · refine WC.condN rfl (decide_eq_false c3) ?_
                          refine WC.skip ?_
                          refine E.blkN ?_
                          refine E.thenN ?_
                          refine WC.region ?_
                          refine W.any (.add rfl rfl (by omega)) rfl rfl rfl ?_
                          refine W.any (.move rfl) rfl rfl rfl ?_
                          refine W.nil ?_
                          refine E.again (k + 1) (.cons rfl (.cons rfl (.cons rfl (.cons rfl (.nil _))))) ?_ ?_
                          · exact ⟨by omega, fun j hj => by rcases Nat.lt_or_ge j k with h | h; exact hz j h; rw [show j = k by omega]; refine ⟨by assumption, fun _ => ?_, fun ⟨_, _⟩ => ⟨?_, ?_, ?_, ?_⟩⟩ <;> first | omega | (exfalso; omega) | (exact fun ⟨_, _⟩ => by omega), L12, by have := sz0; have := h3_3.size; have := h3_5.size; have := d4.size; have := h4_1.size; have := h4_13.size; have := d6.size; have := h7_5.size; have := h7_6.size; have := d8.size; omega⟩
                          · first | omega | (simp only []; omega)
                · refine G.any rfl rfl (.dec (.move rfl) (decide_eq_false q8_2)) rfl rfl rfl ?_
                  refine G.skip rfl rfl rfl rfl (rfl) rfl rfl ?_
                  refine G.skip rfl rfl rfl rfl (rfl) rfl rfl ?_
                  refine G.skip rfl rfl rfl rfl (rfl) rfl rfl ?_
                  refine G.skip rfl rfl rfl rfl (rfl) rfl rfl ?_
                  refine G.skip rfl rfl rfl rfl (rfl) rfl rfl ?_
                  refine G.skip rfl rfl rfl rfl (rfl) rfl rfl ?_
                  refine G.skip rfl rfl rfl rfl (rfl) rfl rfl ?_
                  refine G.skip rfl rfl rfl rfl (rfl) rfl rfl ?_
                  refine G.skip rfl rfl rfl rfl (rfl) rfl rfl ?_
                  refine G.any rfl rfl (.pickF rfl rfl rfl) rfl rfl rfl ?_
                  refine G.any rfl rfl (.move rfl) rfl rfl rfl ?_
                  refine G.anyg rfl rfl (.field0 fa76_0 rfl) rfl rfl rfl (rfl) rfl rfl ?_
                  have f15 := (b7_6.le d8)
                  refine G.rdg rfl rfl (.loadB (v := .int .i64 ((xs.getD (k - 1) noEdge).f)) na3 rfl f15 rfl) rfl rfl rfl (rfl) rfl rfl ?_
                  refine G.anyg rfl rfl (.field0 fa76_1 rfl) rfl rfl rfl (rfl) rfl rfl ?_
                  have f16 := (((f9.le h7_5).ch h7_6 (fun h => (show g7_5 ≠ g3_3 from by have := f9.lt; omega) (Option.some.inj h))).le d8)
                  refine G.rdg rfl rfl (.loadB (v := .int .i64 ((xs.getD k noEdge).t)) na3 rfl f16 rfl) rfl rfl rfl (rfl) rfl rfl ?_
                  refine G.anyg rfl rfl (.neq rfl rfl) rfl rfl rfl (rfl) rfl rfl ?_
                  refine G.any rfl rfl (.pickF rfl rfl rfl) rfl rfl rfl ?_
                  by_cases q8_20 : ((xs.getD (k - 1) noEdge).f) ≠ ((xs.getD k noEdge).t)
                  · refine G.any rfl rfl (.dec (.move rfl) (decide_eq_true q8_20)) rfl rfl rfl ?_
                    refine G.skip rfl rfl rfl rfl (rfl) rfl rfl ?_
                    refine G.skip rfl rfl rfl rfl (rfl) rfl rfl ?_
                    refine G.skip rfl rfl rfl rfl (rfl) rfl rfl ?_
                    refine G.skip rfl rfl rfl rfl (rfl) rfl rfl ?_
                    refine G.skip rfl rfl rfl rfl (rfl) rfl rfl ?_
                    refine G.any rfl rfl (.pickT rfl rfl rfl) rfl rfl rfl ?_
                    refine G.any rfl rfl (.move rfl) rfl rfl rfl ?_
                    refine G.skip rfl rfl rfl rfl (rfl) rfl rfl ?_
                    refine G.skip rfl rfl rfl rfl (rfl) rfl rfl ?_
                    refine G.skip rfl rfl rfl rfl (rfl) rfl rfl ?_
                    refine G.skip rfl rfl rfl rfl (rfl) rfl rfl ?_
                    refine G.skip rfl rfl rfl rfl (rfl) rfl rfl ?_
                    refine G.any rfl rfl (.pickT rfl rfl rfl) rfl rfl rfl ?_
                    refine G.nil ?_
                    refine E.thenN ?_
                    refine WC.condT rfl ?_
                    refine WC.seq ?_
                    refine WC.region ?_
                    refine W.any (.assign rfl) rfl rfl rfl ?_
                    refine W.nil ?_
                    refine E.thenN ?_
                    refine WC.ret ?_
                    refine E.blkR ?_
                    refine E.thenR ?_
                    refine E.thenR ?_
                    refine E.blkR ?_
                    refine E.thenR ?_
                    refine E.retG1 rfl rfl ?_
                    exact ⟨congrArg (fun b => Ending.returned (Value.bool b)) (decide_eq_false (fun hr => by have hr := hr k (by omega); unfold RightAt at hr; first | exact absurd hr.1 (by assumption) | (have h2 := hr.2; clear hr; omega))).symm, L12⟩
                  · refine G.any rfl rfl (.dec (.move rfl) (decide_eq_false q8_20)) rfl rfl rfl ?_
                    refine G.anyg rfl rfl (.field0 fa76_1 rfl) rfl rfl rfl (rfl) rfl rfl ?_
                    refine G.rdg rfl rfl (.loadB (v := .int .i64 ((xs.getD (k - 1) noEdge).t)) na3 rfl f15 rfl) rfl rfl rfl (rfl) rfl rfl ?_
                    refine G.anyg rfl rfl (.field0 fa76_0 rfl) rfl rfl rfl (rfl) rfl rfl ?_
                    refine G.rdg rfl rfl (.loadB (v := .int .i64 ((xs.getD k noEdge).f)) na3 rfl f16 rfl) rfl rfl rfl (rfl) rfl rfl ?_
                    refine G.anyg rfl rfl (.neq rfl rfl) rfl rfl rfl (rfl) rfl rfl ?_
                    refine G.any rfl rfl (.pickF rfl rfl rfl) rfl rfl rfl ?_
                    by_cases q8_27 : ((xs.getD (k - 1) noEdge).t) ≠ ((xs.getD k noEdge).f)
                    · refine G.any rfl rfl (.dec (.move rfl) (decide_eq_true q8_27)) rfl rfl rfl ?_
                      refine G.skip rfl rfl rfl rfl (rfl) rfl rfl ?_
                      refine G.skip rfl rfl rfl rfl (rfl) rfl rfl ?_
                      refine G.skip rfl rfl rfl rfl (rfl) rfl rfl ?_
                      refine G.skip rfl rfl rfl rfl (rfl) rfl rfl ?_
                      refine G.skip rfl rfl rfl rfl (rfl) rfl rfl ?_
                      refine G.any rfl rfl (.pickT rfl rfl rfl) rfl rfl rfl ?_
                      refine G.nil ?_
                      refine E.thenN ?_
                      refine WC.condT rfl ?_
                      refine WC.seq ?_
                      refine WC.region ?_
                      refine W.any (.assign rfl) rfl rfl rfl ?_
                      refine W.nil ?_
                      refine E.thenN ?_
                      refine WC.ret ?_
                      refine E.blkR ?_
                      refine E.thenR ?_
                      refine E.thenR ?_
                      refine E.blkR ?_
                      refine E.thenR ?_
                      refine E.retG1 rfl rfl ?_
                      exact ⟨congrArg (fun b => Ending.returned (Value.bool b)) (decide_eq_false (fun hr => by have hr := hr k (by omega); unfold RightAt at hr; first | exact absurd hr.1 (by assumption) | (have h2 := hr.2; clear hr; omega))).symm, L12⟩
                    · refine G.any rfl rfl (.dec (.move rfl) (decide_eq_false q8_27)) rfl rfl rfl ?_
                      refine G.anyg rfl rfl (.field0 fa76_3 rfl) rfl rfl rfl (rfl) rfl rfl ?_
                      refine G.rdg rfl rfl (.loadB (v := .int .i64 ((xs.getD (k - 1) noEdge).r)) na3 rfl f15 rfl) rfl rfl rfl (rfl) rfl rfl ?_
                      refine G.anyg rfl rfl (.field0 fa76_3 rfl) rfl rfl rfl (rfl) rfl rfl ?_
                      refine G.rdg rfl rfl (.loadB (v := .int .i64 ((xs.getD k noEdge).r)) na3 rfl f16 rfl) rfl rfl rfl (rfl) rfl rfl ?_
                      refine G.anyg rfl rfl (.neq rfl rfl) rfl rfl rfl (rfl) rfl rfl ?_
                      refine G.any rfl rfl (.pickF rfl rfl rfl) rfl rfl rfl ?_
                      refine G.nil ?_
                      refine E.thenN ?_
                      by_cases c3 : ((xs.getD (k - 1) noEdge).r) ≠ ((xs.getD k noEdge).r)
                      · refine WC.condY rfl (decide_eq_true c3) ?_
                        refine WC.seq ?_
                        refine WC.region ?_
                        refine W.any (.assign rfl) rfl rfl rfl ?_
                        refine W.nil ?_
                        refine E.thenN ?_
                        refine WC.ret ?_
                        refine E.blkR ?_
                        refine E.thenR ?_
                        refine E.thenR ?_
                        refine E.blkR ?_
                        refine E.thenR ?_
                        refine E.retG1 rfl rfl ?_
                        exact ⟨congrArg (fun b => Ending.returned (Value.bool b)) (decide_eq_false (fun hr => by have hr := hr k (by omega); unfold RightAt at hr; first | exact absurd hr.1 (by assumption) | (have h2 := hr.2; clear hr; omega))).symm, L12⟩
                      · refine WC.condN rfl (decide_eq_false c3) ?_
                        refine WC.skip ?_
                        refine E.blkN ?_
                        refine E.thenN ?_
                        refine WC.region ?_
                        refine W.any (.add rfl rfl (by omega)) rfl rfl rfl ?_
                        refine W.any (.move rfl) rfl rfl rfl ?_
                        refine W.nil ?_
                        refine E.again (k + 1) (.cons rfl (.cons rfl (.cons rfl (.cons rfl (.nil _))))) ?_ ?_
                        · exact ⟨by omega, fun j hj => by rcases Nat.lt_or_ge j k with h | h; exact hz j h; rw [show j = k by omega]; refine ⟨by assumption, fun _ => ?_, fun ⟨_, _⟩ => ⟨?_, ?_, ?_, ?_⟩⟩ <;> first | omega | (exfalso; omega) | (exact fun ⟨_, _⟩ => by omega), L12, by have := sz0; have := h3_3.size; have := h3_5.size; have := d4.size; have := h4_1.size; have := h4_13.size; have := d6.size; have := h7_5.size; have := h7_6.size; have := d8.size; omega⟩
                        · first | omega | (simp only []; omega)
        · refine G.anyg rfl rfl (.dec (.move rfl) (decide_eq_false q4_6)) rfl rfl rfl (rfl) rfl rfl ?_
          refine G.skip rfl rfl rfl rfl (rfl) rfl rfl ?_
          refine G.skip rfl rfl rfl rfl (rfl) rfl rfl ?_
          refine G.skip rfl rfl rfl rfl (rfl) rfl rfl ?_
          refine G.skip rfl rfl rfl rfl (rfl) rfl rfl ?_
          refine G.skip rfl rfl rfl rfl (rfl) rfl rfl ?_
          refine G.skip rfl rfl rfl rfl (rfl) rfl rfl ?_
          refine G.skip rfl rfl rfl rfl (rfl) rfl rfl ?_
          refine G.skip rfl rfl rfl rfl (rfl) rfl rfl ?_
          refine G.anyg rfl rfl (.pickF rfl rfl rfl) rfl rfl rfl (rfl) rfl rfl ?_
          refine G.any rfl rfl (.pickF rfl rfl rfl) rfl rfl rfl ?_
          refine G.nil ?_
          refine E.thenN ?_
          refine WC.condF rfl ?_
          refine WC.skip ?_
          refine E.thenN ?_
          refine WC.seq ?_
          refine WC.seq ?_
          refine WC.draw [0, 1, 2, 3, 4, 5, 6, 7, 8, 9, 10, 11, 12] mixed (by kernel_rfl) ?_
          intro w6 d6
          have L17 := L5.trans d6
          refine G.any rfl rfl (.move rfl) rfl rfl rfl ?_
          refine G.any rfl rfl (.eql rfl rfl) rfl rfl rfl ?_
          by_cases q6_2 : ((k : Nat) : Int) = 0
          · refine G.any rfl rfl (.dec (.move rfl) (decide_eq_true q6_2)) rfl rfl rfl ?_
            refine G.skip rfl rfl rfl rfl (rfl) rfl rfl ?_
            refine G.skip rfl rfl rfl rfl (rfl) rfl rfl ?_
            refine G.skip rfl rfl rfl rfl (rfl) rfl rfl ?_
            refine G.skip rfl rfl rfl rfl (rfl) rfl rfl ?_
            refine G.skip rfl rfl rfl rfl (rfl) rfl rfl ?_
            refine G.skip rfl rfl rfl rfl (rfl) rfl rfl ?_
            refine G.skip rfl rfl rfl rfl (rfl) rfl rfl ?_
            refine G.skip rfl rfl rfl rfl (rfl) rfl rfl ?_
            refine G.skip rfl rfl rfl rfl (rfl) rfl rfl ?_
            refine G.any rfl rfl (.pickT rfl rfl rfl) rfl rfl rfl ?_
            refine G.nil ?_
            refine E.thenN ?_
            refine WC.condT rfl ?_
            refine WC.exit ?_
            refine E.thenX ?_
            refine E.blkH ?_
            refine E.thenN ?_
            refine WC.region ?_
            refine W.any (.add rfl rfl (by omega)) rfl rfl rfl ?_
            refine W.any (.move rfl) rfl rfl rfl ?_
            refine W.nil ?_
            refine E.again (k + 1) (.cons rfl (.cons rfl (.cons rfl (.cons rfl (.nil _))))) ?_ ?_
            · exact ⟨by omega, fun j hj => by rcases Nat.lt_or_ge j k with h | h; exact hz j h; rw [show j = k by omega]; refine ⟨by assumption, fun _ => ?_, fun ⟨_, _⟩ => ⟨?_, ?_, ?_, ?_⟩⟩ <;> first | omega | (exfalso; omega) | (exact fun ⟨_, _⟩ => by omega), L17, by have := sz0; have := h3_3.size; have := h3_5.size; have := d4.size; have := h4_1.size; have := d6.size; omega⟩
            · first | omega | (simp only []; omega)
          · refine G.any rfl rfl (.dec (.move rfl) (decide_eq_false q6_2)) rfl rfl rfl ?_
            refine G.anyg rfl rfl (.move rfl) rfl rfl rfl (rfl) rfl rfl ?_
            refine G.anyg rfl rfl (.move rfl) rfl rfl rfl (rfl) rfl rfl ?_
            refine G.anyg rfl rfl (.sub rfl rfl (by omega)) rfl rfl rfl (rfl) rfl rfl ?_
            refine G.anyg rfl rfl (.idxS ((k - 1)) Try.underlying59 sz76 rfl rfl (hV.isSome edgeV_row (by omega)) (by omega) (by omega)) rfl rfl rfl (rfl) rfl rfl ?_
            refine G.anyg rfl rfl (.vfield fa76_2 (hV.isSome edgeV_row (by omega)) rfl) rfl rfl rfl (rfl) rfl rfl ?_
            refine G.rdg rfl rfl (.vcell (j := (k - 1)) (o := 2) (v := .int .i64 ((xs.getD (k - 1) noEdge).c)) na3 rfl (hV.le L17) edgeV_row (getS xs noEdge (by first | omega | (simp only [List.length_cons, List.length_nil]; omega))) rfl) rfl rfl rfl (rfl) rfl rfl ?_
            refine G.anyg rfl rfl (.field0 fa76_2 rfl) rfl rfl rfl (rfl) rfl rfl ?_
            have f18 := (f4.le (h4_1.trans d6))
            refine G.rdg rfl rfl (.loadB (v := .int .i64 ((xs.getD k noEdge).c)) na3 rfl f18 rfl) rfl rfl rfl (rfl) rfl rfl ?_
            refine G.anyg rfl rfl (.neq rfl rfl) rfl rfl rfl (rfl) rfl rfl ?_
            refine G.any rfl rfl (.pickF rfl rfl rfl) rfl rfl rfl ?_
            refine G.nil ?_
            refine E.thenN ?_
            by_cases c2 : ((xs.getD (k - 1) noEdge).c) ≠ ((xs.getD k noEdge).c)
            · refine WC.condY rfl (decide_eq_true c2) ?_
              refine WC.exit ?_
              refine E.thenX ?_
              refine E.blkH ?_
              refine E.thenN ?_
              refine WC.region ?_
              refine W.any (.add rfl rfl (by omega)) rfl rfl rfl ?_
              refine W.any (.move rfl) rfl rfl rfl ?_
              refine W.nil ?_
              refine E.again (k + 1) (.cons rfl (.cons rfl (.cons rfl (.cons rfl (.nil _))))) ?_ ?_
              · exact ⟨by omega, fun j hj => by rcases Nat.lt_or_ge j k with h | h; exact hz j h; rw [show j = k by omega]; refine ⟨by assumption, fun _ => ?_, fun ⟨_, _⟩ => ⟨?_, ?_, ?_, ?_⟩⟩ <;> first | omega | (exfalso; omega) | (exact fun ⟨_, _⟩ => by omega), L17, by have := sz0; have := h3_3.size; have := h3_5.size; have := d4.size; have := h4_1.size; have := d6.size; omega⟩
              · first | omega | (simp only []; omega)
            · refine WC.condN rfl (decide_eq_false c2) ?_
              refine WC.skip ?_
              refine E.thenN ?_
              refine WC.seq ?_
              refine WC.region ?_
              refine W.any (.move rfl) rfl rfl rfl ?_
              refine W.any (.move rfl) rfl rfl rfl ?_
              refine W.any (.sub rfl rfl (by omega)) rfl rfl rfl ?_
              refine W.any (.idxS ((k - 1)) Try.underlying59 sz76 rfl rfl (hV.isSome edgeV_row (by omega)) (by omega) (by omega)) rfl rfl rfl ?_
              refine W.rd (.vload ag76 rfl (hV.le L17) edgeV_row (getS xs noEdge (by first | omega | (simp only [List.length_cons, List.length_nil]; omega)))) rfl rfl rfl ?_
              refine W.ef rfl rfl rfl ?_
              refine Ef.allocA z76 ?_
              intro g7_5_1 w7_5_1 hg7_5_1 b7_5_1 h7_5_1
              have L19 := L17.trans h7_5_1
              have b7_5_1 : Blk w7_5_1 g7_5_1 76 (edgeV noEdge).toArray := b7_5_1
              refine W.ef0 rfl rfl ?_
              refine Ef.storeAll sz76 (by rfl) rfl rfl b7_5_1 (by rfl) (edgeV_row.one (xs.getD (k - 1) noEdge)) ?_
              intro w7_6_1 b7_6_1 h7_6_1
              have b7_6_1 : Blk w7_6_1 g7_5_1 76 (edgeV (xs.getD (k - 1) noEdge)).toArray := b7_6_1
              have L20 : Le w w7_6_1 := L19.then_ h7_6_1 (fun q hq => by cases hq; exact Nat.le_trans L17.size hg7_5_1)
              refine W.nil ?_
              refine E.thenN ?_
              refine WC.seq ?_
              refine WC.draw [0, 1, 2, 3, 4, 5, 6, 7, 8, 9, 10, 11, 12, 13, 14, 15, 16, 17, 18, 19, 20, 21, 22, 23, 24, 25, 26, 27, 28, 29, 30, 31, 32, 33] mixed (by kernel_rfl) ?_
              intro w8 d8
              have L21 := L20.trans d8
              refine G.any rfl rfl (.move rfl) rfl rfl rfl ?_
              refine G.any rfl rfl (.gtr rfl rfl) rfl rfl rfl ?_
              by_cases q8_2 : 1 < ((k : Nat) : Int)
              · refine G.any rfl rfl (.dec (.move rfl) (decide_eq_true q8_2)) rfl rfl rfl ?_
                refine G.anyg rfl rfl (.move rfl) rfl rfl rfl (rfl) rfl rfl ?_
                refine G.anyg rfl rfl (.move rfl) rfl rfl rfl (rfl) rfl rfl ?_
                refine G.anyg rfl rfl (.sub rfl rfl (by omega)) rfl rfl rfl (rfl) rfl rfl ?_
                refine G.anyg rfl rfl (.idxS ((k - 2)) Try.underlying59 sz76 rfl rfl (hV.isSome edgeV_row (by omega)) (by omega) (by omega)) rfl rfl rfl (rfl) rfl rfl ?_
                refine G.anyg rfl rfl (.vfield fa76_2 (hV.isSome edgeV_row (by omega)) rfl) rfl rfl rfl (rfl) rfl rfl ?_
                refine G.rdg rfl rfl (.vcell (j := (k - 2)) (o := 2) (v := .int .i64 ((xs.getD (k - 2) noEdge).c)) na3 rfl (hV.le L21) edgeV_row (getS xs noEdge (by first | omega | (simp only [List.length_cons, List.length_nil]; omega))) rfl) rfl rfl rfl (rfl) rfl rfl ?_
                refine G.anyg rfl rfl (.field0 fa76_2 rfl) rfl rfl rfl (rfl) rfl rfl ?_
                have f22 := (((f18.le h7_5_1).ch h7_6_1 (fun h => (show g7_5_1 ≠ g3_3 from by have := f18.lt; omega) (Option.some.inj h))).le d8)
                refine G.rdg rfl rfl (.loadB (v := .int .i64 ((xs.getD k noEdge).c)) na3 rfl f22 rfl) rfl rfl rfl (rfl) rfl rfl ?_
                refine G.anyg rfl rfl (.eql rfl rfl) rfl rfl rfl (rfl) rfl rfl ?_
                refine G.any rfl rfl (.pickT rfl rfl rfl) rfl rfl rfl ?_
                by_cases q8_13 : ((xs.getD (k - 2) noEdge).c) = ((xs.getD k noEdge).c)
                · refine G.any rfl rfl (.dec (.move rfl) (decide_eq_true q8_13)) rfl rfl rfl ?_
                  refine G.skip rfl rfl rfl rfl (rfl) rfl rfl ?_
                  refine G.skip rfl rfl rfl rfl (rfl) rfl rfl ?_
                  refine G.skip rfl rfl rfl rfl (rfl) rfl rfl ?_
                  refine G.skip rfl rfl rfl rfl (rfl) rfl rfl ?_
                  refine G.skip rfl rfl rfl rfl (rfl) rfl rfl ?_
                  refine G.any rfl rfl (.pickT rfl rfl rfl) rfl rfl rfl ?_
                  refine G.any rfl rfl (.move rfl) rfl rfl rfl ?_
                  refine G.skip rfl rfl rfl rfl (rfl) rfl rfl ?_
                  refine G.skip rfl rfl rfl rfl (rfl) rfl rfl ?_
                  refine G.skip rfl rfl rfl rfl (rfl) rfl rfl ?_
                  refine G.skip rfl rfl rfl rfl (rfl) rfl rfl ?_
                  refine G.skip rfl rfl rfl rfl (rfl) rfl rfl ?_
                  refine G.any rfl rfl (.pickT rfl rfl rfl) rfl rfl rfl ?_
                  refine G.any rfl rfl (.move rfl) rfl rfl rfl ?_
                  refine G.skip rfl rfl rfl rfl (rfl) rfl rfl ?_
                  refine G.skip rfl rfl rfl rfl (rfl) rfl rfl ?_
                  refine G.skip rfl rfl rfl rfl (rfl) rfl rfl ?_
                  refine G.skip rfl rfl rfl rfl (rfl) rfl rfl ?_
                  refine G.skip rfl rfl rfl rfl (rfl) rfl rfl ?_
                  refine G.any rfl rfl (.pickT rfl rfl rfl) rfl rfl rfl ?_
                  refine G.nil ?_
                  refine E.thenN ?_
                  refine WC.condT rfl ?_
                  refine WC.seq ?_
                  refine WC.region ?_
                  refine W.any (.assign rfl) rfl rfl rfl ?_
                  refine W.nil ?_
                  refine E.thenN ?_
                  refine WC.ret ?_
                  refine E.blkR ?_
                  refine E.thenR ?_
                  refine E.thenR ?_
                  refine E.blkR ?_
                  refine E.thenR ?_
                  refine E.retG1 rfl rfl ?_
                  exact ⟨congrArg (fun b => Ending.returned (Value.bool b)) (decide_eq_false (fun hr => by have hr := hr k (by omega); unfold RightAt at hr; first | exact absurd hr.1 (by assumption) | (have h2 := hr.2; clear hr; omega))).symm, L21⟩
                · refine G.any rfl rfl (.dec (.move rfl) (decide_eq_false q8_13)) rfl rfl rfl ?_
                  refine G.anyg rfl rfl (.field0 fa76_0 rfl) rfl rfl rfl (rfl) rfl rfl ?_
                  have f23 := (b7_6_1.le d8)
                  refine G.rdg rfl rfl (.loadB (v := .int .i64 ((xs.getD (k - 1) noEdge).f)) na3 rfl f23 rfl) rfl rfl rfl (rfl) rfl rfl ?_
                  refine G.anyg rfl rfl (.field0 fa76_1 rfl) rfl rfl rfl (rfl) rfl rfl ?_
                  refine G.rdg rfl rfl (.loadB (v := .int .i64 ((xs.getD k noEdge).t)) na3 rfl f22 rfl) rfl rfl rfl (rfl) rfl rfl ?_
                  refine G.anyg rfl rfl (.neq rfl rfl) rfl rfl rfl (rfl) rfl rfl ?_
                  refine G.any rfl rfl (.pickF rfl rfl rfl) rfl rfl rfl ?_
                  by_cases q8_20 : ((xs.getD (k - 1) noEdge).f) ≠ ((xs.getD k noEdge).t)
                  · refine G.any rfl rfl (.dec (.move rfl) (decide_eq_true q8_20)) rfl rfl rfl ?_
                    refine G.skip rfl rfl rfl rfl (rfl) rfl rfl ?_
                    refine G.skip rfl rfl rfl rfl (rfl) rfl rfl ?_
                    refine G.skip rfl rfl rfl rfl (rfl) rfl rfl ?_
                    refine G.skip rfl rfl rfl rfl (rfl) rfl rfl ?_
                    refine G.skip rfl rfl rfl rfl (rfl) rfl rfl ?_
                    refine G.any rfl rfl (.pickT rfl rfl rfl) rfl rfl rfl ?_
                    refine G.any rfl rfl (.move rfl) rfl rfl rfl ?_
                    refine G.skip rfl rfl rfl rfl (rfl) rfl rfl ?_
                    refine G.skip rfl rfl rfl rfl (rfl) rfl rfl ?_
                    refine G.skip rfl rfl rfl rfl (rfl) rfl rfl ?_
                    refine G.skip rfl rfl rfl rfl (rfl) rfl rfl ?_
                    refine G.skip rfl rfl rfl rfl (rfl) rfl rfl ?_
                    refine G.any rfl rfl (.pickT rfl rfl rfl) rfl rfl rfl ?_
                    refine G.nil ?_
                    refine E.thenN ?_
                    refine WC.condT rfl ?_
                    refine WC.seq ?_
                    refine WC.region ?_
                    refine W.any (.assign rfl) rfl rfl rfl ?_
                    refine W.nil ?_
                    refine E.thenN ?_
                    refine WC.ret ?_
                    refine E.blkR ?_
                    refine E.thenR ?_
                    refine E.thenR ?_
                    refine E.blkR ?_
                    refine E.thenR ?_
                    refine E.retG1 rfl rfl ?_
                    exact ⟨congrArg (fun b => Ending.returned (Value.bool b)) (decide_eq_false (fun hr => by have hr := hr k (by omega); unfold RightAt at hr; first | exact absurd hr.1 (by assumption) | (have h2 := hr.2; clear hr; omega))).symm, L21⟩
                  · refine G.any rfl rfl (.dec (.move rfl) (decide_eq_false q8_20)) rfl rfl rfl ?_
                    refine G.anyg rfl rfl (.field0 fa76_1 rfl) rfl rfl rfl (rfl) rfl rfl ?_
                    refine G.rdg rfl rfl (.loadB (v := .int .i64 ((xs.getD (k - 1) noEdge).t)) na3 rfl f23 rfl) rfl rfl rfl (rfl) rfl rfl ?_
                    refine G.anyg rfl rfl (.field0 fa76_0 rfl) rfl rfl rfl (rfl) rfl rfl ?_
                    refine G.rdg rfl rfl (.loadB (v := .int .i64 ((xs.getD k noEdge).f)) na3 rfl f22 rfl) rfl rfl rfl (rfl) rfl rfl ?_
                    refine G.anyg rfl rfl (.neq rfl rfl) rfl rfl rfl (rfl) rfl rfl ?_
                    refine G.any rfl rfl (.pickF rfl rfl rfl) rfl rfl rfl ?_
                    by_cases q8_27 : ((xs.getD (k - 1) noEdge).t) ≠ ((xs.getD k noEdge).f)
                    · refine G.any rfl rfl (.dec (.move rfl) (decide_eq_true q8_27)) rfl rfl rfl ?_
                      refine G.skip rfl rfl rfl rfl (rfl) rfl rfl ?_
                      refine G.skip rfl rfl rfl rfl (rfl) rfl rfl ?_
                      refine G.skip rfl rfl rfl rfl (rfl) rfl rfl ?_
                      refine G.skip rfl rfl rfl rfl (rfl) rfl rfl ?_
                      refine G.skip rfl rfl rfl rfl (rfl) rfl rfl ?_
                      refine G.any rfl rfl (.pickT rfl rfl rfl) rfl rfl rfl ?_
                      refine G.nil ?_
                      refine E.thenN ?_
                      refine WC.condT rfl ?_
                      refine WC.seq ?_
                      refine WC.region ?_
                      refine W.any (.assign rfl) rfl rfl rfl ?_
                      refine W.nil ?_
                      refine E.thenN ?_
                      refine WC.ret ?_
                      refine E.blkR ?_
                      refine E.thenR ?_
                      refine E.thenR ?_
                      refine E.blkR ?_
                      refine E.thenR ?_
                      refine E.retG1 rfl rfl ?_
                      exact ⟨congrArg (fun b => Ending.returned (Value.bool b)) (decide_eq_false (fun hr => by have hr := hr k (by omega); unfold RightAt at hr; first | exact absurd hr.1 (by assumption) | (have h2 := hr.2; clear hr; omega))).symm, L21⟩
                    · refine G.any rfl rfl (.dec (.move rfl) (decide_eq_false q8_27)) rfl rfl rfl ?_
                      refine G.anyg rfl rfl (.field0 fa76_3 rfl) rfl rfl rfl (rfl) rfl rfl ?_
                      refine G.rdg rfl rfl (.loadB (v := .int .i64 ((xs.getD (k - 1) noEdge).r)) na3 rfl f23 rfl) rfl rfl rfl (rfl) rfl rfl ?_
                      refine G.anyg rfl rfl (.field0 fa76_3 rfl) rfl rfl rfl (rfl) rfl rfl ?_
                      refine G.rdg rfl rfl (.loadB (v := .int .i64 ((xs.getD k noEdge).r)) na3 rfl f22 rfl) rfl rfl rfl (rfl) rfl rfl ?_
                      refine G.anyg rfl rfl (.neq rfl rfl) rfl rfl rfl (rfl) rfl rfl ?_
                      refine G.any rfl rfl (.pickF rfl rfl rfl) rfl rfl rfl ?_
                      refine G.nil ?_
                      refine E.thenN ?_
                      by_cases c3 : ((xs.getD (k - 1) noEdge).r) ≠ ((xs.getD k noEdge).r)
                      · refine WC.condY rfl (decide_eq_true c3) ?_
                        refine WC.seq ?_
                        refine WC.region ?_
                        refine W.any (.assign rfl) rfl rfl rfl ?_
                        refine W.nil ?_
                        refine E.thenN ?_
                        refine WC.ret ?_
                        refine E.blkR ?_
                        refine E.thenR ?_
                        refine E.thenR ?_
                        refine E.blkR ?_
                        refine E.thenR ?_
                        refine E.retG1 rfl rfl ?_
                        exact ⟨congrArg (fun b => Ending.returned (Value.bool b)) (decide_eq_false (fun hr => by have hr := hr k (by omega); unfold RightAt at hr; first | exact absurd hr.1 (by assumption) | (have h2 := hr.2; clear hr; omega))).symm, L21⟩
                      · refine WC.condN rfl (decide_eq_false c3) ?_
                        refine WC.skip ?_
                        refine E.blkN ?_
                        refine E.thenN ?_
                        refine WC.region ?_
                        refine W.any (.add rfl rfl (by omega)) rfl rfl rfl ?_
                        refine W.any (.move rfl) rfl rfl rfl ?_
                        refine W.nil ?_
                        refine E.again (k + 1) (.cons rfl (.cons rfl (.cons rfl (.cons rfl (.nil _))))) ?_ ?_
                        · exact ⟨by omega, fun j hj => by rcases Nat.lt_or_ge j k with h | h; exact hz j h; rw [show j = k by omega]; refine ⟨by assumption, fun _ => ?_, fun ⟨_, _⟩ => ⟨?_, ?_, ?_, ?_⟩⟩ <;> first | omega | (exfalso; omega) | (exact fun ⟨_, _⟩ => by omega), L21, by have := sz0; have := h3_3.size; have := h3_5.size; have := d4.size; have := h4_1.size; have := d6.size; have := h7_5_1.size; have := h7_6_1.size; have := d8.size; omega⟩
                        · first | omega | (simp only []; omega)
              · refine G.any rfl rfl (.dec (.move rfl) (decide_eq_false q8_2)) rfl rfl rfl ?_
                refine G.skip rfl rfl rfl rfl (rfl) rfl rfl ?_
                refine G.skip rfl rfl rfl rfl (rfl) rfl rfl ?_
                refine G.skip rfl rfl rfl rfl (rfl) rfl rfl ?_
                refine G.skip rfl rfl rfl rfl (rfl) rfl rfl ?_
                refine G.skip rfl rfl rfl rfl (rfl) rfl rfl ?_
                refine G.skip rfl rfl rfl rfl (rfl) rfl rfl ?_
                refine G.skip rfl rfl rfl rfl (rfl) rfl rfl ?_
                refine G.skip rfl rfl rfl rfl (rfl) rfl rfl ?_
                refine G.skip rfl rfl rfl rfl (rfl) rfl rfl ?_
                refine G.any rfl rfl (.pickF rfl rfl rfl) rfl rfl rfl ?_
                refine G.any rfl rfl (.move rfl) rfl rfl rfl ?_
                refine G.anyg rfl rfl (.field0 fa76_0 rfl) rfl rfl rfl (rfl) rfl rfl ?_
                have f24 := (b7_6_1.le d8)
                refine G.rdg rfl rfl (.loadB (v := .int .i64 ((xs.getD (k - 1) noEdge).f)) na3 rfl f24 rfl) rfl rfl rfl (rfl) rfl rfl ?_
                refine G.anyg rfl rfl (.field0 fa76_1 rfl) rfl rfl rfl (rfl) rfl rfl ?_
                have f25 := (((f18.le h7_5_1).ch h7_6_1 (fun h => (show g7_5_1 ≠ g3_3 from by have := f18.lt; omega) (Option.some.inj h))).le d8)
                refine G.rdg rfl rfl (.loadB (v := .int .i64 ((xs.getD k noEdge).t)) na3 rfl f25 rfl) rfl rfl rfl (rfl) rfl rfl ?_
                refine G.anyg rfl rfl (.neq rfl rfl) rfl rfl rfl (rfl) rfl rfl ?_
                refine G.any rfl rfl (.pickF rfl rfl rfl) rfl rfl rfl ?_
                by_cases q8_20 : ((xs.getD (k - 1) noEdge).f) ≠ ((xs.getD k noEdge).t)
                · refine G.any rfl rfl (.dec (.move rfl) (decide_eq_true q8_20)) rfl rfl rfl ?_
                  refine G.skip rfl rfl rfl rfl (rfl) rfl rfl ?_
                  refine G.skip rfl rfl rfl rfl (rfl) rfl rfl ?_
                  refine G.skip rfl rfl rfl rfl (rfl) rfl rfl ?_
                  refine G.skip rfl rfl rfl rfl (rfl) rfl rfl ?_
                  refine G.skip rfl rfl rfl rfl (rfl) rfl rfl ?_
                  refine G.any rfl rfl (.pickT rfl rfl rfl) rfl rfl rfl ?_
                  refine G.any rfl rfl (.move rfl) rfl rfl rfl ?_
                  refine G.skip rfl rfl rfl rfl (rfl) rfl rfl ?_
                  refine G.skip rfl rfl rfl rfl (rfl) rfl rfl ?_
                  refine G.skip rfl rfl rfl rfl (rfl) rfl rfl ?_
                  refine G.skip rfl rfl rfl rfl (rfl) rfl rfl ?_
                  refine G.skip rfl rfl rfl rfl (rfl) rfl rfl ?_
                  refine G.any rfl rfl (.pickT rfl rfl rfl) rfl rfl rfl ?_
                  refine G.nil ?_
                  refine E.thenN ?_
                  refine WC.condT rfl ?_
                  refine WC.seq ?_
                  refine WC.region ?_
                  refine W.any (.assign rfl) rfl rfl rfl ?_
                  refine W.nil ?_
                  refine E.thenN ?_
                  refine WC.ret ?_
                  refine E.blkR ?_
                  refine E.thenR ?_
                  refine E.thenR ?_
                  refine E.blkR ?_
                  refine E.thenR ?_
                  refine E.retG1 rfl rfl ?_
                  exact ⟨congrArg (fun b => Ending.returned (Value.bool b)) (decide_eq_false (fun hr => by have hr := hr k (by omega); unfold RightAt at hr; first | exact absurd hr.1 (by assumption) | (have h2 := hr.2; clear hr; omega))).symm, L21⟩
                · refine G.any rfl rfl (.dec (.move rfl) (decide_eq_false q8_20)) rfl rfl rfl ?_
                  refine G.anyg rfl rfl (.field0 fa76_1 rfl) rfl rfl rfl (rfl) rfl rfl ?_
                  refine G.rdg rfl rfl (.loadB (v := .int .i64 ((xs.getD (k - 1) noEdge).t)) na3 rfl f24 rfl) rfl rfl rfl (rfl) rfl rfl ?_
                  refine G.anyg rfl rfl (.field0 fa76_0 rfl) rfl rfl rfl (rfl) rfl rfl ?_
                  refine G.rdg rfl rfl (.loadB (v := .int .i64 ((xs.getD k noEdge).f)) na3 rfl f25 rfl) rfl rfl rfl (rfl) rfl rfl ?_
                  refine G.anyg rfl rfl (.neq rfl rfl) rfl rfl rfl (rfl) rfl rfl ?_
                  refine G.any rfl rfl (.pickF rfl rfl rfl) rfl rfl rfl ?_
                  by_cases q8_27 : ((xs.getD (k - 1) noEdge).t) ≠ ((xs.getD k noEdge).f)
                  · refine G.any rfl rfl (.dec (.move rfl) (decide_eq_true q8_27)) rfl rfl rfl ?_
                    refine G.skip rfl rfl rfl rfl (rfl) rfl rfl ?_
                    refine G.skip rfl rfl rfl rfl (rfl) rfl rfl ?_
                    refine G.skip rfl rfl rfl rfl (rfl) rfl rfl ?_
                    refine G.skip rfl rfl rfl rfl (rfl) rfl rfl ?_
                    refine G.skip rfl rfl rfl rfl (rfl) rfl rfl ?_
                    refine G.any rfl rfl (.pickT rfl rfl rfl) rfl rfl rfl ?_
                    refine G.nil ?_
                    refine E.thenN ?_
                    refine WC.condT rfl ?_
                    refine WC.seq ?_
                    refine WC.region ?_
                    refine W.any (.assign rfl) rfl rfl rfl ?_
                    refine W.nil ?_
                    refine E.thenN ?_
                    refine WC.ret ?_
                    refine E.blkR ?_
                    refine E.thenR ?_
                    refine E.thenR ?_
                    refine E.blkR ?_
                    refine E.thenR ?_
                    refine E.retG1 rfl rfl ?_
                    exact ⟨congrArg (fun b => Ending.returned (Value.bool b)) (decide_eq_false (fun hr => by have hr := hr k (by omega); unfold RightAt at hr; first | exact absurd hr.1 (by assumption) | (have h2 := hr.2; clear hr; omega))).symm, L21⟩
                  · refine G.any rfl rfl (.dec (.move rfl) (decide_eq_false q8_27)) rfl rfl rfl ?_
                    refine G.anyg rfl rfl (.field0 fa76_3 rfl) rfl rfl rfl (rfl) rfl rfl ?_
                    refine G.rdg rfl rfl (.loadB (v := .int .i64 ((xs.getD (k - 1) noEdge).r)) na3 rfl f24 rfl) rfl rfl rfl (rfl) rfl rfl ?_
                    refine G.anyg rfl rfl (.field0 fa76_3 rfl) rfl rfl rfl (rfl) rfl rfl ?_
                    refine G.rdg rfl rfl (.loadB (v := .int .i64 ((xs.getD k noEdge).r)) na3 rfl f25 rfl) rfl rfl rfl (rfl) rfl rfl ?_
                    refine G.anyg rfl rfl (.neq rfl rfl) rfl rfl rfl (rfl) rfl rfl ?_
                    refine G.any rfl rfl (.pickF rfl rfl rfl) rfl rfl rfl ?_
                    refine G.nil ?_
                    refine E.thenN ?_
                    by_cases c3 : ((xs.getD (k - 1) noEdge).r) ≠ ((xs.getD k noEdge).r)
                    · refine WC.condY rfl (decide_eq_true c3) ?_
                      refine WC.seq ?_
                      refine WC.region ?_
                      refine W.any (.assign rfl) rfl rfl rfl ?_
                      refine W.nil ?_
                      refine E.thenN ?_
                      refine WC.ret ?_
                      refine E.blkR ?_
                      refine E.thenR ?_
                      refine E.thenR ?_
                      refine E.blkR ?_
                      refine E.thenR ?_
                      refine E.retG1 rfl rfl ?_
                      exact ⟨congrArg (fun b => Ending.returned (Value.bool b)) (decide_eq_false (fun hr => by have hr := hr k (by omega); unfold RightAt at hr; first | exact absurd hr.1 (by assumption) | (have h2 := hr.2; clear hr; omega))).symm, L21⟩
                    · refine WC.condN rfl (decide_eq_false c3) ?_
                      refine WC.skip ?_
                      refine E.blkN ?_
                      refine E.thenN ?_
                      refine WC.region ?_
                      refine W.any (.add rfl rfl (by omega)) rfl rfl rfl ?_
                      refine W.any (.move rfl) rfl rfl rfl ?_
                      refine W.nil ?_
                      refine E.again (k + 1) (.cons rfl (.cons rfl (.cons rfl (.cons rfl (.nil _))))) ?_ ?_
                      · exact ⟨by omega, fun j hj => by rcases Nat.lt_or_ge j k with h | h; exact hz j h; rw [show j = k by omega]; refine ⟨by assumption, fun _ => ?_, fun ⟨_, _⟩ => ⟨?_, ?_, ?_, ?_⟩⟩ <;> first | omega | (exfalso; omega) | (exact fun ⟨_, _⟩ => by omega), L21, by have := sz0; have := h3_3.size; have := h3_5.size; have := d4.size; have := h4_1.size; have := d6.size; have := h7_5_1.size; have := h7_6_1.size; have := d8.size; omega⟩
                      · first | omega | (simp only []; omega)
      · refine G.any rfl rfl (.dec (.move rfl) (congrArg not ((Bool.eq_false_iff.2 q4_3)))) rfl rfl rfl ?_
        refine G.skip rfl rfl rfl rfl (rfl) rfl rfl ?_
        refine G.skip rfl rfl rfl rfl (rfl) rfl rfl ?_
        refine G.skip rfl rfl rfl rfl (rfl) rfl rfl ?_
        refine G.skipu rfl rfl rfl rfl rfl rfl ?_
        refine G.skipu rfl rfl rfl rfl rfl rfl ?_
        refine G.skipu rfl rfl rfl rfl rfl rfl ?_
        refine G.skipu rfl rfl rfl rfl rfl rfl ?_
        refine G.skipu rfl rfl rfl rfl rfl rfl ?_
        refine G.skipu rfl rfl rfl rfl rfl rfl ?_
        refine G.skipu rfl rfl rfl rfl rfl rfl ?_
        refine G.skipu rfl rfl rfl rfl rfl rfl ?_
        refine G.skip rfl rfl rfl rfl (rfl) rfl rfl ?_
        refine G.any rfl rfl (.pickT rfl rfl rfl) rfl rfl rfl ?_
        refine G.nil ?_
        refine E.thenN ?_
        refine WC.condT rfl ?_
        refine WC.seq ?_
        refine WC.region ?_
        refine W.any (.assign rfl) rfl rfl rfl ?_
        refine W.nil ?_
        refine E.thenN ?_
        refine WC.ret ?_
        refine E.thenR ?_
        refine E.blkR ?_
        refine E.thenR ?_
        refine E.thenR ?_
        refine E.blkR ?_
        refine E.thenR ?_
        refine E.retG1 rfl rfl ?_
        exact ⟨congrArg (fun b => Ending.returned (Value.bool b)) (decide_eq_false (fun hr => by have hr := hr k (by omega); unfold RightAt at hr; first | exact absurd hr.1 (by assumption) | (have h2 := hr.2; clear hr; omega))).symm, L5⟩
    · refine WC.condN rfl (decide_eq_false c0) ?_
      refine WC.exit ?_
      refine E.thenX ?_
      refine E.thenX ?_
      refine E.blkH ?_
      refine E.thenN ?_
      refine WC.seq ?_
      refine WC.region ?_
      refine W.any (.assign rfl) rfl rfl rfl ?_
      refine W.nil ?_
      refine E.thenN ?_
      refine WC.ret ?_
      refine E.retG1 rfl rfl ?_
      exact ⟨congrArg (fun b => Ending.returned (Value.bool b)) (decide_eq_true (fun j hj => hz j (by omega))).symm, Ll0⟩

theorem gway_ok {A : Option Addr} {n c : Nat} {xs : List Gsp.Edge} (w : World) (hV : Vec w edgeV 9 A n xs) (hn : n ≤ 1000000) : Calls Try.prog 40 #[.slice A n c] w fun r w' => r = .returned (.bool (wayG xs)) ∧ Le w w' := by
  have hl := hV.1
  refine enter Try.func40 rfl rfl ?_
  have L0 := Le.refl w
  refine WC.seq ?_
  refine WC.region ?_
  refine W.any (.assign rfl) rfl rfl rfl ?_
  refine W.nil ?_
  refine E.thenN ?_
  refine WC.seq ?_
  refine WC.seq ?_
  refine WC.region ?_
  refine W.any (.move rfl) rfl rfl rfl ?_
  refine W.rd (.len Try.underlying59 rfl) rfl rfl rfl ?_
  refine W.ef rfl rfl rfl ?_
  refine Ef.call go74 rfl rfl (gin_ok ((n : Nat) : Int) 1 8 w) ?_
  rintro _ w1_2 ⟨rfl, h1_2⟩
  refine ⟨_, rfl, ?_⟩
  have L1 := L0.trans h1_2
  refine W.any (.not rfl) rfl rfl rfl ?_
  refine W.nil ?_
  refine E.thenN ?_
  by_cases c0 : inB ((n : Nat) : Int) 1 8 = true
  · refine WC.condN rfl (congrArg not (c0)) ?_
    refine WC.skip ?_
    refine E.thenN ?_
    refine WC.seq ?_
    refine WC.region ?_
    refine W.ef rfl rfl rfl ?_
    refine Ef.allocA z150 ?_
    intro g3_0 w3_0 hg3_0 b3_0 h3_0
    have L2 := L1.trans h3_0
    have b3_0 : Blk w3_0 g3_0 150 (((List.replicate 12 false)).map Value.bool).toArray := b3_0.cast (rfl)
    refine W.nil ?_
    refine E.thenN ?_
    refine WC.seq ?_
    refine WC.seq ?_
    refine WC.region ?_
    refine W.any (.move rfl) rfl rfl rfl ?_
    refine W.rd (.len Try.underlying59 rfl) rfl rfl rfl ?_
    refine W.any (.move rfl) rfl rfl rfl ?_
    refine W.nil ?_
    refine E.thenN ?_
    refine WC.block ?_
    refine WC.loop (ι := Nat × (List Bool)) (fun ⟨k, bs⟩ => [(0, .slice A n c), (3, .pointer (some ⟨g3_0, 0, none⟩)), (10, .slice A n c), (11, .int .i64 (((n : Nat) : Int))), (12, .int .i64 (((k : Nat) : Int)))]) (fun ⟨k, bs⟩ wl0 => (k ≤ n) ∧ (bs.length = 12) ∧ (∀ j, j < k → WayAt xs j) ∧ (Been bs xs k) ∧ Le w wl0 ∧ w3_0.heap.size ≤ wl0.heap.size ∧ Blk wl0 g3_0 150 (bs.map Value.bool).toArray) (fun ⟨k, bs⟩ => n - k) (0, (List.replicate 12 false)) ?_ ?_ ?_
    · exact .cons rfl (.cons rfl (.cons rfl (.cons rfl (.cons rfl (.nil _)))))
    · exact ⟨Nat.zero_le _, rfl, fun j hj => absurd hj (Nat.not_lt_zero _), been_first xs, L2, Nat.le_refl _, b3_0⟩
    · rintro ⟨k, bs⟩ wl0 ⟨hk, hb, hz, hd, Ll0, sz0, f0_0⟩
      refine WC.seq ?_
      refine WC.region ?_
      refine W.any (.lss rfl rfl) rfl rfl rfl ?_
      refine W.nil ?_
      refine E.thenN ?_
      refine WC.seq ?_
      by_cases c1 : ((k : Nat) : Int) < ((n : Nat) : Int)
      · refine WC.condY rfl (decide_eq_true c1) ?_
        refine WC.skip ?_
        refine E.thenN ?_
        refine WC.seq ?_
        refine WC.block ?_
        refine WC.seq ?_
        refine WC.region ?_
        refine W.any (.move rfl) rfl rfl rfl ?_
        refine W.any (.idxS (k) Try.underlying59 sz76 rfl rfl (hV.isSome edgeV_row (by omega)) (rfl) (by omega)) rfl rfl rfl ?_
        refine W.rd (.vload ag76 rfl (hV.le Ll0) edgeV_row (getS xs noEdge (by first | omega | (simp only [List.length_cons, List.length_nil]; omega)))) rfl rfl rfl ?_
        refine W.ef rfl rfl rfl ?_
        refine Ef.allocA z76 ?_
        intro g6_3 w6_3 hg6_3 b6_3 h6_3
        have L3 := Ll0.trans h6_3
        have b6_3 : Blk w6_3 g6_3 76 (edgeV noEdge).toArray := b6_3
        refine W.any (.assign rfl) rfl rfl rfl ?_
        refine W.ef0 rfl rfl ?_
        refine Ef.storeAll sz76 (by rfl) rfl rfl b6_3 (by rfl) (edgeV_row.one (xs.getD k noEdge)) ?_
        intro w6_5 b6_5 h6_5
        have b6_5 : Blk w6_5 g6_3 76 (edgeV (xs.getD k noEdge)).toArray := b6_5
        have L4 : Le w w6_5 := L3.then_ h6_5 (fun q hq => by cases hq; exact Nat.le_trans Ll0.size hg6_3)
        refine W.nil ?_
        refine E.thenN ?_
        refine WC.seq ?_
        refine WC.seq ?_
        refine WC.draw [0, 1, 2, 3, 4, 5, 6, 7, 8, 9, 10, 11, 12, 13, 14, 15, 16, 17, 18, 19, 20, 21, 22, 23] mixed (by kernel_rfl) ?_
        intro w7 d7
        have L5 := L4.trans d7
        have f6 := (b6_5.le d7)
        refine G.rd rfl rfl (.loadAll ag76 (by rfl) rfl f6) rfl rfl rfl ?_
        refine G.ef rfl rfl rfl rfl rfl ?_
        refine Ef.call go82 rfl rfl (edge_ok (xs.getD k noEdge) w7) ?_
        rintro _ w7_1 ⟨rfl, h7_1⟩
        refine ⟨_, rfl, ?_⟩
        refine ⟨fun _ => h7_1, ?_⟩
        have L7 := L5.trans h7_1
        refine G.any rfl rfl (.not rfl) rfl rfl rfl ?_
        by_cases q7_3 : edgeOk (xs.getD k noEdge) = true
        · refine G.any rfl rfl (.dec (.move rfl) (congrArg not (q7_3))) rfl rfl rfl ?_
          refine G.anyg rfl rfl (.move rfl) rfl rfl rfl (rfl) rfl rfl ?_
          refine G.anyg rfl rfl (.gtr rfl rfl) rfl rfl rfl (rfl) rfl rfl ?_
          by_cases q7_6 : 0 < ((k : Nat) : Int)
          · refine G.anyg rfl rfl (.dec (.move rfl) (decide_eq_true q7_6)) rfl rfl rfl (rfl) rfl rfl ?_
            refine G.anyg rfl rfl (.move rfl) rfl rfl rfl (rfl) rfl rfl ?_
            refine G.anyg rfl rfl (.move rfl) rfl rfl rfl (rfl) rfl rfl ?_
            refine G.anyg rfl rfl (.sub rfl rfl (by omega)) rfl rfl rfl (rfl) rfl rfl ?_
            refine G.anyg rfl rfl (.idxS ((k - 1)) Try.underlying59 sz76 rfl rfl (hV.isSome edgeV_row (by omega)) (by omega) (by omega)) rfl rfl rfl (rfl) rfl rfl ?_
            refine G.anyg rfl rfl (.vfield fa76_1 (hV.isSome edgeV_row (by omega)) rfl) rfl rfl rfl (rfl) rfl rfl ?_
            refine G.rdg rfl rfl (.vcell (j := (k - 1)) (o := 1) (v := .int .i64 ((xs.getD (k - 1) noEdge).t)) na3 rfl (hV.le L7) edgeV_row (getS xs noEdge (by first | omega | (simp only [List.length_cons, List.length_nil]; omega))) rfl) rfl rfl rfl (rfl) rfl rfl ?_
            refine G.anyg rfl rfl (.field0 fa76_0 rfl) rfl rfl rfl (rfl) rfl rfl ?_
            have f8 := (f6.le h7_1)
            refine G.rdg rfl rfl (.loadB (v := .int .i64 ((xs.getD k noEdge).f)) na3 rfl f8 rfl) rfl rfl rfl (rfl) rfl rfl ?_
            refine G.anyg rfl rfl (.neq rfl rfl) rfl rfl rfl (rfl) rfl rfl ?_
            refine G.anyg rfl rfl (.pickT rfl rfl rfl) rfl rfl rfl (rfl) rfl rfl ?_
            refine G.any rfl rfl (.pickF rfl rfl rfl) rfl rfl rfl ?_
            by_cases q7_18 : ((xs.getD (k - 1) noEdge).t) ≠ ((xs.getD k noEdge).f)
            · refine G.any rfl rfl (.dec (.move rfl) (decide_eq_true q7_18)) rfl rfl rfl ?_
              refine G.skip rfl rfl rfl rfl (rfl) rfl rfl ?_
              refine G.skip rfl rfl rfl rfl (rfl) rfl rfl ?_
              refine G.skip rfl rfl rfl rfl (rfl) rfl rfl ?_
              refine G.skip rfl rfl rfl rfl (rfl) rfl rfl ?_
              refine G.any rfl rfl (.pickT rfl rfl rfl) rfl rfl rfl ?_
              refine G.nil ?_
              refine E.thenN ?_
              refine WC.condT rfl ?_
              refine WC.seq ?_
              refine WC.region ?_
              refine W.any (.assign rfl) rfl rfl rfl ?_
              refine W.nil ?_
              refine E.thenN ?_
              refine WC.ret ?_
              refine E.thenR ?_
              refine E.blkR ?_
              refine E.thenR ?_
              refine E.thenR ?_
              refine E.blkR ?_
              refine E.thenR ?_
              refine E.retG1 rfl rfl ?_
              exact ⟨congrArg (fun b => Ending.returned (Value.bool b)) (decide_eq_false (fun hr => by have hr := hr.2 k (by omega); first | exact absurd hr.1 (by assumption) | exact way_fail hz hd (by assumption) hr | (have := hr.2.1; omega))).symm, L7⟩
            · refine G.any rfl rfl (.dec (.move rfl) (decide_eq_false q7_18)) rfl rfl rfl ?_
              refine G.anyg rfl rfl (.field0 fa76_1 rfl) rfl rfl rfl (rfl) rfl rfl ?_
              refine G.rdg rfl rfl (.loadB (v := .int .i64 ((xs.getD k noEdge).t)) na3 rfl f8 rfl) rfl rfl rfl (rfl) rfl rfl ?_
              have hok := edgeOk_T (show edgeOk (xs.getD k noEdge) = true by assumption)
              refine G.anyg rfl rfl (.idxA1 (((xs.getD k noEdge).t).toNat) Try.underlying150 sz4 rfl rfl (by omega) (by omega)) rfl rfl rfl (rfl) rfl rfl ?_
              have f9 := (((f0_0.le h6_3).ch h6_5 (fun h => (show g6_3 ≠ g3_0 from by have := f0_0.lt; omega) (Option.some.inj h))).le (d7.trans h7_1))
              refine G.rdg rfl rfl (.loadB na4 rfl f9 (getA bs false (by omega))) rfl rfl rfl (rfl) rfl rfl ?_
              refine G.any rfl rfl (.pickF rfl rfl rfl) rfl rfl rfl ?_
              refine G.nil ?_
              refine E.thenN ?_
              by_cases c2 : (bs).getD (((xs.getD k noEdge).t).toNat) false = true
              · refine WC.condY rfl (c2) ?_
                refine WC.seq ?_
                refine WC.region ?_
                refine W.any (.assign rfl) rfl rfl rfl ?_
                refine W.nil ?_
                refine E.thenN ?_
                refine WC.ret ?_
                refine E.thenR ?_
                refine E.blkR ?_
                refine E.thenR ?_
                refine E.thenR ?_
                refine E.blkR ?_
                refine E.thenR ?_
                refine E.retG1 rfl rfl ?_
                exact ⟨congrArg (fun b => Ending.returned (Value.bool b)) (decide_eq_false (fun hr => by have hr := hr.2 k (by omega); first | exact absurd hr.1 (by assumption) | exact way_fail hz hd (by assumption) hr | (have := hr.2.1; omega))).symm, L7⟩
              · refine WC.condN rfl ((Bool.eq_false_iff.2 c2)) ?_
                refine WC.skip ?_
                refine E.thenN ?_
                refine WC.drawS (fun w9 w' => Le w w' ∧ Blk w' g6_3 76 (edgeV (xs.getD k noEdge)).toArray) [0, 1, 2, 3, 4, 5, 6, 7] mixed (by kernel_rfl) ?_
                intro w9 d9
                have L10 := L7.trans d9
                have f11 := (f8.le d9)
                refine ⟨⟨L10, f11⟩, ?_⟩
                have hok := edgeOk_T (show edgeOk (xs.getD k noEdge) = true by assumption)
                refine GS.any rfl rfl (.field0 fa76_0 rfl) rfl rfl rfl ?_
                refine GS.rd rfl rfl (fun w' hs => .loadB (v := .int .i64 ((xs.getD k noEdge).f)) na3 rfl hs.2 rfl) rfl rfl rfl ?_
                refine GS.any rfl rfl (.field0 fa76_1 rfl) rfl rfl rfl ?_
                refine GS.rd rfl rfl (fun w' hs => .loadB (v := .int .i64 ((xs.getD k noEdge).t)) na3 rfl hs.2 rfl) rfl rfl rfl ?_
                refine GS.any rfl rfl (.idxA1 (((xs.getD k noEdge).f).toNat) Try.underlying150 sz4 rfl rfl (by omega) (by omega)) rfl rfl rfl ?_
                have f12 := (f9.le d9)
                refine GS.ef0 rfl rfl rfl rfl ?_
                refine Ef.store sz4 rfl rfl f12 (by simp only [List.size_toArray, List.length_map, List.length_set]; omega) rfl ?_
                intro w9_5 b9_5 h9_5
                have b9_5 : Blk w9_5 g3_0 150 ((bs.set (((xs.getD k noEdge).f).toNat) true).map Value.bool).toArray := bset b9_5
                have L13 : Le w w9_5 := L10.then_ h9_5 (fun q hq => by cases hq; exact Nat.le_trans L1.size hg3_0)
                have f14 := (f11.ch h9_5 (fun h => (show g3_0 ≠ g6_3 from by have := f0_0.lt; omega) (Option.some.inj h)))
                refine ⟨⟨L13, f14⟩, ?_⟩
                refine GS.any rfl rfl (.idxA1 (((xs.getD k noEdge).t).toNat) Try.underlying150 sz4 rfl rfl (by omega) (by omega)) rfl rfl rfl ?_
                refine GS.ef0 rfl rfl rfl rfl ?_
                refine Ef.store sz4 rfl rfl b9_5 (by simp only [List.size_toArray, List.length_map, List.length_set]; omega) rfl ?_
                intro w9_7 b9_7 h9_7
                have b9_7 : Blk w9_7 g3_0 150 (((bs.set (((xs.getD k noEdge).f).toNat) true).set (((xs.getD k noEdge).t).toNat) true).map Value.bool).toArray := bset b9_7
                have L15 : Le w w9_7 := L13.then_ h9_7 (fun q hq => by cases hq; exact Nat.le_trans L1.size hg3_0)
                have f16 := (f14.ch h9_7 (fun h => (show g3_0 ≠ g6_3 from by have := f0_0.lt; omega) (Option.some.inj h)))
                refine ⟨⟨L15, f16⟩, ?_⟩
                refine GS.nil ?_
                refine E.blkN ?_
                refine E.thenN ?_
                refine WC.region ?_
                refine W.any (.add rfl rfl (by omega)) rfl rfl rfl ?_
                refine W.any (.move rfl) rfl rfl rfl ?_
                refine W.nil ?_
                refine E.again (k + 1, ((bs.set (xs.getD k noEdge).f.toNat true).set (xs.getD k noEdge).t.toNat true)) (.cons rfl (.cons rfl (.cons rfl (.cons rfl (.cons rfl (.nil _)))))) ?_ ?_
                · exact ⟨by omega, by simp [hb], way_next hz (by assumption) (by intro h0; omega) hd (by assumption), been_next hb (by assumption) hd, L15, by have := sz0; have := h6_3.size; have := h6_5.size; have := d7.size; have := h7_1.size; have := d9.size; have := h9_5.size; have := h9_7.size; omega, b9_7⟩
                · first | omega | (simp only []; omega)
          · refine G.anyg rfl rfl (.dec (.move rfl) (decide_eq_false q7_6)) rfl rfl rfl (rfl) rfl rfl ?_
            refine G.skip rfl rfl rfl rfl (rfl) rfl rfl ?_
            refine G.skip rfl rfl rfl rfl (rfl) rfl rfl ?_
            refine G.skip rfl rfl rfl rfl (rfl) rfl rfl ?_
            refine G.skip rfl rfl rfl rfl (rfl) rfl rfl ?_
            refine G.skip rfl rfl rfl rfl (rfl) rfl rfl ?_
            refine G.skip rfl rfl rfl rfl (rfl) rfl rfl ?_
            refine G.skip rfl rfl rfl rfl (rfl) rfl rfl ?_
            refine G.skip rfl rfl rfl rfl (rfl) rfl rfl ?_
            refine G.skip rfl rfl rfl rfl (rfl) rfl rfl ?_
            refine G.anyg rfl rfl (.pickF rfl rfl rfl) rfl rfl rfl (rfl) rfl rfl ?_
            refine G.any rfl rfl (.pickF rfl rfl rfl) rfl rfl rfl ?_
            refine G.any rfl rfl (.move rfl) rfl rfl rfl ?_
            refine G.anyg rfl rfl (.field0 fa76_1 rfl) rfl rfl rfl (rfl) rfl rfl ?_
            have f17 := (f6.le h7_1)
            refine G.rdg rfl rfl (.loadB (v := .int .i64 ((xs.getD k noEdge).t)) na3 rfl f17 rfl) rfl rfl rfl (rfl) rfl rfl ?_
            have hok := edgeOk_T (show edgeOk (xs.getD k noEdge) = true by assumption)
            refine G.anyg rfl rfl (.idxA1 (((xs.getD k noEdge).t).toNat) Try.underlying150 sz4 rfl rfl (by omega) (by omega)) rfl rfl rfl (rfl) rfl rfl ?_
            have f18 := (((f0_0.le h6_3).ch h6_5 (fun h => (show g6_3 ≠ g3_0 from by have := f0_0.lt; omega) (Option.some.inj h))).le (d7.trans h7_1))
            refine G.rdg rfl rfl (.loadB na4 rfl f18 (getA bs false (by omega))) rfl rfl rfl (rfl) rfl rfl ?_
            refine G.any rfl rfl (.pickF rfl rfl rfl) rfl rfl rfl ?_
            refine G.nil ?_
            refine E.thenN ?_
            by_cases c2 : (bs).getD (((xs.getD k noEdge).t).toNat) false = true
            · refine WC.condY rfl (c2) ?_
              refine WC.seq ?_
              refine WC.region ?_
              refine W.any (.assign rfl) rfl rfl rfl ?_
              refine W.nil ?_
              refine E.thenN ?_
              refine WC.ret ?_
              refine E.thenR ?_
              refine E.blkR ?_
              refine E.thenR ?_
              refine E.thenR ?_
              refine E.blkR ?_
              refine E.thenR ?_
              refine E.retG1 rfl rfl ?_
              exact ⟨congrArg (fun b => Ending.returned (Value.bool b)) (decide_eq_false (fun hr => by have hr := hr.2 k (by omega); first | exact absurd hr.1 (by assumption) | exact way_fail hz hd (by assumption) hr | (have := hr.2.1; omega))).symm, L7⟩
            · refine WC.condN rfl ((Bool.eq_false_iff.2 c2)) ?_
              refine WC.skip ?_
              refine E.thenN ?_
              refine WC.drawS (fun w9 w' => Le w w' ∧ Blk w' g6_3 76 (edgeV (xs.getD k noEdge)).toArray) [0, 1, 2, 3, 4, 5, 6, 7] mixed (by kernel_rfl) ?_
              intro w9 d9
              have L19 := L7.trans d9
              have f20 := (f17.le d9)
              refine ⟨⟨L19, f20⟩, ?_⟩
              have hok := edgeOk_T (show edgeOk (xs.getD k noEdge) = true by assumption)
              refine GS.any rfl rfl (.field0 fa76_0 rfl) rfl rfl rfl ?_
              refine GS.rd rfl rfl (fun w' hs => .loadB (v := .int .i64 ((xs.getD k noEdge).f)) na3 rfl hs.2 rfl) rfl rfl rfl ?_
              refine GS.any rfl rfl (.field0 fa76_1 rfl) rfl rfl rfl ?_
              refine GS.rd rfl rfl (fun w' hs => .loadB (v := .int .i64 ((xs.getD k noEdge).t)) na3 rfl hs.2 rfl) rfl rfl rfl ?_
              refine GS.any rfl rfl (.idxA1 (((xs.getD k noEdge).f).toNat) Try.underlying150 sz4 rfl rfl (by omega) (by omega)) rfl rfl rfl ?_
              have f21 := (f18.le d9)
              refine GS.ef0 rfl rfl rfl rfl ?_
              refine Ef.store sz4 rfl rfl f21 (by simp only [List.size_toArray, List.length_map, List.length_set]; omega) rfl ?_
              intro w9_5_1 b9_5_1 h9_5_1
              have b9_5_1 : Blk w9_5_1 g3_0 150 ((bs.set (((xs.getD k noEdge).f).toNat) true).map Value.bool).toArray := bset b9_5_1
              have L22 : Le w w9_5_1 := L19.then_ h9_5_1 (fun q hq => by cases hq; exact Nat.le_trans L1.size hg3_0)
              have f23 := (f20.ch h9_5_1 (fun h => (show g3_0 ≠ g6_3 from by have := f0_0.lt; omega) (Option.some.inj h)))
              refine ⟨⟨L22, f23⟩, ?_⟩
              refine GS.any rfl rfl (.idxA1 (((xs.getD k noEdge).t).toNat) Try.underlying150 sz4 rfl rfl (by omega) (by omega)) rfl rfl rfl ?_
              refine GS.ef0 rfl rfl rfl rfl ?_
              refine Ef.store sz4 rfl rfl b9_5_1 (by simp only [List.size_toArray, List.length_map, List.length_set]; omega) rfl ?_
              intro w9_7_1 b9_7_1 h9_7_1
              have b9_7_1 : Blk w9_7_1 g3_0 150 (((bs.set (((xs.getD k noEdge).f).toNat) true).set (((xs.getD k noEdge).t).toNat) true).map Value.bool).toArray := bset b9_7_1
              have L24 : Le w w9_7_1 := L22.then_ h9_7_1 (fun q hq => by cases hq; exact Nat.le_trans L1.size hg3_0)
              have f25 := (f23.ch h9_7_1 (fun h => (show g3_0 ≠ g6_3 from by have := f0_0.lt; omega) (Option.some.inj h)))
              refine ⟨⟨L24, f25⟩, ?_⟩
              refine GS.nil ?_
              refine E.blkN ?_
              refine E.thenN ?_
              refine WC.region ?_
              refine W.any (.add rfl rfl (by omega)) rfl rfl rfl ?_
              refine W.any (.move rfl) rfl rfl rfl ?_
              refine W.nil ?_
              refine E.again (k + 1, ((bs.set (xs.getD k noEdge).f.toNat true).set (xs.getD k noEdge).t.toNat true)) (.cons rfl (.cons rfl (.cons rfl (.cons rfl (.cons rfl (.nil _)))))) ?_ ?_
              · exact ⟨by omega, by simp [hb], way_next hz (by assumption) (by intro h0; omega) hd (by assumption), been_next hb (by assumption) hd, L24, by have := sz0; have := h6_3.size; have := h6_5.size; have := d7.size; have := h7_1.size; have := d9.size; have := h9_5_1.size; have := h9_7_1.size; omega, b9_7_1⟩
              · first | omega | (simp only []; omega)
        · refine G.any rfl rfl (.dec (.move rfl) (congrArg not ((Bool.eq_false_iff.2 q7_3)))) rfl rfl rfl ?_
          refine G.skip rfl rfl rfl rfl (rfl) rfl rfl ?_
          refine G.skip rfl rfl rfl rfl (rfl) rfl rfl ?_
          refine G.skip rfl rfl rfl rfl (rfl) rfl rfl ?_
          refine G.skipu rfl rfl rfl rfl rfl rfl ?_
          refine G.skipu rfl rfl rfl rfl rfl rfl ?_
          refine G.skipu rfl rfl rfl rfl rfl rfl ?_
          refine G.skipu rfl rfl rfl rfl rfl rfl ?_
          refine G.skipu rfl rfl rfl rfl rfl rfl ?_
          refine G.skipu rfl rfl rfl rfl rfl rfl ?_
          refine G.skipu rfl rfl rfl rfl rfl rfl ?_
          refine G.skipu rfl rfl rfl rfl rfl rfl ?_
          refine G.skipu rfl rfl rfl rfl rfl rfl ?_
          refine G.skip rfl rfl rfl rfl (rfl) rfl rfl ?_
          refine G.any rfl rfl (.pickT rfl rfl rfl) rfl rfl rfl ?_
          refine G.any rfl rfl (.move rfl) rfl rfl rfl ?_
          refine G.skip rfl rfl rfl rfl (rfl) rfl rfl ?_
          refine G.skip rfl rfl rfl rfl (rfl) rfl rfl ?_
          refine G.skip rfl rfl rfl rfl (rfl) rfl rfl ?_
          refine G.skip rfl rfl rfl rfl (rfl) rfl rfl ?_
          refine G.any rfl rfl (.pickT rfl rfl rfl) rfl rfl rfl ?_
          refine G.nil ?_
          refine E.thenN ?_
          refine WC.condT rfl ?_
          refine WC.seq ?_
          refine WC.region ?_
          refine W.any (.assign rfl) rfl rfl rfl ?_
          refine W.nil ?_
          refine E.thenN ?_
          refine WC.ret ?_
          refine E.thenR ?_
          refine E.blkR ?_
          refine E.thenR ?_
          refine E.thenR ?_
          refine E.blkR ?_
          refine E.thenR ?_
          refine E.retG1 rfl rfl ?_
          exact ⟨congrArg (fun b => Ending.returned (Value.bool b)) (decide_eq_false (fun hr => by have hr := hr.2 k (by omega); first | exact absurd hr.1 (by assumption) | exact way_fail hz hd (by assumption) hr | (have := hr.2.1; omega))).symm, L7⟩
      · refine WC.condN rfl (decide_eq_false c1) ?_
        refine WC.exit ?_
        refine E.thenX ?_
        refine E.thenX ?_
        refine E.blkH ?_
        refine E.thenN ?_
        refine WC.seq ?_
        refine WC.region ?_
        refine W.any (.assign rfl) rfl rfl rfl ?_
        refine W.nil ?_
        refine E.thenN ?_
        refine WC.ret ?_
        refine E.retG1 rfl rfl ?_
        exact ⟨congrArg (fun b => Ending.returned (Value.bool b)) (decide_eq_true ⟨by have := inB_T (by assumption : inB (n : Int) 1 8 = true); omega, fun j hj => hz j (by omega)⟩).symm, Ll0⟩
  · refine WC.condY rfl (congrArg not ((Bool.eq_false_iff.2 c0))) ?_
    refine WC.seq ?_
    refine WC.region ?_
    refine W.any (.assign rfl) rfl rfl rfl ?_
    refine W.nil ?_
    refine E.thenN ?_
    refine WC.ret ?_
    refine E.thenR ?_
    refine E.retG1 rfl rfl ?_
    exact ⟨congrArg (fun b => Ending.returned (Value.bool b)) (decide_eq_false (fun hr => by have := inB_F (Bool.eq_false_iff.2 (by assumption : ¬ inB (n : Int) 1 8 = true)); have := hr.1; omega)).symm, L1⟩
end Go.Proofs.Ytfgakofjkldcjaa
