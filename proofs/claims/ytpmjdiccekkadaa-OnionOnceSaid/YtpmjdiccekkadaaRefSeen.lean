/- The document's Seen (layer 31), walked; the statement OnionOnce walked. -/
import Derived.Test.YtpmjdiccekkadaaLaw31
namespace Go.Proofs.Ytpmjdiccekkadaa
open Go Go.Sx Go.Hsp Go.Num Go.Osp
set_option maxRecDepth 20000
abbrev One := List Byte × Int
def oneV (x : One) : List Value := x.1.map u8v ++ [.int .i64 x.2]
theorem oneV_len (x : One) (h : x.1.length = 32) : (oneV x).length = 33 := by simp [oneV, h]
theorem oneV_one (x : One) : ∀ u ∈ oneV x, u.oneCell' = true := fun u hu => by
  simp only [oneV, List.mem_append, List.mem_singleton] at hu
  rcases hu with hu | rfl
  · exact all_u8v _ u hu
  · rfl
theorem oneRows_len (l : List One) (h : ∀ x ∈ l, x.1.length = 32) : ∀ r ∈ l.map oneV, r.length = 33 := fun r hr => by
  obtain ⟨x, hx, rfl⟩ := List.mem_map.1 hr
  exact oneV_len x (h x hx)
theorem oneRows_at (l : List One) (h : ∀ x ∈ l, x.1.length = 32) (k : Nat) (x : One) (hx : l[k]? = some x) : ∀ i u, (oneV x)[i]? = some u → ((l.map oneV).flatten)[k * 33 + i]? = some u :=
  fun i u hu => flat_at (l.map oneV) (oneRows_len l h) k (oneV x) (by rw [List.getElem?_map, hx]; rfl) i u hu
/-- The document's Seen: its entries in a slice of its own. -/
structure Rs (w : World) (gr : Nat) (A : Option Addr) (c base : Nat) (l : List One) : Prop where
  len : ∀ x ∈ l, x.1.length = 32
  blk : Blk w gr 126 #[.slice A l.length c]
  own : Sx.Own w base 128 33 A l.length c (l.map oneV).flatten
  row : rowOf A c ≠ some gr
  bas : base ≤ w.heap.size
theorem Rs.le {w w' : World} {gr c base : Nat} {A : Option Addr} {l : List One} (h : Rs w gr A c base l) (hl : Le w w') : Rs w' gr A c base l := ⟨h.len, h.blk.le hl, h.own.le hl, h.row, Nat.le_trans h.bas hl.size⟩
theorem Rs.ch {w w' : World} {gr c base g : Nat} {A : Option Addr} {l : List One} (h : Rs w gr A c base l) (hc : Ch w w' (some g)) (h1 : g ≠ gr) (h2 : rowOf A c ≠ some g) : Rs w' gr A c base l :=
  ⟨h.len, h.blk.ch hc (by simp; exact h1), h.own.ch hc (fun q hq he => by cases hq; exact h2 he), h.row, Nat.le_trans h.bas hc.size⟩
theorem ptr_lit (g o : Nat) : ptr (some ⟨g, 0, none⟩) o = .pointer (some ⟨g, 0 + o, none⟩) := by simp [ptr, add_lit]
def finds (key : List Byte) (l : List One) : Bool := l.any fun x => decide (x.1 = key)
theorem rnew_ok (w : World) : Calls Try.prog 35 #[] w fun e w' => ∃ gr, e = .returned (.pointer (some ⟨gr, 0, none⟩)) ∧ w.heap.size ≤ gr ∧ Rs w' gr none 0 w.heap.size [] ∧ Le w w' := by
  refine enter Try.func35 rfl rfl ?_
  have L0 := Le.refl w
  refine WC.seq ?_
  refine WC.region ?_
  refine W.any (.assign rfl) rfl rfl rfl ?_
  refine W.nil ?_
  refine E.thenN ?_
  refine WC.seq ?_
  refine WC.region ?_
  refine W.any (.buildF pl126 z126 rfl (show Instr.fill _ _ _ = some #[.slice none 0 0] from rfl)) rfl rfl rfl ?_
  refine W.ef rfl rfl rfl ?_
  refine Ef.boxA rfl ?_
  intro g1_1 w1_1 hg1_1 b1_1 h1_1
  have L1_1 := L0.trans h1_1
  refine W.any (.assign rfl) rfl rfl rfl ?_
  refine W.nil ?_
  refine E.thenN ?_
  refine WC.ret ?_
  refine E.ret1 rfl rfl ?_
  exact ⟨g1_1, rfl, hg1_1, ⟨fun x hx => by simp at hx, b1_1, Own.nil _ _ _ _ _, by rw [rowOf_zero]; simp, L1_1.size⟩, L1_1⟩

set_option maxHeartbeats 1000000 in
theorem ronce_ok (key : List Byte) (hk : key.length = 32) (u : Int) {gr base c : Nat} {A : Option Addr} {l : List One} (w : World) (hR : Rs w gr A c base l) (hl : l.length ≤ 1000000) : Calls Try.prog 39 #[.pointer (some ⟨gr, 0, none⟩), .agg (key.map u8v).toArray, .int .i64 u] w fun e w' => (finds key l = true ∧ e = .returned (.int .i64 17) ∧ Le w w') ∨ (finds key l = false ∧ e = .returned (.int .i64 0) ∧ ∃ A' c' w1, Rs w' gr A' c' base (l ++ [(key, u)]) ∧ At w A c A' c' ∧ Ch w w1 (rowOf A c) ∧ Ch w1 w' (some gr)) := by
  refine enter Try.func39 rfl rfl ?_
  have L0 := Le.refl w
  refine WC.seq ?_
  refine WC.region ?_
  refine W.ef rfl rfl rfl ?_
  refine Ef.boxA rfl ?_
  intro g0_0 w0_0 hg0_0 b0_0 h0_0
  have L0_0 := L0.trans h0_0
  refine W.any (.assign rfl) rfl rfl rfl ?_
  refine W.nil ?_
  refine E.thenN ?_
  refine WC.seq ?_
  refine WC.seq ?_
  refine WC.region ?_
  refine W.any (.assign rfl) rfl rfl rfl ?_
  refine W.nil ?_
  refine E.thenN ?_
  refine WC.block ?_
  refine WC.loop (ι := Nat) (fun k => [(0, .pointer (some ⟨gr, 0, none⟩)), (2, .int .i64 u), (4, .pointer (some ⟨g0_0, 0, none⟩)), (7, .int .i64 (k : Int))]) (fun k wl => k ≤ l.length ∧ Le w wl ∧ Blk wl g0_0 23 (key.map u8v).toArray ∧ ∀ i, i < k → ∀ x, l[i]? = some x → x.1 ≠ key) (fun k => l.length - k) 0 ?_ ?_ ?_
  · exact .cons rfl (.cons rfl (.cons rfl (.cons rfl (.nil _))))
  · exact ⟨Nat.zero_le _, L0_0, b0_0, fun i hi => by omega⟩
  · rintro k wl ⟨hkl, Ll, bk, hno⟩
    refine WC.seq ?_
    refine WC.seq ?_
    refine WC.region ?_
    refine W.any (.move rfl) rfl rfl rfl ?_
    refine W.any (.move rfl) rfl rfl rfl ?_
    refine W.any (.nilCheck rfl) rfl rfl rfl ?_
    refine W.any (.field0 fa126_0 rfl) rfl rfl rfl ?_
    refine W.rd (.loadB na124 rfl (hR.blk.le Ll) (rfl)) rfl rfl rfl ?_
    refine W.rd (.len Try.underlying124 rfl) rfl rfl rfl ?_
    refine W.any (.lss rfl rfl) rfl rfl rfl ?_
    refine W.nil ?_
    refine E.thenN ?_
    refine WC.cond rfl (fun c0 => ?_) (fun c0 => ?_)
    · obtain ⟨x, hx⟩ : ∃ x, l[k]? = some x := ⟨_, List.getElem?_eq_getElem (by omega)⟩
      have hx32 := hR.len x (List.mem_of_getElem? hx)
      obtain ⟨ga, hA, _⟩ := hR.own.lit (by omega)
      subst hA
      refine WC.skip ?_
      refine E.thenN ?_
      refine WC.seq ?_
      refine WC.block ?_
      refine WC.seq ?_
      refine WC.draw [0, 1, 2, 3, 4, 5, 6, 7, 8, 9] mixed (by kernel_rfl) ?_
      intro w4 d4
      have L4 := Ll.trans d4
      refine G.any rfl rfl (.move rfl) rfl rfl rfl ?_
      refine G.any rfl rfl (.nilCheck rfl) rfl rfl rfl ?_
      refine G.any rfl rfl (.field0 fa126_0 rfl) rfl rfl rfl ?_
      refine G.rd rfl rfl (.loadB na124 rfl (hR.blk.le L4) (rfl)) rfl rfl rfl ?_
      refine G.any rfl rfl (.move rfl) rfl rfl rfl ?_
      refine G.any rfl rfl (.idxB k Try.underlying124 sz128 rfl rfl rfl (by omega)) rfl rfl rfl ?_
      refine G.any rfl rfl (.as (Any.fieldAddr fa128_0 rfl) (show _ = ptr (some ⟨ga, 0, none⟩) (k * 33) by rw [ptr_lit]; rfl)) rfl rfl rfl ?_
      refine G.rd rfl rfl (.loadSm (x.1.map u8v) (by rw [List.length_map, hx32]; exact ag23) rfl ((hR.own.le L4).sl) (fun i v hv => oneRows_at l hR.len k x hx i v (by rw [oneV, List.getElem?_append_left (List.getElem?_eq_some_iff.1 hv).1]; exact hv)) (by rw [List.length_map, hx32]; decide)) rfl rfl rfl ?_
      refine G.rd rfl rfl (.loadAll ag23 (by simp [hk]) rfl (bk.le d4)) rfl rfl rfl ?_
      refine G.any rfl rfl (.eqA eg23 rfl rfl (Eqv.bytes (d := 9998) _ _ Try.underlying23 sz5 Try.underlying5 hx32 hk)) rfl rfl rfl ?_
      refine G.nil ?_
      refine E.thenN ?_
      refine WC.cond rfl (fun hceq => ?_) (fun hceq => ?_)
      · refine WC.seq ?_
        refine WC.region ?_
        refine W.any (.assign rfl) rfl rfl rfl ?_
        refine W.nil ?_
        refine E.thenN ?_
        refine WC.ret ?_
        refine E.blkR ?_
        refine E.thenR ?_
        refine E.thenR ?_
        refine E.blkR ?_
        refine E.thenR ?_
        refine E.ret1 rfl rfl ?_
        exact .inl ⟨List.any_eq_true.2 ⟨x, List.mem_of_getElem? hx, by simpa using hceq⟩, rfl, L4⟩
      · refine WC.skip ?_
        refine E.blkN ?_
        refine E.thenN ?_
        refine WC.region ?_
        refine W.any (.move rfl) rfl rfl rfl ?_
        refine W.any (.add rfl rfl (by omega)) rfl rfl rfl ?_
        refine W.any (.assign rfl) rfl rfl rfl ?_
        refine W.nil ?_
        refine E.again (k + 1) (.cons rfl (.cons rfl (.cons rfl (.cons rfl (.nil _))))) ?_ ?_
        · exact ⟨by omega, L4, bk.le d4, fun i hi y hy => by
            by_cases hik : i = k
            · subst hik; rw [hx] at hy; injection hy with hy; subst hy; simpa using hceq
            · exact hno i (by omega) y hy⟩
        · first | omega | (simp only []; omega)
    · have hfin : finds key l = false := by
        rw [finds, List.any_eq_false]
        intro x hxm
        obtain ⟨i, hi, he⟩ := List.mem_iff_getElem.1 hxm
        simpa using hno i (by omega) x (by rw [List.getElem?_eq_getElem hi, he])
      refine WC.exit ?_
      refine E.thenX ?_
      refine E.thenX ?_
      refine E.blkH ?_
      refine E.thenN ?_
      refine WC.seq ?_
      refine WC.draw [0, 1, 2, 3, 4, 5, 6, 7, 8, 9, 10, 11, 12] mixed (by kernel_rfl) ?_
      intro w6 d6
      have L6 := Ll.trans d6
      refine G.any rfl rfl (.move rfl) rfl rfl rfl ?_
      refine G.any rfl rfl (.move rfl) rfl rfl rfl ?_
      refine G.any rfl rfl (.nilCheck rfl) rfl rfl rfl ?_
      refine G.any rfl rfl (.field0 fa126_0 rfl) rfl rfl rfl ?_
      refine G.rd rfl rfl (.loadB na124 rfl (hR.blk.le L6) (rfl)) rfl rfl rfl ?_
      refine G.rd rfl rfl (.loadAll ag23 (by simp [hk]) rfl (bk.le d6)) rfl rfl rfl ?_
      refine G.any rfl rfl (.move rfl) rfl rfl rfl ?_
      refine G.any rfl rfl (.as (Any.buildAll [.agg (key.map u8v).toArray, .int .i64 u] pl128 z128 rfl ⟨by simp [Value.cells, hk], by simp [Value.cells, hk], trivial⟩ (by simp [flatV, Value.cells, hk])) (show _ = Value.agg (oneV (key, u)).toArray by simp [flatV, Value.cells, oneV])) rfl rfl rfl ?_
      refine G.ef rfl rfl rfl rfl rfl ?_
      refine Ef.buildSliceA Try.underlying124 el128 (by decide) rfl (by simp [oneV, hk]) ?_
      intro g6_8 w6_8 hg6_8 b6_8 h6_8
      have L6_8 := L6.trans h6_8
      refine ⟨fun _ => h6_8, ?_⟩
      refine G.ef rfl rfl rfl rfl rfl ?_
      refine Ef.append Try.underlying124 el128 rfl ((hR.own.le L6).le h6_8) rfl (b6_8.srcA Try.underlying124 (by simp [oneV, hk]) (by decide) (oneV_one _)) (by omega) (by unfold maxLen; omega) (Nat.le_trans hR.bas L6_8.size) ?_
      intro A6_9 c6_9 w6_9 o6_9 h6_9 at6_9
      refine ⟨fun h => absurd h (ne_true_of_eq_false (by kernel_rfl)), ?_⟩
      have bR := ((hR.blk.le L6).le h6_8).ch h6_9 hR.row
      have chA := (L6_8.ch (rowOf A c)).trans h6_9
      have hgr : gr < w6_8.heap.size := Nat.lt_of_lt_of_le hR.blk.lt L6_8.size
      have hrow' : rowOf A6_9 c6_9 ≠ some gr := fun he => by
        rcases at6_9 _ he with h1 | h1
        · exact hR.row h1
        · omega
      refine G.any rfl rfl (.nilCheck rfl) rfl rfl rfl ?_
      refine G.any rfl rfl (.field0 fa126_0 rfl) rfl rfl rfl ?_
      refine G.ef0 rfl rfl rfl rfl ?_
      refine Ef.store sz124 rfl rfl (bR) (by simp) (rfl) ?_
      intro w6_12 b6_12 h6_12
      refine ⟨fun h => absurd h (ne_true_of_eq_false (by kernel_rfl)), ?_⟩
      have b12 : Blk w6_12 gr 126 #[.slice A6_9 (l.length + 1) c6_9] := b6_12
      have o12 := o6_9.ch h6_12 (fun q hq he => by cases hq; exact hrow' he)
      have hAt : At w A c A6_9 c6_9 := fun q hq => (at6_9 q hq).imp id (fun h => Nat.le_trans L6_8.size h)
      refine G.nil ?_
      refine E.thenN ?_
      refine WC.seq ?_
      refine WC.region ?_
      refine W.any (.assign rfl) rfl rfl rfl ?_
      refine W.nil ?_
      refine E.thenN ?_
      refine WC.ret ?_
      refine E.ret1 rfl rfl ?_
      exact .inr ⟨hfin, rfl, A6_9, c6_9, w6_9, ⟨fun y hy => by
          rcases List.mem_append.1 hy with hy | hy
          · exact hR.len y hy
          · simp at hy; subst hy; exact hk, by rw [List.length_append]; exact b12, by rw [List.length_append, List.map_append, List.flatten_append]; exact o12.cast rfl (by simp), hrow', Nat.le_trans hR.bas (Nat.le_trans L6_8.size (Nat.le_trans h6_9.size h6_12.size))⟩, hAt, chA, h6_12⟩

set_option maxHeartbeats 1000000 in
theorem rforget_ok (h : Int) {gr base c : Nat} {A : Option Addr} {l : List One} (w : World) (hR : Rs w gr A c base l) (hl : l.length ≤ 1000000) : Calls Try.prog 37 #[.pointer (some ⟨gr, 0, none⟩), .int .i64 h] w fun e w' => e = .returned (.int .i64 ((l.length : Int) - ((l.filter (fun x => decide (h ≤ x.2))).length : Int))) ∧ (∃ A' c', Rs w' gr A' c' base (l.filter (fun x => decide (h ≤ x.2))) ∧ ∀ q, rowOf A' c' = some q → w.heap.size ≤ q) ∧ Ch w w' (some gr) := by
  refine enter Try.func37 rfl rfl ?_
  have L0 := Le.refl w
  refine WC.seq ?_
  refine WC.region ?_
  refine W.any (.assign rfl) rfl rfl rfl ?_
  refine W.nil ?_
  refine E.thenN ?_
  refine WC.seq ?_
  refine WC.region ?_
  refine W.any (.assign rfl) rfl rfl rfl ?_
  refine W.nil ?_
  refine E.thenN ?_
  refine WC.seq ?_
  refine WC.seq ?_
  refine WC.region ?_
  refine W.any (.assign rfl) rfl rfl rfl ?_
  refine W.nil ?_
  refine E.thenN ?_
  refine WC.block ?_
  refine WC.loop (ι := Nat × Option Addr × Nat) (fun ⟨k, A1, c1⟩ => [(0, .pointer (some ⟨gr, 0, none⟩)), (1, .int .i64 h), (5, .slice A1 ((l.take k).filter (fun x => decide (h ≤ x.2))).length c1), (6, .int .i64 (k : Int))]) (fun ⟨k, A1, c1⟩ wl => k ≤ l.length ∧ Le w wl ∧ Sx.Own wl w.heap.size 128 33 A1 ((l.take k).filter (fun x => decide (h ≤ x.2))).length c1 (((l.take k).filter (fun x => decide (h ≤ x.2))).map oneV).flatten) (fun ⟨k, A1, c1⟩ => l.length - k) (0, none, 0) ?_ ?_ ?_
  · exact .cons rfl (.cons rfl (.cons rfl (.cons rfl (.nil _))))
  · exact ⟨Nat.zero_le _, L0, Own.nil _ _ _ _ _⟩
  · rintro ⟨k, A1, cq⟩ wl ⟨hkl, Ll, ol⟩
    refine WC.seq ?_
    refine WC.seq ?_
    refine WC.region ?_
    refine W.any (.move rfl) rfl rfl rfl ?_
    refine W.any (.move rfl) rfl rfl rfl ?_
    refine W.any (.nilCheck rfl) rfl rfl rfl ?_
    refine W.any (.field0 fa126_0 rfl) rfl rfl rfl ?_
    refine W.rd (.loadB na124 rfl (hR.blk.le Ll) (rfl)) rfl rfl rfl ?_
    refine W.rd (.len Try.underlying124 rfl) rfl rfl rfl ?_
    refine W.any (.lss rfl rfl) rfl rfl rfl ?_
    refine W.nil ?_
    refine E.thenN ?_
    refine WC.cond rfl (fun c0 => ?_) (fun c0 => ?_)
    · obtain ⟨x, hx⟩ : ∃ x, l[k]? = some x := ⟨_, List.getElem?_eq_getElem (by omega)⟩
      have hx32 := hR.len x (List.mem_of_getElem? hx)
      obtain ⟨ga, hA, _⟩ := hR.own.lit (by omega)
      subst hA
      have hsn : (l.take (k + 1)).filter (fun x => decide (h ≤ x.2)) = (l.take k).filter (fun x => decide (h ≤ x.2)) ++ (if h ≤ x.2 then [x] else []) := by
        rw [List.take_add_one, hx, List.filter_append]
        congr 1
        by_cases hh : h ≤ x.2 <;> simp [hh]
      have hrl := oneRows_at l hR.len k x hx
      refine WC.skip ?_
      refine E.thenN ?_
      refine WC.seq ?_
      refine WC.block ?_
      refine WC.seq ?_
      refine WC.region ?_
      refine W.any (.move rfl) rfl rfl rfl ?_
      refine W.any (.nilCheck rfl) rfl rfl rfl ?_
      refine W.any (.field0 fa126_0 rfl) rfl rfl rfl ?_
      refine W.rd (.loadB na124 rfl (hR.blk.le Ll) (rfl)) rfl rfl rfl ?_
      refine W.any (.move rfl) rfl rfl rfl ?_
      refine W.any (.idxB k Try.underlying124 sz128 rfl rfl rfl (by omega)) rfl rfl rfl ?_
      refine W.any (.as (Any.fieldAddr fa128_1 rfl) (show _ = ptr (some ⟨ga, 0, none⟩) (k * 33 + 32) by rw [ptr_lit, Nat.add_assoc])) rfl rfl rfl ?_
      refine W.rd (.loadS na3 rfl ((hR.own.le Ll).sl) (hrl 32 _ (show (oneV x)[32]? = some (.int .i64 x.2) by rw [oneV, List.getElem?_append_right (by simp [hx32])]; simp [hx32]))) rfl rfl rfl ?_
      refine W.any (.move rfl) rfl rfl rfl ?_
      refine W.any (.geq rfl rfl) rfl rfl rfl ?_
      refine W.nil ?_
      refine E.thenN ?_
      refine WC.cond rfl (fun hu => ?_) (fun hu => ?_)
      · refine WC.region ?_
        refine W.any (.move rfl) rfl rfl rfl ?_
        refine W.any (.move rfl) rfl rfl rfl ?_
        refine W.any (.nilCheck rfl) rfl rfl rfl ?_
        refine W.any (.field0 fa126_0 rfl) rfl rfl rfl ?_
        refine W.rd (.loadB na124 rfl (hR.blk.le Ll) (rfl)) rfl rfl rfl ?_
        refine W.any (.move rfl) rfl rfl rfl ?_
        refine W.any (.idxS k Try.underlying124 sz128 rfl rfl rfl rfl (by omega)) rfl rfl rfl ?_
        refine W.rd (.loadSm (oneV x) (by rw [oneV_len x hx32]; exact ag128) rfl ((hR.own.le Ll).sl) (fun i v hv => hrl i v hv) (by rw [oneV_len x hx32]; decide)) rfl rfl rfl ?_
        refine W.ef rfl rfl rfl ?_
        refine Ef.buildSliceA Try.underlying124 el128 (by decide) rfl (by simp [oneV, hx32]) ?_
        intro g6_8 w6_8 hg6_8 b6_8 h6_8
        have L6_8 := Ll.trans h6_8
        have hfle := List.length_filter_le (fun x => decide (h ≤ x.2)) (l.take k)
        have htl : (l.take k).length ≤ 1000000 := by rw [List.length_take]; omega
        have hbyt : (((l.take k).filter (fun x => decide (h ≤ x.2))).length + 1) * 40 ≤ 140737488355328 := by omega
        have hmxl : ((l.take k).filter (fun x => decide (h ≤ x.2))).length + 1 ≤ maxLen := by unfold maxLen; omega
        refine W.ef rfl rfl rfl ?_
        refine Ef.append Try.underlying124 el128 rfl (ol.le h6_8) rfl (b6_8.srcA Try.underlying124 (by simp [oneV, hx32]) (by decide) (oneV_one _)) (hbyt) (hmxl) (L6_8.size) ?_
        intro A6_9 c6_9 w6_9 o6_9 h6_9 at6_9
        have L6_9 : Le w w6_9 := L6_8.then_ h6_9 (fun q hq => (ol.row hq).1)
        refine W.any (.assign rfl) rfl rfl rfl ?_
        refine W.nil ?_
        refine E.blkN ?_
        refine E.thenN ?_
        refine WC.region ?_
        refine W.any (.move rfl) rfl rfl rfl ?_
        refine W.any (.add rfl rfl (by omega)) rfl rfl rfl ?_
        refine W.any (.assign rfl) rfl rfl rfl ?_
        refine W.nil ?_
        refine E.again (k + 1, A6_9, c6_9) (.cons rfl (.cons rfl (.cons' rfl (slice_eq (by rw [hsn, if_pos hu]; simp)) (.cons rfl (.nil _))))) ?_ ?_
        · exact ⟨by omega, L6_9, o6_9.cast (by rw [hsn, if_pos hu]; simp) (by rw [hsn, if_pos hu]; simp)⟩
        · first | omega | (simp only []; omega)
      · refine WC.skip ?_
        refine E.blkN ?_
        refine E.thenN ?_
        refine WC.region ?_
        refine W.any (.move rfl) rfl rfl rfl ?_
        refine W.any (.add rfl rfl (by omega)) rfl rfl rfl ?_
        refine W.any (.assign rfl) rfl rfl rfl ?_
        refine W.nil ?_
        refine E.again (k + 1, A1, cq) (.cons rfl (.cons rfl (.cons' rfl (slice_eq (by rw [hsn, if_neg hu]; simp)) (.cons rfl (.nil _))))) ?_ ?_
        · exact ⟨by omega, Ll, ol.cast (by rw [hsn, if_neg hu]; simp) (by rw [hsn, if_neg hu]; simp)⟩
        · first | omega | (simp only []; omega)
    · have hkl' : l.length = k := by omega
      subst hkl'
      rw [List.take_of_length_le (Nat.le_refl _)] at ol
      have hfl := List.length_filter_le (fun x => decide (h ≤ x.2)) l
      refine WC.exit ?_
      refine E.thenX ?_
      refine E.thenX ?_
      refine E.blkH ?_
      refine E.thenN ?_
      refine WC.seq ?_
      refine WC.region ?_
      refine W.any (.move rfl) rfl rfl rfl ?_
      refine W.any (.nilCheck rfl) rfl rfl rfl ?_
      refine W.any (.field0 fa126_0 rfl) rfl rfl rfl ?_
      refine W.rd (.loadB na124 rfl (hR.blk.le Ll) (rfl)) rfl rfl rfl ?_
      refine W.rd (.len Try.underlying124 rfl) rfl rfl rfl ?_
      refine W.any (.move rfl) rfl rfl rfl ?_
      refine W.rd (.len Try.underlying124 rfl) rfl rfl rfl ?_
      refine W.any (.sub rfl rfl (by rw [List.take_of_length_le (Nat.le_refl _)]; omega)) rfl rfl rfl ?_
      refine W.any (.assign rfl) rfl rfl rfl ?_
      refine W.nil ?_
      refine E.thenN ?_
      refine WC.seq ?_
      refine WC.region ?_
      refine W.any (.move rfl) rfl rfl rfl ?_
      refine W.any (.move rfl) rfl rfl rfl ?_
      refine W.any (.nilCheck rfl) rfl rfl rfl ?_
      refine W.any (.field0 fa126_0 rfl) rfl rfl rfl ?_
      refine W.ef0 rfl rfl ?_
      refine Ef.store sz124 rfl rfl (hR.blk.le Ll) (by simp) (rfl) ?_
      intro w8_4 b8_4 h8_4
      have b8 : Blk w8_4 gr 126 #[.slice A1 (l.filter (fun x => decide (h ≤ x.2))).length cq] := by have := b8_4; rw [List.take_of_length_le (Nat.le_refl _)] at this; exact this
      have hrow : rowOf A1 cq ≠ some gr := fun he => by have := (ol.row he).1; have := hR.blk.lt; omega
      have o8 := ol.ch h8_4 (fun q hq he => by cases hq; exact hrow he)
      refine W.nil ?_
      refine E.thenN ?_
      refine WC.seq ?_
      refine WC.region ?_
      refine W.any (.move rfl) rfl rfl rfl ?_
      refine W.any (.assign rfl) rfl rfl rfl ?_
      refine W.nil ?_
      refine E.thenN ?_
      refine WC.ret ?_
      refine E.ret1 rfl rfl ?_
      exact ⟨by rw [List.take_of_length_le (Nat.le_refl _)], ⟨A1, cq, ⟨fun x hx => hR.len x (List.mem_filter.1 hx).1, b8, o8.mono hR.bas, hrow, Nat.le_trans hR.bas (Nat.le_trans Ll.size h8_4.size)⟩, fun q hq => (ol.row hq).1⟩, (Ll.ch _).trans h8_4⟩
end Go.Proofs.Ytpmjdiccekkadaa
