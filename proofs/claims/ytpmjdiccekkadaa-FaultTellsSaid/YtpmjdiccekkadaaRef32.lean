/- The document's own layer 32 (Step, Make, Add, Read), walked: it computes what the program does. -/
import Derived.Test.YtpmjdiccekkadaaRef09
import Derived.Test.YtpmjdiccekkadaaFlaw
namespace Go.Proofs.Ytpmjdiccekkadaa
open Go Go.Sx Go.Hsp
set_option maxRecDepth 20000
theorem stepB_inv (n : Nat) (h : 0 ≤ stepB n) : ∃ s : Nat, stepB n = s ∧ n = 64 + 8 * s ∧ s ≤ 7 := by
  unfold stepB at *
  split at h
  · omega
  · rename_i hh; exact ⟨(n - 64) / 8, by rw [if_neg hh], by omega, by omega⟩
theorem upto_succ {p : Nat → Prop} {k : Nat} (h : ∀ j, j < k → p j) (hk : p k) : ∀ j, j < k + 1 → p j := fun j hj => by
  rcases Nat.lt_or_ge j k with h1 | h1
  · exact h j h1
  · rw [show j = k by omega]; exact hk
theorem from_succ {p : Nat → Prop} {m k : Nat} (h : ∀ j, m ≤ j → j < k → p j) (hk : p k) : ∀ j, m ≤ j → j < k + 1 → p j := fun j h0 hj => by
  rcases Nat.lt_or_ge j k with h1 | h1
  · exact h j h0 h1
  · rw [show j = k by omega]; exact hk
theorem stepB_none (n : Nat) (h : ∀ j, j < 8 → n ≠ 64 + 8 * j) : stepB n = -1 := by
  unfold stepB
  rw [if_pos]
  by_cases h1 : n < 64
  · exact .inl h1
  · by_cases h2 : (n - 64) % 8 = 0
    · refine .inr (.inr ?_)
      have := h ((n - 64) / 8)
      omega
    · exact .inr (.inl h2)
theorem readRow_big (s : Nat) (q : List Byte) (h : 55 < (q.getD 0 0).toNat) : readRow s q = (s, [], 2) := by
  rw [readRow, if_neg (by omega)]
theorem readRow_nz (s k : Nat) (q : List Byte) (hk : 1 + (q.getD 0 0).toNat ≤ k) (hl : k < q.length) (h : q.getD k 0 ≠ 0) : readRow s q = (s, [], 2) := by
  rw [readRow, if_neg]
  rintro ⟨_, h2⟩
  rw [List.all_eq_true] at h2
  have hm : q.getD k 0 ∈ q.drop (1 + (q.getD 0 0).toNat) := by
    rw [List.mem_iff_getElem?]
    refine ⟨k - (1 + (q.getD 0 0).toNat), ?_⟩
    rw [List.getElem?_drop, show 1 + (q.getD 0 0).toNat + (k - (1 + (q.getD 0 0).toNat)) = k by omega, List.getElem?_eq_getElem hl]
    simp [List.getD, hl]
  exact h (by simpa using h2 _ hm)
theorem readRow_yes (s : Nat) (q : List Byte) (hm : (q.getD 0 0).toNat ≤ 55) (h : ∀ j, 1 + (q.getD 0 0).toNat ≤ j → j < q.length → q.getD j 0 = 0) : readRow s q = (s, (q.drop 1).take (q.getD 0 0).toNat, 0) := by
  rw [readRow, if_pos]
  refine ⟨hm, ?_⟩
  rw [List.all_eq_true]
  intro b hb
  obtain ⟨i, hi⟩ := List.mem_iff_getElem?.1 hb
  rw [List.getElem?_drop] at hi
  have hlt := (List.getElem?_eq_some_iff.1 hi).1
  have := h _ (Nat.le_add_right _ i) hlt
  rw [List.getD_eq_getElem?_getD, hi] at this
  simpa using this
theorem rstep_ok {A : Option Addr} {n c : Nat} (w : World) (hn : n ≤ 9223372036854775807) : Calls Try.prog 49 #[.slice A n c] w fun e w' => e = .returned (.int .i64 (stepB n)) ∧ Le w w' := by
  refine enter Try.func49 rfl rfl ?_
  have L0 := Le.refl w
  refine WC.seq ?_
  refine WC.region ?_
  refine W.any (.assign rfl) rfl rfl rfl ?_
  refine W.nil ?_
  refine E.thenN ?_
  refine WC.seq ?_
  refine WC.seq ?_
  refine WC.region ?_
  refine W.any (.assign rfl) rfl rfl rfl ?_
  refine W.nil ?_
  refine E.thenN ?_
  refine WC.block ?_
  refine WC.loop (ι := Nat) (fun k => [(0, .slice A n c), (3, .int .i64 (k : Int))]) (fun k wl => k ≤ 8 ∧ Le w wl ∧ ∀ j, j < k → n ≠ 64 + 8 * j) (fun k => 8 - k) 0 ?_ ?_ ?_
  · exact .cons rfl (.cons rfl (.nil _))
  · exact ⟨by omega, L0, fun j hj => by omega⟩
  · rintro k wl ⟨hk, Ll, hz⟩
    refine WC.seq ?_
    refine WC.seq ?_
    refine WC.region ?_
    refine W.any (.move rfl) rfl rfl rfl ?_
    refine W.any (.lss rfl rfl) rfl rfl rfl ?_
    refine W.nil ?_
    refine E.thenN ?_
    refine WC.cond rfl (fun c0 => ?_) (fun c0 => ?_)
    · refine WC.skip ?_
      refine E.thenN ?_
      refine WC.seq ?_
      refine WC.block ?_
      refine WC.seq ?_
      refine WC.region ?_
      refine W.any (.move rfl) rfl rfl rfl ?_
      refine W.rd (.len Try.underlying24 rfl) rfl rfl rfl ?_
      refine W.any (.move rfl) rfl rfl rfl ?_
      refine W.any (.mul rfl rfl (by omega)) rfl rfl rfl ?_
      refine W.any (.add rfl rfl (by omega)) rfl rfl rfl ?_
      refine W.any (.eql rfl rfl) rfl rfl rfl ?_
      refine W.nil ?_
      refine E.thenN ?_
      refine WC.cond rfl (fun c1 => ?_) (fun c1 => ?_)
      · refine WC.seq ?_
        refine WC.region ?_
        refine W.any (.move rfl) rfl rfl rfl ?_
        refine W.any (.assign rfl) rfl rfl rfl ?_
        refine W.nil ?_
        refine E.thenN ?_
        refine WC.ret ?_
        refine E.blkR ?_
        refine E.thenR ?_
        refine E.thenR ?_
        refine E.blkR ?_
        refine E.thenR ?_
        refine E.ret1 rfl rfl ?_
        exact ⟨by rw [stepB_of n k (by omega) (by omega)], Ll⟩
      · refine WC.skip ?_
        refine E.blkN ?_
        refine E.thenN ?_
        refine WC.region ?_
        refine W.any (.move rfl) rfl rfl rfl ?_
        refine W.any (.add rfl rfl (by omega)) rfl rfl rfl ?_
        refine W.any (.assign rfl) rfl rfl rfl ?_
        refine W.nil ?_
        refine E.again (k + 1) (.cons rfl (.cons rfl (.nil _))) ?_ ?_
        · exact ⟨by omega, Ll, upto_succ hz (by omega)⟩
        · first | omega | (simp only []; omega)
    · have hk8 : k = 8 := by omega
      subst hk8
      refine WC.exit ?_
      refine E.thenX ?_
      refine E.thenX ?_
      refine E.blkH ?_
      refine E.thenN ?_
      refine WC.seq ?_
      refine WC.region ?_
      refine W.any (.assign rfl) rfl rfl rfl ?_
      refine W.nil ?_
      refine E.thenN ?_
      refine WC.ret ?_
      refine E.ret1 rfl rfl ?_
      exact ⟨by rw [stepB_none n hz], Ll⟩

theorem rmake_ok (key r : List Byte) (hk : key.length = 32) {A : Option Addr} {n c : Nat} (w : World) (hS : Sb w A n r) (hn : n ≤ 9223372036854775807) : Calls Try.prog 17 #[.agg (key.map u8v).toArray, .slice A n c] w fun e w' => ∃ A' k c', e = .returned (.tuple #[.slice A' k c', .int .i64 (makeB key r).2]) ∧ Sb w' A' k (makeB key r).1 ∧ k ≤ c' ∧ Le w w' := by
  refine enter Try.func17 rfl rfl ?_
  have L0 := Le.refl w
  refine WC.seq ?_
  refine WC.region ?_
  refine W.ef rfl rfl rfl ?_
  refine Ef.boxA rfl ?_
  intro g0_0 w0_0 hg0_0 b0_0 h0_0
  have L0_0 := L0.trans h0_0
  refine W.any (.assign rfl) rfl rfl rfl ?_
  refine W.any (.assign rfl) rfl rfl rfl ?_
  refine W.nil ?_
  refine E.thenN ?_
  refine WC.seq ?_
  refine WC.seq ?_
  refine WC.region ?_
  refine W.any (.move rfl) rfl rfl rfl ?_
  refine W.rd (.len Try.underlying24 rfl) rfl rfl rfl ?_
  by_cases q1 : 55 < n
  · refine W.any (.dec (.gtr rfl rfl) (decide_eq_true (by omega))) rfl rfl rfl ?_
    refine W.nil ?_
    refine E.thenN ?_
    refine WC.condT rfl ?_
    refine WC.seq ?_
    refine WC.region ?_
    refine W.any (.assign rfl) rfl rfl rfl ?_
    refine W.any (.assign rfl) rfl rfl rfl ?_
    refine W.nil ?_
    refine E.thenN ?_
    refine WC.ret ?_
    refine E.thenR ?_
    refine E.ret2 rfl rfl rfl ?_
    have hm : makeB key r = ([], 1) := by rw [makeB, if_neg (by have := hS.len; omega)]
    exact ⟨none, 0, 0, by rw [hm], by rw [hm]; exact Sl.nil _ _ _, Nat.le_refl _, L0_0⟩
  · refine W.any (.dec (.gtr rfl rfl) (decide_eq_false (by omega))) rfl rfl rfl ?_
    refine W.nil ?_
    refine E.thenN ?_
    refine WC.condF rfl ?_
    refine WC.skip ?_
    refine E.thenN ?_
    refine WC.seq ?_
    refine WC.region ?_
    have hrl := hS.len
    refine W.any (.move rfl) rfl rfl rfl ?_
    refine W.rd (.len Try.underlying24 rfl) rfl rfl rfl ?_
    refine W.rd (.toU8 n (isS Try.underlying3) Try.underlying5 rfl rfl) rfl rfl rfl ?_
    refine W.ef rfl rfl rfl ?_
    refine Ef.buildSlice1 Try.underlying24 el5 rfl rfl ?_
    intro g3_3 w3_3 hg3_3 b3_3 h3_3
    have L3_3 := L0_0.trans h3_3
    refine W.any (.move rfl) rfl rfl rfl ?_
    refine W.ef rfl rfl rfl ?_
    refine Ef.append Try.underlying24 el5 rfl ((b3_3.own (base := w0_0.heap.size) (s := 1) (n := 1) hg3_3 rfl (by unfold maxLen; omega))) rfl ((hS.le L3_3).src Try.underlying24 _) (by omega) (by unfold maxLen; omega) (h3_3.size) ?_
    intro A3_5 c3_5 w3_5 o3_5 h3_5 at3_5
    have L3_5 : Le w w3_5 := L3_3.then_ h3_5 (fun q hq => by have := (Blk.own (base := w0_0.heap.size) (s := 1) (n := 1) b3_3 hg3_3 rfl (by unfold maxLen; omega)).row hq; exact Nat.le_trans L0_0.size this.1)
    have L35 : Le w0_0 w3_5 := h3_3.then_ h3_5 (fun q hq => ((Blk.own (base := w0_0.heap.size) (s := 1) (n := 1) b3_3 hg3_3 rfl (by unfold maxLen; omega)).row hq).1)
    refine W.any (.assign rfl) rfl rfl rfl ?_
    refine W.nil ?_
    refine E.thenN ?_
    refine WC.seq ?_
    refine WC.block ?_
    refine WC.loop (ι := Nat × Option Addr × Nat) (fun ⟨k, A1, cz⟩ => [(2, .pointer (some ⟨g0_0, 0, none⟩)), (6, .slice A1 (1 + n + k) cz)]) (fun ⟨k, A1, cz⟩ wl => k ≤ 55 - n ∧ Le w0_0 wl ∧ Own wl w0_0.heap.size 5 1 A1 (1 + n + k) cz ((BitVec.ofNat 8 n :: (r ++ List.replicate k 0)).map u8v)) (fun ⟨k, A1, cz⟩ => 55 - n - k) (0, A3_5, c3_5) ?_ ?_ ?_
    · exact .cons rfl (.cons rfl (.nil _))
    · exact ⟨Nat.zero_le _, L35, o3_5.cast rfl (by simp)⟩
    · rintro ⟨k, A1, cz⟩ wl ⟨hk2, Ll, ol⟩
      refine WC.seq ?_
      refine WC.seq ?_
      refine WC.region ?_
      refine W.any (.move rfl) rfl rfl rfl ?_
      refine W.rd (.len Try.underlying24 rfl) rfl rfl rfl ?_
      refine W.any (.lss rfl rfl) rfl rfl rfl ?_
      refine W.nil ?_
      refine E.thenN ?_
      refine WC.cond rfl (fun c1 => ?_) (fun c1 => ?_)
      · refine WC.skip ?_
        refine E.thenN ?_
        refine WC.block ?_
        refine WC.region ?_
        refine W.any (.move rfl) rfl rfl rfl ?_
        refine W.ef rfl rfl rfl ?_
        refine Ef.buildSlice1 Try.underlying24 el5 rfl rfl ?_
        intro g5_1 w5_1 hg5_1 b5_1 h5_1
        have L5_1 := (L0_0.trans Ll).trans h5_1
        refine W.ef rfl rfl rfl ?_
        refine Ef.append Try.underlying24 el5 rfl (ol.le h5_1) rfl (b5_1.src1 Try.underlying24 rfl) (by omega) (by unfold maxLen; omega) (Nat.le_trans Ll.size h5_1.size) ?_
        intro A5_2 c5_2 w5_2 o5_2 h5_2 at5_2
        have L5_2 : Le w w5_2 := L5_1.then_ h5_2 (fun q hq => Nat.le_trans L0_0.size (ol.row hq).1)
        refine W.any (.assign rfl) rfl rfl rfl ?_
        refine W.nil ?_
        refine E.blkN ?_
        refine E.again (k + 1, A5_2, c5_2) (.cons rfl (.cons' rfl (slice_eq (by omega)) (.nil _))) ?_ ?_
        · exact ⟨by omega, (Ll.trans h5_1).then_ h5_2 (fun q hq => (ol.row hq).1), o5_2.cast (by omega) (by simp [List.replicate_succ']; rfl)⟩
        · first | omega | (simp only []; omega)
      · have hkn : k = 55 - n := by omega
        subst hkn
        refine WC.exit ?_
        refine E.thenX ?_
        refine E.thenX ?_
        refine E.blkH ?_
        refine E.thenN ?_
        refine WC.seq ?_
        refine WC.region ?_
        refine W.rd (.loadAll ag23 (by simp [hk]) rfl (b0_0.le Ll)) rfl rfl rfl ?_
        refine W.ef rfl rfl rfl ?_
        refine Ef.call go25 rfl rfl (rby_ok key hk wl) ?_
        rintro _ w6_1 ⟨rfl, h6_1⟩
        refine ⟨_, rfl, ?_⟩
        have L6_1 := (L0_0.trans Ll).trans h6_1
        refine W.any (.move rfl) rfl rfl rfl ?_
        refine W.ef rfl rfl rfl ?_
        refine Ef.call go47 rfl rfl (rseal_ok (byB key) (byB_length _) (xs := rowB r) w6_1 ((ol.le h6_1).sb.cast rfl (by rw [rowB, hrl])) (by omega)) ?_
        rintro _ w6_3 ⟨A6, c6, rfl, o6, h6_3⟩
        refine ⟨_, rfl, ?_⟩
        have L6_3 := L6_1.trans h6_3
        refine W.any (.assign rfl) rfl rfl rfl ?_
        refine W.any (.assign rfl) rfl rfl rfl ?_
        refine W.nil ?_
        refine E.thenN ?_
        refine WC.ret ?_
        refine E.ret2 rfl rfl rfl ?_
        have hm : makeB key r = (sealB (byB key) (rowB r), 0) := by rw [makeB, if_pos (by omega)]
        exact ⟨A6, _, c6, by rw [hm], by rw [hm]; exact o6.sb, o6.cap.1, L6_3⟩

theorem radd_ok (key p : List Byte) (hk : key.length = 32) {A : Option Addr} {n c : Nat} (w : World) (hS : Sb w A n p) (hn : n ≤ 9223372036854775807) : Calls Try.prog 19 #[.agg (key.map u8v).toArray, .slice A n c] w fun e w' => ∃ A' k c', e = .returned (.tuple #[.slice A' k c', .int .i64 (addB key p).2]) ∧ Sb w' A' k (addB key p).1 ∧ k ≤ c' ∧ Le w w' := by
  have hpl := hS.len
  refine enter Try.func19 rfl rfl ?_
  have L0 := Le.refl w
  refine WC.seq ?_
  refine WC.region ?_
  refine W.ef rfl rfl rfl ?_
  refine Ef.boxA rfl ?_
  intro g0_0 w0_0 hg0_0 b0_0 h0_0
  have L0_0 := L0.trans h0_0
  refine W.any (.assign rfl) rfl rfl rfl ?_
  refine W.any (.assign rfl) rfl rfl rfl ?_
  refine W.nil ?_
  refine E.thenN ?_
  refine WC.seq ?_
  refine WC.region ?_
  refine W.any (.move rfl) rfl rfl rfl ?_
  refine W.ef rfl rfl rfl ?_
  refine Ef.call go49 rfl rfl (rstep_ok w0_0 hn) ?_
  rintro _ w1_1 ⟨rfl, h1_1⟩
  refine ⟨_, rfl, ?_⟩
  have L1_1 := L0_0.trans h1_1
  refine W.any (.assign rfl) rfl rfl rfl ?_
  refine W.nil ?_
  refine E.thenN ?_
  refine WC.seq ?_
  refine WC.seq ?_
  refine WC.region ?_
  refine W.any (.move rfl) rfl rfl rfl ?_
  by_cases q1 : stepB n < 0
  · refine W.any (.dec (.lss rfl rfl) (decide_eq_true (by omega))) rfl rfl rfl ?_
    refine W.any (.move rfl) rfl rfl rfl ?_
    refine W.skip rfl rfl rfl (rfl) rfl rfl ?_
    refine W.skip rfl rfl rfl (rfl) rfl rfl ?_
    refine W.any (.pickT rfl rfl rfl) rfl rfl rfl ?_
    refine W.nil ?_
    refine E.thenN ?_
    refine WC.condT rfl ?_
    refine WC.seq ?_
    refine WC.region ?_
    refine W.any (.assign rfl) rfl rfl rfl ?_
    refine W.any (.assign rfl) rfl rfl rfl ?_
    refine W.nil ?_
    refine E.thenN ?_
    refine WC.ret ?_
    refine E.thenR ?_
    refine E.ret2 rfl rfl rfl ?_
    have hm : addB key p = ([], 2) := by rw [addB, hpl, if_neg (by omega)]
    exact ⟨none, 0, 0, by rw [hm], by rw [hm]; exact Sl.nil _ _ _, Nat.le_refl _, L1_1⟩
  · refine W.any (.dec (.lss rfl rfl) (decide_eq_false (by omega))) rfl rfl rfl ?_
    refine W.any (.move rfl) rfl rfl rfl ?_
    refine W.rdg (Any.rd (.move rfl) _) rfl rfl rfl (rfl) rfl rfl ?_
    by_cases q2 : stepB n = 7
    · refine W.rdg (Any.rd (.dec (.eql rfl rfl) (decide_eq_true (by omega))) _) rfl rfl rfl (rfl) rfl rfl ?_
      refine W.any (.pickF rfl rfl rfl) rfl rfl rfl ?_
      refine W.nil ?_
      refine E.thenN ?_
      refine WC.condT rfl ?_
      refine WC.seq ?_
      refine WC.region ?_
      refine W.any (.assign rfl) rfl rfl rfl ?_
      refine W.any (.assign rfl) rfl rfl rfl ?_
      refine W.nil ?_
      refine E.thenN ?_
      refine WC.ret ?_
      refine E.thenR ?_
      refine E.ret2 rfl rfl rfl ?_
      have hm : addB key p = ([], 2) := by rw [addB, hpl, if_neg (by omega)]
      exact ⟨none, 0, 0, by rw [hm], by rw [hm]; exact Sl.nil _ _ _, Nat.le_refl _, L1_1⟩
    · refine W.rdg (Any.rd (.dec (.eql rfl rfl) (decide_eq_false (by omega))) _) rfl rfl rfl (rfl) rfl rfl ?_
      refine W.any (.pickF rfl rfl rfl) rfl rfl rfl ?_
      refine W.nil ?_
      refine E.thenN ?_
      refine WC.condF rfl ?_
      refine WC.skip ?_
      refine E.thenN ?_
      refine WC.seq ?_
      refine WC.region ?_
      obtain ⟨s, hs, hns, h7⟩ := stepB_inv n (by omega)
      refine W.rd (.loadAll ag23 (by simp [hk]) rfl (b0_0.le h1_1)) rfl rfl rfl ?_
      refine W.ef rfl rfl rfl ?_
      refine Ef.call go25 rfl rfl (rby_ok key hk w1_1) ?_
      rintro _ w4_1 ⟨rfl, h4_1⟩
      refine ⟨_, rfl, ?_⟩
      have L4_1 := L1_1.trans h4_1
      refine W.any (.move rfl) rfl rfl rfl ?_
      refine W.ef rfl rfl rfl ?_
      refine Ef.call go47 rfl rfl (rseal_ok (byB key) (byB_length _) w4_1 (hS.le L4_1) (by omega)) ?_
      rintro _ w4_3 ⟨A6, c6, rfl, o6, h4_3⟩
      refine ⟨_, rfl, ?_⟩
      have L4_3 := L4_1.trans h4_3
      refine W.any (.assign rfl) rfl rfl rfl ?_
      refine W.any (.assign rfl) rfl rfl rfl ?_
      refine W.nil ?_
      refine E.thenN ?_
      refine WC.ret ?_
      refine E.ret2 rfl rfl rfl ?_
      have hm : addB key p = (sealB (byB key) p, 0) := by rw [addB, hpl, if_pos (by omega)]
      exact ⟨A6, _, c6, by rw [hm], by rw [hm]; exact o6.sb, o6.cap.1, L4_3⟩

set_option maxHeartbeats 1000000 in
theorem rread_ok {A Ap : Option Addr} {nk ck n c : Nat} {keys : List (List Byte)} {p : List Byte} (w : World) (hK : Ks w 32 A nk keys) (hS : Sb w Ap n p) (hn : n ≤ 9223372036854775807) (hc : n ≤ c) : Calls Try.prog 21 #[.slice A nk ck, .slice Ap n c] w fun e w' => ∃ A' k c', e = .returned (.tuple #[.int .i64 ((readB keys p).1 : Int), .slice A' k c', .int .i64 (readB keys p).2.2]) ∧ Sb w' A' k (readB keys p).2.1 ∧ Le w w' := by
  have hpl := hS.len
  have hkn := hK.1
  refine enter Try.func21 rfl rfl ?_
  have L0 := Le.refl w
  refine WC.seq ?_
  refine WC.region ?_
  refine W.any (.assign rfl) rfl rfl rfl ?_
  refine W.any (.assign rfl) rfl rfl rfl ?_
  refine W.any (.assign rfl) rfl rfl rfl ?_
  refine W.nil ?_
  refine E.thenN ?_
  refine WC.seq ?_
  refine WC.region ?_
  refine W.any (.move rfl) rfl rfl rfl ?_
  refine W.ef rfl rfl rfl ?_
  refine Ef.call go49 rfl rfl (rstep_ok w hn) ?_
  rintro _ w1_1 ⟨rfl, h1_1⟩
  refine ⟨_, rfl, ?_⟩
  have L1_1 := L0.trans h1_1
  refine W.any (.assign rfl) rfl rfl rfl ?_
  refine W.nil ?_
  refine E.thenN ?_
  refine WC.seq ?_
  refine WC.seq ?_
  refine WC.region ?_
  refine W.any (.move rfl) rfl rfl rfl ?_
  by_cases q1 : stepB n < 0
  · refine W.any (.dec (.lss rfl rfl) (decide_eq_true (by omega))) rfl rfl rfl ?_
    refine W.any (.move rfl) rfl rfl rfl ?_
    refine W.skip rfl rfl rfl (rfl) rfl rfl ?_
    refine W.skip rfl rfl rfl (rfl) rfl rfl ?_
    refine W.skip rfl rfl rfl (rfl) rfl rfl ?_
    refine W.skip rfl rfl rfl (rfl) rfl rfl ?_
    refine W.any (.pickT rfl rfl rfl) rfl rfl rfl ?_
    refine W.nil ?_
    refine E.thenN ?_
    refine WC.condT rfl ?_
    refine WC.seq ?_
    refine WC.region ?_
    refine W.any (.assign rfl) rfl rfl rfl ?_
    refine W.any (.assign rfl) rfl rfl rfl ?_
    refine W.any (.assign rfl) rfl rfl rfl ?_
    refine W.nil ?_
    refine E.thenN ?_
    refine WC.ret ?_
    refine E.thenR ?_
    refine E.ret3 rfl rfl rfl rfl ?_
    have hR : readB keys p = (0, [], 2) := by rw [readB, hpl, if_pos (.inl q1)]
    exact ⟨none, 0, 0, by rw [hR] <;> rfl, by rw [hR]; exact Sl.nil _ _ _, L1_1⟩
  · refine W.any (.dec (.lss rfl rfl) (decide_eq_false (by omega))) rfl rfl rfl ?_
    refine W.any (.move rfl) rfl rfl rfl ?_
    refine W.rdg (Any.rd (.move rfl) _) rfl rfl rfl (rfl) rfl rfl ?_
    refine W.rdg (Any.rd (.move rfl) _) rfl rfl rfl (rfl) rfl rfl ?_
    refine W.rdg (.len Try.underlying25 rfl) rfl rfl rfl (rfl) rfl rfl ?_
    by_cases q2 : (nk : Int) ≤ stepB n
    · refine W.rdg (Any.rd (.dec (.geq rfl rfl) (decide_eq_true (by omega))) _) rfl rfl rfl (rfl) rfl rfl ?_
      refine W.any (.pickF rfl rfl rfl) rfl rfl rfl ?_
      refine W.nil ?_
      refine E.thenN ?_
      refine WC.condT rfl ?_
      refine WC.seq ?_
      refine WC.region ?_
      refine W.any (.assign rfl) rfl rfl rfl ?_
      refine W.any (.assign rfl) rfl rfl rfl ?_
      refine W.any (.assign rfl) rfl rfl rfl ?_
      refine W.nil ?_
      refine E.thenN ?_
      refine WC.ret ?_
      refine E.thenR ?_
      refine E.ret3 rfl rfl rfl rfl ?_
      have hR : readB keys p = (0, [], 2) := by rw [readB, hpl, if_pos (.inr (by omega))]
      exact ⟨none, 0, 0, by rw [hR] <;> rfl, by rw [hR]; exact Sl.nil _ _ _, L1_1⟩
    · refine W.rdg (Any.rd (.dec (.geq rfl rfl) (decide_eq_false (by omega))) _) rfl rfl rfl (rfl) rfl rfl ?_
      refine W.any (.pickF rfl rfl rfl) rfl rfl rfl ?_
      refine W.nil ?_
      refine E.thenN ?_
      refine WC.condF rfl ?_
      refine WC.skip ?_
      refine E.thenN ?_
      refine WC.seq ?_
      refine WC.region ?_
      obtain ⟨s, hs, hns, h7⟩ := stepB_inv n (by omega)
      have hR0 : readB keys p = if (unw keys (s + 1) 0 p).1 ≤ s then ((unw keys (s + 1) 0 p).1, [], 18) else readRow s (unw keys (s + 1) 0 p).2 := by rw [readB, hpl, hs, if_neg (by omega), Int.toNat_natCast]
      refine W.any (.move rfl) rfl rfl rfl ?_
      refine W.any (.assign rfl) rfl rfl rfl ?_
      refine W.nil ?_
      refine E.thenN ?_
      refine WC.seq ?_
      refine WC.seq ?_
      refine WC.region ?_
      refine W.any (.assign rfl) rfl rfl rfl ?_
      refine W.nil ?_
      refine E.thenN ?_
      refine WC.block ?_
      refine WC.loop (ι := Nat × Option Addr × Nat × Nat × List Byte) (fun ⟨i, Al, nl, cl, q⟩ => [(0, .slice A nk ck), (7, .int .i64 (s : Int)), (8, .slice Al nl cl), (9, .int .i64 (i : Int))]) (fun ⟨i, Al, nl, cl, q⟩ wl => i ≤ s + 1 ∧ Le w wl ∧ Sb wl Al nl q ∧ nl ≤ cl ∧ nl + 8 * i = 64 + 8 * s ∧ unw keys (s + 1 - i) i q = unw keys (s + 1) 0 p) (fun ⟨i, Al, nl, cl, q⟩ => s + 1 - i) (0, Ap, n, c, p) ?_ ?_ ?_
      · exact .cons rfl (.cons' rfl (int_eq hs) (.cons rfl (.cons rfl (.nil _))))
      · exact ⟨by omega, L1_1, hS.le L1_1, hc, by omega, rfl⟩
      · rintro ⟨i, Al, nl, cl, q⟩ wl ⟨hi, Ll, hb, hcl, hnl, hu⟩
        refine WC.seq ?_
        refine WC.seq ?_
        refine WC.region ?_
        refine W.any (.move rfl) rfl rfl rfl ?_
        refine W.any (.move rfl) rfl rfl rfl ?_
        refine W.any (.leq rfl rfl) rfl rfl rfl ?_
        refine W.nil ?_
        refine E.thenN ?_
        refine WC.cond rfl (fun c1 => ?_) (fun c1 => ?_)
        · obtain ⟨kk, hkk⟩ : ∃ kk, keys[i]? = some kk := ⟨_, List.getElem?_eq_getElem (by omega)⟩
          have hkl : kk.length = 32 := hK.2.1 kk (List.mem_of_getElem? hkk)
          have hk' : keys.getD i [] = kk := by rw [List.getD_eq_getElem?_getD, hkk]; rfl
          refine WC.skip ?_
          refine E.thenN ?_
          refine WC.seq ?_
          refine WC.block ?_
          refine WC.seq ?_
          refine WC.region ?_
          refine W.any (.move rfl) rfl rfl rfl ?_
          refine W.any (.move rfl) rfl rfl rfl ?_
          refine W.any (.idxS (i) Try.underlying25 sz23 rfl rfl (hK.2.2.isSome (j := i) (by omega) (by decide)) (rfl) (by omega)) rfl rfl rfl ?_
          refine W.rd (.loadK ag23 rfl (hK.le Ll) hkk (by decide)) rfl rfl rfl ?_
          refine W.ef rfl rfl rfl ?_
          refine Ef.call go25 rfl rfl (rby_ok kk hkl wl) ?_
          rintro _ w8_4 ⟨rfl, h8_4⟩
          refine ⟨_, rfl, ?_⟩
          have L8_4 := Ll.trans h8_4
          refine W.any (.move rfl) rfl rfl rfl ?_
          by_cases hf : fits (byB kk) q = true
          · refine W.ef rfl rfl rfl ?_
            refine Ef.call go53 rfl rfl (ropen_yes (byB kk) (byB_length _) w8_4 (hb.le h8_4) (by omega) (by omega) hcl hf) ?_
            rintro _ w8_6 ⟨A8, c8, rfl, o8, h8_6⟩
            refine ⟨_, rfl, ?_⟩
            have L8_6 := L8_4.trans h8_6
            refine W.any (.move rfl) rfl rfl rfl ?_
            refine W.any (.extract rfl rfl) rfl rfl rfl ?_
            refine W.any (.extract rfl rfl) rfl rfl rfl ?_
            refine W.any (.assign rfl) rfl rfl rfl ?_
            refine W.any (.assign rfl) rfl rfl rfl ?_
            refine W.nil ?_
            refine E.thenN ?_
            refine WC.seq ?_
            refine WC.seq ?_
            refine WC.region ?_
            refine W.any (.move rfl) rfl rfl rfl ?_
            refine W.any (.not rfl) rfl rfl rfl ?_
            refine W.nil ?_
            refine E.thenN ?_
            refine WC.condF rfl ?_
            refine WC.skip ?_
            refine E.thenN ?_
            refine WC.region ?_
            refine W.any (.move rfl) rfl rfl rfl ?_
            refine W.any (.assign rfl) rfl rfl rfl ?_
            refine W.nil ?_
            refine E.blkN ?_
            refine E.thenN ?_
            refine WC.region ?_
            refine W.any (.move rfl) rfl rfl rfl ?_
            refine W.any (.add rfl rfl (by omega)) rfl rfl rfl ?_
            refine W.any (.assign rfl) rfl rfl rfl ?_
            refine W.nil ?_
            refine E.again (i + 1, A8, nl - 8, c8, inner (byB kk) q) (.cons rfl (.cons rfl (.cons rfl (.cons rfl (.nil _))))) ?_ ?_
            · exact ⟨by omega, L8_6, o8.sb, o8.cap.1, by omega, by rw [← hu, show s + 1 - i = (s + 1 - (i + 1)) + 1 by omega, unw, hk', hf, if_pos rfl]⟩
            · first | omega | (simp only []; omega)
          · refine W.ef rfl rfl rfl ?_
            refine Ef.call go53 rfl rfl (ropen_no (byB kk) (byB_length _) w8_4 (hb.le h8_4) (by omega) (by omega) hcl (by simpa using hf)) ?_
            rintro _ w8_6 ⟨rfl, h8_6⟩
            refine ⟨_, rfl, ?_⟩
            have L8_6 := L8_4.trans h8_6
            have hR : readB keys p = (i, [], 18) := by
              have hu2 : unw keys (s + 1) 0 p = (i, q) := by rw [← hu, show s + 1 - i = (s - i) + 1 by omega, unw, hk', if_neg hf]
              rw [hR0, hu2, if_pos (by show i ≤ s; omega)]
            refine W.any (.move rfl) rfl rfl rfl ?_
            refine W.any (.extract rfl rfl) rfl rfl rfl ?_
            refine W.any (.extract rfl rfl) rfl rfl rfl ?_
            refine W.any (.assign rfl) rfl rfl rfl ?_
            refine W.any (.assign rfl) rfl rfl rfl ?_
            refine W.nil ?_
            refine E.thenN ?_
            refine WC.seq ?_
            refine WC.seq ?_
            refine WC.region ?_
            refine W.any (.move rfl) rfl rfl rfl ?_
            refine W.any (.not rfl) rfl rfl rfl ?_
            refine W.nil ?_
            refine E.thenN ?_
            refine WC.condT rfl ?_
            refine WC.seq ?_
            refine WC.region ?_
            refine W.any (.move rfl) rfl rfl rfl ?_
            refine W.any (.assign rfl) rfl rfl rfl ?_
            refine W.any (.assign rfl) rfl rfl rfl ?_
            refine W.any (.assign rfl) rfl rfl rfl ?_
            refine W.nil ?_
            refine E.thenN ?_
            refine WC.ret ?_
            refine E.thenR ?_
            refine E.blkR ?_
            refine E.thenR ?_
            refine E.thenR ?_
            refine E.blkR ?_
            refine E.thenR ?_
            refine E.ret3 rfl rfl rfl rfl ?_
            exact ⟨none, 0, 0, by rw [hR] <;> rfl, by rw [hR]; exact Sl.nil _ _ _, L8_6⟩
        · have hi1 : i = s + 1 := by omega
          subst hi1
          rw [Nat.sub_self, unw] at hu
          have hR1 : readB keys p = readRow s q := by rw [hR0, ← hu, if_neg (by show ¬ s + 1 ≤ s; omega)]
          have hql := hb.len
          have hq0 := (q.getD 0 0).isLt
          refine WC.exit ?_
          refine E.thenX ?_
          refine E.thenX ?_
          refine E.blkH ?_
          refine E.thenN ?_
          refine WC.seq ?_
          refine WC.region ?_
          refine W.any (.move rfl) rfl rfl rfl ?_
          refine W.any (.idxS1 (0) Try.underlying24 sz5 rfl rfl (hb.isSome (by omega)) (rfl) (by omega)) rfl rfl rfl ?_
          refine W.rd (.loadS na5 rfl (hb) (getb q (by omega))) rfl rfl rfl ?_
          refine W.rd (.u8toI (isS Try.underlying5) Try.underlying3 rfl) rfl rfl rfl ?_
          refine W.any (.assign rfl) rfl rfl rfl ?_
          refine W.nil ?_
          refine E.thenN ?_
          refine WC.seq ?_
          refine WC.seq ?_
          refine WC.region ?_
          refine W.any (.move rfl) rfl rfl rfl ?_
          refine W.any (.gtr rfl rfl) rfl rfl rfl ?_
          refine W.nil ?_
          refine E.thenN ?_
          refine WC.cond rfl (fun c3 => ?_) (fun c3 => ?_)
          · have hR : readB keys p = (s, [], 2) := by rw [hR1, readRow_big s q (by omega)]
            refine WC.seq ?_
            refine WC.region ?_
            refine W.any (.move rfl) rfl rfl rfl ?_
            refine W.any (.assign rfl) rfl rfl rfl ?_
            refine W.any (.assign rfl) rfl rfl rfl ?_
            refine W.any (.assign rfl) rfl rfl rfl ?_
            refine W.nil ?_
            refine E.thenN ?_
            refine WC.ret ?_
            refine E.thenR ?_
            refine E.ret3 rfl rfl rfl rfl ?_
            exact ⟨none, 0, 0, by rw [hR] <;> rfl, by rw [hR]; exact Sl.nil _ _ _, Ll⟩
          · refine WC.skip ?_
            refine E.thenN ?_
            refine WC.seq ?_
            refine WC.seq ?_
            refine WC.region ?_
            refine W.any (.move rfl) rfl rfl rfl ?_
            refine W.any (.add rfl rfl (by omega)) rfl rfl rfl ?_
            refine W.any (.assign rfl) rfl rfl rfl ?_
            refine W.nil ?_
            refine E.thenN ?_
            refine WC.block ?_
            refine WC.loop (ι := Nat) (fun k => [(7, .int .i64 (s : Int)), (8, .slice Al nl cl), (12, .int .i64 (((q.getD 0 0).toNat : Nat) : Int)), (13, .int .i64 (k : Int))]) (fun k wm => 1 + (q.getD 0 0).toNat ≤ k ∧ k ≤ 56 ∧ Le w wm ∧ Le wl wm ∧ ∀ j, 1 + (q.getD 0 0).toNat ≤ j → j < k → q.getD j 0 = 0) (fun k => 56 - k) (1 + (q.getD 0 0).toNat) ?_ ?_ ?_
            · exact .cons rfl (.cons rfl (.cons rfl (.cons' rfl (int_eq (by omega)) (.nil _))))
            · exact ⟨Nat.le_refl _, by omega, Ll, Le.refl _, fun j h1 h2 => by omega⟩
            · rintro k wm ⟨hk1, hk2, Lm, Llm, hz⟩
              refine WC.seq ?_
              refine WC.seq ?_
              refine WC.region ?_
              refine W.any (.move rfl) rfl rfl rfl ?_
              refine W.any (.lss rfl rfl) rfl rfl rfl ?_
              refine W.nil ?_
              refine E.thenN ?_
              refine WC.cond rfl (fun c4 => ?_) (fun c4 => ?_)
              · refine WC.skip ?_
                refine E.thenN ?_
                refine WC.seq ?_
                refine WC.block ?_
                refine WC.seq ?_
                refine WC.region ?_
                refine W.any (.move rfl) rfl rfl rfl ?_
                refine W.any (.move rfl) rfl rfl rfl ?_
                refine W.any (.idxS1 (k) Try.underlying24 sz5 rfl rfl (hb.isSome (by omega)) (rfl) (by omega)) rfl rfl rfl ?_
                refine W.rd (.loadS na5 rfl (hb.le Llm) (getb q (by omega))) rfl rfl rfl ?_
                refine W.any (.neq8 (b := 0#8) rfl rfl) rfl rfl rfl ?_
                refine W.nil ?_
                refine E.thenN ?_
                refine WC.cond rfl (fun c5 => ?_) (fun c5 => ?_)
                · have hR : readB keys p = (s, [], 2) := by rw [hR1, readRow_nz s k q hk1 (by omega) c5]
                  refine WC.seq ?_
                  refine WC.region ?_
                  refine W.any (.move rfl) rfl rfl rfl ?_
                  refine W.any (.assign rfl) rfl rfl rfl ?_
                  refine W.any (.assign rfl) rfl rfl rfl ?_
                  refine W.any (.assign rfl) rfl rfl rfl ?_
                  refine W.nil ?_
                  refine E.thenN ?_
                  refine WC.ret ?_
                  refine E.blkR ?_
                  refine E.thenR ?_
                  refine E.thenR ?_
                  refine E.blkR ?_
                  refine E.thenR ?_
                  refine E.ret3 rfl rfl rfl rfl ?_
                  exact ⟨none, 0, 0, by rw [hR] <;> rfl, by rw [hR]; exact Sl.nil _ _ _, Lm⟩
                · refine WC.skip ?_
                  refine E.blkN ?_
                  refine E.thenN ?_
                  refine WC.region ?_
                  refine W.any (.move rfl) rfl rfl rfl ?_
                  refine W.any (.add rfl rfl (by omega)) rfl rfl rfl ?_
                  refine W.any (.assign rfl) rfl rfl rfl ?_
                  refine W.nil ?_
                  refine E.again (k + 1) (.cons rfl (.cons rfl (.cons rfl (.cons rfl (.nil _))))) ?_ ?_
                  · exact ⟨by omega, by omega, Lm, Llm, from_succ hz (Decidable.of_not_not c5)⟩
                  · first | omega | (simp only []; omega)
              · have hk56 : k = 56 := by omega
                subst hk56
                have hR : readB keys p = (s, (q.drop 1).take (q.getD 0 0).toNat, 0) := by rw [hR1, readRow_yes s q (by omega) (fun j h1 h2 => hz j h1 (by omega))]
                refine WC.exit ?_
                refine E.thenX ?_
                refine E.thenX ?_
                refine E.blkH ?_
                refine E.thenN ?_
                refine WC.seq ?_
                refine WC.region ?_
                refine W.any (.move rfl) rfl rfl rfl ?_
                refine W.ef rfl rfl rfl ?_
                refine Ef.buildSlice0 Try.underlying24 el5 ?_
                intro g20_1 w20_1 hg20_1 b20_1 h20_1
                have L20_1 := Lm.trans h20_1
                refine W.any (.move rfl) rfl rfl rfl ?_
                refine W.any (.move rfl) rfl rfl rfl ?_
                refine W.any (.add rfl rfl (by omega)) rfl rfl rfl ?_
                refine W.any (.cut (1) (1 + (q.getD 0 0).toNat) Try.underlying24 sz5 rfl rfl (rfl) rfl (by omega) (by omega) (by omega)) rfl rfl rfl ?_
                refine W.ef rfl rfl rfl ?_
                refine Ef.append Try.underlying24 el5 rfl (Own.empty w20_1 w.heap.size 5 1 _) rfl (((hb.le (Llm.trans h20_1)).cut cl 1 (1 + (q.getD 0 0).toNat) (by omega) (by omega) hcl).src Try.underlying24 _) (by omega) (by unfold maxLen; omega) (L20_1.size) ?_
                intro A20_6 c20_6 w20_6 o20_6 h20_6 at20_6
                have L20_6 : Le w w20_6 := L20_1.then_ h20_6 (fun q hq => by rw [rowOf_zero] at hq; cases hq)
                refine W.any (.assign rfl) rfl rfl rfl ?_
                refine W.any (.assign rfl) rfl rfl rfl ?_
                refine W.any (.assign rfl) rfl rfl rfl ?_
                refine W.nil ?_
                refine E.thenN ?_
                refine WC.ret ?_
                refine E.ret3 rfl rfl rfl rfl ?_
                exact ⟨A20_6, _, c20_6, by rw [hR], by rw [hR]; exact (o20_6.sb (xs := (q.drop 1).take (1 + (q.getD 0 0).toNat - 1))).cast rfl (by rw [show 1 + (q.getD 0 0).toNat - 1 = (q.getD 0 0).toNat by omega]), L20_6⟩
end Go.Proofs.Ytpmjdiccekkadaa
