/- The seals: each function of the program's package of layer 9, walked. -/
import Derived.Test.YtfgakofjkldcjaaHash2
import Derived.Test.YtfgakofjkldcjaaSsp
namespace Go.Proofs.Ytfgakofjkldcjaa
open Go Go.Sx Go.Hsp
set_option maxRecDepth 20000
theorem one2 (A B : Option Addr) (a b c d : Nat) : ∀ v ∈ [Value.slice A a b, Value.slice B c d], v.oneCell' = true := fun v hv => by
  simp at hv; rcases hv with rfl | rfl <;> rfl
theorem one1 (A : Option Addr) (a b : Nat) : ∀ v ∈ [Value.slice A a b], v.oneCell' = true := fun v hv => by
  simp at hv; subst hv; rfl
theorem tagLen1 (nm p : List Byte) : (tagBytes nm [p]).length = 16 + nm.length + p.length := by simp [tagBytes, be8_length]; omega
theorem tagLen2 (nm p q : List Byte) : (tagBytes nm [p, q]).length = 24 + nm.length + p.length + q.length := by simp [tagBytes, be8_length]; omega

theorem sums_ok (key : List Byte) (_hk : key.length = 32) (w : World) : Calls Try.prog 145 #[.agg (key.map u8v).toArray] w fun e w' => ∃ g1 g3 : Nat, e = .returned (.func (.func 166) #[] #[.pointer (some ⟨g3, 0, none⟩), .pointer (some ⟨g1, 0, none⟩)]) ∧ Blk w' g3 29 #[.int .u64 (0 : Nat)] ∧ Blk w' g1 89 (key.map u8v).toArray ∧ w.heap.size ≤ g1 ∧ g1 < g3 ∧ Le w w' := by
  refine enter Try.func145 rfl rfl ?_
  have L0 := Le.refl w
  refine WC.seq ?_
  refine WC.region ?_
  refine W.ef rfl rfl rfl ?_
  refine Ef.boxA rfl ?_
  intro g0_0 w0_0 hg0_0 b0_0 h0_0
  have L0_0 := L0.trans h0_0
  refine W.any (.assign rfl) rfl rfl rfl ?_
  refine W.nil ?_
  refine E.thenN ?_
  refine WC.seq ?_
  refine WC.region ?_
  refine W.ef rfl rfl rfl ?_
  refine Ef.alloc z29 ?_
  intro g1_0 w1_0 hg1_0 b1_0 h1_0
  have L1_0 := L0_0.trans h1_0
  refine W.ef0 rfl rfl ?_
  refine Ef.store sz29 rfl rfl (b1_0) (by decide) (rfl) ?_
  intro w1_1 b1_1 h1_1
  have L1_1 : Le w w1_1 := L1_0.then_ h1_1 (fun q hq => by cases hq; exact Nat.le_trans L0_0.size hg1_0)
  refine W.nil ?_
  refine E.thenN ?_
  refine WC.seq ?_
  refine WC.region ?_
  refine W.any (.makeFunc rfl) rfl rfl rfl ?_
  refine W.any (.assign rfl) rfl rfl rfl ?_
  refine W.nil ?_
  refine E.thenN ?_
  refine WC.ret ?_
  refine E.ret1 rfl rfl ?_
  exact ⟨g0_0, g1_0, rfl, b1_1, (b0_0.le h1_0).ch h1_1 (by simp; have := b0_0.lt; omega), hg0_0, by have := b0_0.lt; omega, L1_1⟩

theorem next_ok (key : List Byte) (hk : key.length = 32) (m g1 g3 : Nat) (hm : m < 1000000) (w : World) (hB3 : Blk w g3 29 #[.int .u64 (m : Nat)]) (hB1 : Blk w g1 89 (key.map u8v).toArray) (hne : g1 < g3) : Calls Try.prog 166 #[.pointer (some ⟨g3, 0, none⟩), .pointer (some ⟨g1, 0, none⟩)] w fun e w' => e = .returned (.agg ((tag nStream [key, be8 m]).map u8v).toArray) ∧ Blk w' g3 29 #[.int .u64 (m + 1 : Nat)] ∧ Ch w w' (some g3) := by
  refine enter Try.func166 rfl rfl ?_
  have L0 := Le.refl w
  refine WC.seq ?_
  refine WC.region ?_
  refine W.ef rfl rfl rfl ?_
  refine Ef.allocA z89 ?_
  intro g0_0 w0_0 hg0_0 b0_0 h0_0
  have L0_0 := L0.trans h0_0
  have b0 : Blk w0_0 g0_0 89 ((List.replicate 32 0#8).map u8v).toArray := b0_0
  refine W.nil ?_
  refine E.thenN ?_
  refine WC.seq ?_
  refine WC.region ?_
  refine W.ef rfl rfl rfl ?_
  refine Ef.allocA z230 ?_
  intro g1_0 w1_0 hg1_0 b1_0 h1_0
  have L1_0 := L0_0.trans h1_0
  refine W.nil ?_
  refine E.thenN ?_
  refine WC.seq ?_
  refine WC.seq ?_
  refine WC.region ?_
  refine W.any (.move rfl) rfl rfl rfl ?_
  refine W.nil ?_
  refine E.thenN ?_
  refine WC.block ?_
  refine WC.loop (ι := Nat) (fun k => [(0, .pointer (some ⟨g3, 0, none⟩)), (1, .pointer (some ⟨g1, 0, none⟩)), (2, .pointer (some ⟨g0_0, 0, none⟩)), (3, .pointer (some ⟨g1_0, 0, none⟩)), (5, .int .i64 (k : Int))]) (fun k wl => k ≤ 8 ∧ Le w wl ∧ Blk wl g0_0 89 ((List.replicate 32 0#8).map u8v).toArray ∧ Blk wl g1_0 230 (((be8To m k) ++ List.replicate (8 - k) 0#8).map u8v).toArray) (fun k => 8 - k) 0 ?_ ?_ ?_
  · exact .cons rfl (.cons rfl (.cons rfl (.cons rfl (.cons rfl (.nil _)))))
  · exact ⟨by omega, L1_0, b0.le h1_0, b1_0.cast (by simp [be8To]; rfl)⟩
  · rintro k wl ⟨hk8, Ll, b0, b1⟩
    have hbl : (be8To m k).length = k := by simp [be8To, be8_length]; omega
    refine WC.seq ?_
    refine WC.region ?_
    refine W.any (.lss rfl rfl) rfl rfl rfl ?_
    refine W.nil ?_
    refine E.thenN ?_
    refine WC.seq ?_
    refine WC.cond rfl (fun c0 => ?_) (fun c0 => ?_)
    · refine WC.skip ?_
      refine E.thenN ?_
      refine WC.seq ?_
      refine WC.block ?_
      refine WC.seq ?_
      refine WC.region ?_
      refine W.any (.move rfl) rfl rfl rfl ?_
      refine W.any (.assign rfl) rfl rfl rfl ?_
      refine W.nil ?_
      refine E.thenN ?_
      refine WC.region ?_
      refine W.any (.move rfl) rfl rfl rfl ?_
      refine W.rd (.loadB na29 rfl (hB3.le Ll) (rfl)) rfl rfl rfl ?_
      refine W.any (.move rfl) rfl rfl rfl ?_
      refine W.any (.mul rfl rfl (by omega)) rfl rfl rfl ?_
      refine W.any (.sub rfl rfl (by omega)) rfl rfl rfl ?_
      refine W.any (.shrN m (56 - 8 * k) rfl rfl rfl (by omega) (by show 56 - 8 * k ≤ 64; omega)) rfl rfl rfl ?_
      refine W.rd (.toU8 (m >>> (56 - 8 * k)) (isS Try.underlying29) Try.underlying5 rfl rfl) rfl rfl rfl ?_
      refine W.any (.idxA1 (k) Try.underlying230 sz5 rfl rfl (rfl) (by omega)) rfl rfl rfl ?_
      refine W.ef0 rfl rfl ?_
      refine Ef.store sz5 rfl rfl (b1) (by simp; omega) (rfl) ?_
      intro w5_8 b5_8 h5_8
      have L5_8 : Le w w5_8 := Ll.then_ h5_8 (fun q hq => by cases hq; exact Nat.le_trans L0_0.size hg1_0)
      refine W.nil ?_
      refine E.blkN ?_
      refine E.thenN ?_
      refine WC.region ?_
      refine W.any (.add rfl rfl (by omega)) rfl rfl rfl ?_
      refine W.any (.move rfl) rfl rfl rfl ?_
      refine W.nil ?_
      refine E.again (k + 1) (.cons rfl (.cons rfl (.cons rfl (.cons rfl (.cons rfl (.nil _)))))) ?_ ?_
      · exact ⟨by omega, L5_8, b0.ch h5_8 (by simp; have := b0_0.lt; omega), b5_8.cast (by rw [fill_set u8v (be8To m k) 0#8 _ 8 k hbl (by omega), be8To_succ m k (by omega)])⟩
      · first | omega | (simp only []; omega)
    · have hk8 : k = 8 := by omega
      subst hk8
      have b1 : Blk wl g1_0 230 ((be8 m).map u8v).toArray := b1
      refine WC.exit ?_
      refine E.thenX ?_
      refine E.thenX ?_
      refine E.blkH ?_
      refine E.thenN ?_
      refine WC.seq ?_
      refine WC.region ?_
      refine W.rd (.loadB na29 rfl (hB3.le Ll) (rfl)) rfl rfl rfl ?_
      refine W.any (.addU rfl rfl (by omega)) rfl rfl rfl ?_
      refine W.ef0 rfl rfl ?_
      refine Ef.store sz29 rfl rfl (hB3.le Ll) (by simp) (rfl) ?_
      intro w7_2 b7_2 h7_2
      have bn : Blk w7_2 g3 29 #[.int .u64 (m + 1 : Nat)] := b7_2
      have b0 := b0.ch h7_2 (by simp; have := hB3.lt; omega)
      have b1 := b1.ch h7_2 (by simp; have := hB3.lt; have := L0_0.size; omega)
      have hB1' := (hB1.le Ll).ch h7_2 (by simp; omega)
      have ch : Ch w w7_2 (some g3) := (Ll.ch _).trans h7_2
      have L7 := Le.refl w7_2
      refine W.nil ?_
      refine E.thenN ?_
      refine WC.seq ?_
      refine WC.draw [0, 1, 2, 3, 4] mixed (by kernel_rfl) ?_
      intro w8 d8
      have L8 := L7.trans d8
      refine G.any rfl rfl (.cutArr Try.underlying89 sz5 rfl) rfl rfl rfl ?_
      refine G.any rfl rfl (.cutArr Try.underlying230 sz5 rfl) rfl rfl rfl ?_
      refine G.ef rfl rfl rfl rfl rfl ?_
      refine Ef.buildSliceN [_, _] Try.underlying211 el107 rfl (one2 _ _ _ _ _ _) rfl (by decide) (by decide) ?_
      intro g8_2 w8_2 hg8_2 b8_2 h8_2
      have L8_2 := L8.trans h8_2
      refine ⟨fun _ => h8_2, ?_⟩
      refine G.ef rfl rfl rfl rfl rfl ?_
      refine Ef.call go107 rfl rfl (tag_ok _ nStream w8_2 (ps := [key, be8 m]) rfl (b8_2.sl (s := 1) (n := 2) rfl) (.cons ((hB1'.le (d8.trans h8_2)).sb hk) (.cons ((b1.le (d8.trans h8_2)).sb rfl) (.nil _))) (by rw [tagLen2, hk, be8_length]; decide)) ?_
      rintro _ w8_3 ⟨rfl, h8_3⟩
      refine ⟨_, rfl, ?_⟩
      have L8_3 := L8_2.trans h8_3
      refine ⟨fun _ => h8_3, ?_⟩
      refine G.ef0 rfl rfl rfl rfl ?_
      refine Ef.storeAll sz89 (by simp [tag_length]) rfl rfl (((b0.le d8).le h8_2).le h8_3) (by simp [tag_length]) (all_u8v _) ?_
      intro w8_4 b8_4 h8_4
      refine ⟨fun h => absurd h (ne_true_of_eq_false (by kernel_rfl)), ?_⟩
      refine G.nil ?_
      refine E.thenN ?_
      refine WC.ret ?_
      refine E.retC rfl rfl b8_4 ag89 (by simp [tag_length]) ?_
      exact ⟨rfl, (bn.le (d8.trans (h8_2.trans h8_3))).ch h8_4 (by simp; have := hB3.lt; omega), (ch.trans ((d8.trans (h8_2.trans h8_3)).ch _)).then_ h8_4 (fun q hq => .inl (by cases hq; exact hg0_0))⟩

set_option maxHeartbeats 400000 in
theorem stream_ok (key : List Byte) (hk : key.length = 32) (n : Nat) (hn : n ≤ 65536) (w : World) : Calls Try.prog 106 #[.agg (key.map u8v).toArray, .int .i64 (n : Int)] w fun e w' => ∃ A c, e = .returned (.slice A n c) ∧ Own w' w.heap.size 5 1 A n c ((stream key n).map u8v) ∧ Le w w' := by
  refine enter Try.func106 rfl rfl ?_
  have L0 := Le.refl w
  refine WC.seq ?_
  refine WC.region ?_
  refine W.ef rfl rfl rfl ?_
  refine Ef.boxA rfl ?_
  intro g0_0 w0_0 hg0_0 b0_0 h0_0
  have L0_0 := L0.trans h0_0
  refine W.any (.assign rfl) rfl rfl rfl ?_
  refine W.nil ?_
  refine E.thenN ?_
  refine WC.seq ?_
  refine WC.seq ?_
  refine WC.region ?_
  refine W.any (.move rfl) rfl rfl rfl ?_
  refine W.any (.lss rfl rfl) rfl rfl rfl ?_
  refine W.any (.move rfl) rfl rfl rfl ?_
  refine W.rdg (Any.rd (.move rfl) _) rfl rfl rfl (decide_eq_false (by omega)) rfl rfl ?_
  refine W.rdg (Any.rd (.gtr rfl rfl) _) rfl rfl rfl (decide_eq_false (by omega)) rfl rfl ?_
  refine W.any (.pickF rfl (decide_eq_false (by omega)) rfl) rfl rfl rfl ?_
  refine W.nil ?_
  refine E.thenN ?_
  refine WC.condB rfl (fun h => absurd h (by simp; omega)) (fun _ => ?_)
  refine WC.skip ?_
  refine E.thenN ?_
  refine WC.seq ?_
  refine WC.region ?_
  refine W.any (.move rfl) rfl rfl rfl ?_
  refine W.any (.add rfl rfl (by omega)) rfl rfl rfl ?_
  refine W.ef rfl rfl rfl ?_
  refine Ef.makeSlice 0 (n + 32) Try.underlying107 el5 rfl rfl rfl (by omega) (by omega) (by omega) (by unfold maxLen; omega) ?_
  intro g3_2 w3_2 hg3_2 b3_2 h3_2
  have L3_2 := L0_0.trans h3_2
  have o3 : Own w3_2 w.heap.size 5 1 (some ⟨g3_2, 0, none⟩) 0 (n + 32) ((streamTo key 0).map u8v) := (b3_2.own_ (n := 0) (Nat.le_trans L0_0.size hg3_2) (by omega) (by simp [size_madeCells]) (by unfold maxLen; omega)).cast rfl (by simp [streamTo])
  refine W.any (.assign rfl) rfl rfl rfl ?_
  refine W.nil ?_
  refine E.thenN ?_
  refine WC.seq ?_
  refine WC.seq ?_
  refine WC.region ?_
  refine W.rd (.loadAll ag89 (by simp [hk]) rfl (b0_0.le h3_2)) rfl rfl rfl ?_
  refine W.ef rfl rfl rfl ?_
  refine Ef.call go145 rfl rfl (sums_ok key hk w3_2) ?_
  rintro _ w4_1 ⟨g1, g3, rfl, B3, B1, hg1, hg13, h4_1⟩
  refine ⟨_, rfl, ?_⟩
  have L4_1 := L3_2.trans h4_1
  refine W.any (.assign rfl) rfl rfl rfl ?_
  refine W.nil ?_
  refine E.thenN ?_
  refine WC.block ?_
  refine WC.loop (ι := Nat × Option Addr × Nat) (fun ⟨j, A1, c1⟩ => [(1, .int .i64 (n : Int)), (5, .slice A1 (32 * j) c1), (6, .func (.func 166) #[] #[.pointer (some ⟨g3, 0, none⟩), .pointer (some ⟨g1, 0, none⟩)])]) (fun ⟨j, A1, c1⟩ wl => j ≤ (n + 31) / 32 ∧ Le w wl ∧ Own wl w.heap.size 5 1 A1 (32 * j) c1 ((streamTo key j).map u8v) ∧ Blk wl g3 29 #[.int .u64 (j : Nat)] ∧ Blk wl g1 89 (key.map u8v).toArray ∧ rowOf A1 c1 ≠ some g3 ∧ rowOf A1 c1 ≠ some g1) (fun ⟨j, A1, c1⟩ => (n + 31) / 32 - j) (0, some ⟨g3_2, 0, none⟩, n + 32) ?_ ?_ ?_
  · exact .cons rfl (.cons rfl (.cons rfl (.nil _)))
  · exact ⟨Nat.zero_le _, L4_1, o3.le h4_1, B3, B1, fun he => by have := rowOf_lit he; have := b3_2.lt; omega, fun he => by have := rowOf_lit he; have := b3_2.lt; omega⟩
  · rintro ⟨j, A1, c1⟩ wl ⟨hj, Ll, ol, B3, B1, n3, n1⟩
    refine WC.seq ?_
    refine WC.seq ?_
    refine WC.region ?_
    refine W.any (.move rfl) rfl rfl rfl ?_
    refine W.rd (.len Try.underlying107 rfl) rfl rfl rfl ?_
    refine W.any (.move rfl) rfl rfl rfl ?_
    refine W.any (.lss rfl rfl) rfl rfl rfl ?_
    refine W.nil ?_
    refine E.thenN ?_
    refine WC.cond rfl (fun hq1 => ?_) (fun hq1 => ?_)
    · refine WC.skip ?_
      refine E.thenN ?_
      refine WC.block ?_
      refine WC.seq ?_
      refine WC.region ?_
      refine W.any (.move rfl) rfl rfl rfl ?_
      refine W.ef rfl rfl rfl ?_
      refine Ef.callC go166 rfl rfl rfl (next_ok key hk j g1 g3 (by omega) wl B3 B1 hg13) ?_
      rintro _ w6_1 ⟨rfl, Q3, h6_1⟩
      refine ⟨_, rfl, ?_⟩
      have L6_1 : Le w w6_1 := Ll.then_ h6_1 (fun q hq => by cases hq; have := h3_2.size; have := L0_0.size; omega)
      have ol1 := ol.ch h6_1 (fun q hq => by cases hq; exact n3)
      have Q1 := B1.ch h6_1 (by simp; omega)
      refine W.ef rfl rfl rfl ?_
      refine Ef.allocA z89 ?_
      intro g6_2 w6_2 hg6_2 b6_2 h6_2
      have L6_2 := L6_1.trans h6_2
      refine W.ef0 rfl rfl ?_
      refine Ef.storeAll sz89 (by simp [tag_length]) rfl rfl (b6_2) (by simp [tag_length]) (all_u8v _) ?_
      intro w6_3 b6_3 h6_3
      have L6_3 : Le w w6_3 := L6_2.then_ h6_3 (fun q hq => by cases hq; exact Nat.le_trans L6_1.size hg6_2)
      have Q3 := (Q3.le h6_2).ch h6_3 (by simp; have := Q3.lt; omega)
      have Q1 := (Q1.le h6_2).ch h6_3 (by simp; have := Q1.lt; omega)
      have ol2 := (ol1.le h6_2).ch h6_3 (fun q hq => by cases hq; exact fun he => by have := (ol1.row he).2; omega)
      refine W.nil ?_
      refine E.thenN ?_
      refine WC.region ?_
      refine W.any (.move rfl) rfl rfl rfl ?_
      refine W.any (.cutArr Try.underlying89 sz5 rfl) rfl rfl rfl ?_
      refine W.ef rfl rfl rfl ?_
      refine Ef.append Try.underlying107 el5 rfl (ol2) rfl ((b6_3.sb (tag_length _ _)).src Try.underlying107 _) (by omega) (by unfold maxLen; omega) (L6_3.size) ?_
      intro A7_2 c7_2 w7_2 o7_2 h7_2 at7_2
      have L7_2 : Le w w7_2 := L6_3.then_ h7_2 (fun q hq => (ol2.row hq).1)
      refine W.any (.assign rfl) rfl rfl rfl ?_
      refine W.nil ?_
      refine E.blkN ?_
      refine E.again (j + 1, A7_2, c7_2) (.cons rfl (.cons' rfl (slice_eq (by omega)) (.cons rfl (.nil _)))) ?_ ?_
      · exact ⟨by omega, L7_2, o7_2.cast (by omega) (by rw [streamTo_succ, List.map_append]), Q3.ch h7_2 n3, Q1.ch h7_2 n1, at7_2.off Q3.lt n3, at7_2.off Q1.lt n1⟩
      · first | omega | (simp only []; omega)
    · have hjn : j = (n + 31) / 32 := by omega
      subst hjn
      refine WC.exit ?_
      refine E.thenX ?_
      refine E.thenX ?_
      refine E.blkH ?_
      refine E.thenN ?_
      refine WC.seq ?_
      refine WC.region ?_
      refine W.any (.move rfl) rfl rfl rfl ?_
      refine W.any (.move rfl) rfl rfl rfl ?_
      refine W.any (.cutH (n) Try.underlying107 sz5 rfl rfl (rfl) (by have := ol.cap.1; omega)) rfl rfl rfl ?_
      refine W.any (.assign rfl) rfl rfl rfl ?_
      refine W.nil ?_
      refine E.thenN ?_
      refine WC.ret ?_
      refine E.ret1 rfl rfl ?_
      exact ⟨A1, c1, rfl, (ol.front n (by omega)).cast rfl (by simp only [Hsp.stream, Nat.mul_one, List.map_take]), Ll⟩










end Go.Proofs.Ytfgakofjkldcjaa
