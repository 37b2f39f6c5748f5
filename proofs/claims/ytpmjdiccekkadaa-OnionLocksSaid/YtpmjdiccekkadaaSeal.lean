/- The seals: each function of the program's package of layer 9, walked. -/
import Derived.Test.YtpmjdiccekkadaaHash2
import Derived.Test.YtpmjdiccekkadaaSsp
namespace Go.Proofs.Ytpmjdiccekkadaa
open Go Go.Sx Go.Hsp
set_option maxRecDepth 20000
theorem one2 (A B : Option Addr) (a b c d : Nat) : ∀ v ∈ [Value.slice A a b, Value.slice B c d], v.oneCell' = true := fun v hv => by
  simp at hv; rcases hv with rfl | rfl <;> rfl
theorem one1 (A : Option Addr) (a b : Nat) : ∀ v ∈ [Value.slice A a b], v.oneCell' = true := fun v hv => by
  simp at hv; subst hv; rfl
theorem tagLen1 (nm p : List Byte) : (tagBytes nm [p]).length = 16 + nm.length + p.length := by simp [tagBytes, be8_length]; omega
theorem tagLen2 (nm p q : List Byte) : (tagBytes nm [p, q]).length = 24 + nm.length + p.length + q.length := by simp [tagBytes, be8_length]; omega

theorem sums_ok (key : List Byte) (_hk : key.length = 32) (w : World) : Calls Try.prog 107 #[.agg (key.map u8v).toArray] w fun e w' => ∃ g1 g3 : Nat, e = .returned (.func (.func 130) #[] #[.pointer (some ⟨g3, 0, none⟩), .pointer (some ⟨g1, 0, none⟩)]) ∧ Blk w' g3 47 #[.int .u64 (0 : Nat)] ∧ Blk w' g1 23 (key.map u8v).toArray ∧ w.heap.size ≤ g1 ∧ g1 < g3 ∧ Le w w' := by
  refine enter Try.func107 rfl rfl ?_
  have L0 := Le.refl w
  refine WC.seq ?_
  refine WC.region ?_
  refine W.ef rfl rfl rfl ?_
  refine Ef.boxA rfl ?_
  intro g0_0 w0_0 hg0_0 b0_0 h0_0
  have L0_0 := L0.trans h0_0
  refine W.any (.assign rfl) rfl rfl rfl ?_
  refine W.nil ?_
  refine E.thenN ?_
  refine WC.seq ?_
  refine WC.region ?_
  refine W.ef rfl rfl rfl ?_
  refine Ef.alloc z47 ?_
  intro g1_0 w1_0 hg1_0 b1_0 h1_0
  have L1_0 := L0_0.trans h1_0
  refine W.ef0 rfl rfl ?_
  refine Ef.store sz47 rfl rfl (b1_0) (by decide) (rfl) ?_
  intro w1_1 b1_1 h1_1
  have L1_1 : Le w w1_1 := L1_0.then_ h1_1 (fun q hq => by cases hq; exact Nat.le_trans L0_0.size hg1_0)
  refine W.nil ?_
  refine E.thenN ?_
  refine WC.seq ?_
  refine WC.region ?_
  refine W.any (.makeFunc rfl) rfl rfl rfl ?_
  refine W.any (.assign rfl) rfl rfl rfl ?_
  refine W.nil ?_
  refine E.thenN ?_
  refine WC.ret ?_
  refine E.ret1 rfl rfl ?_
  exact ⟨g0_0, g1_0, rfl, b1_1, (b0_0.le h1_0).ch h1_1 (by simp; have := b0_0.lt; omega), hg0_0, by have := b0_0.lt; omega, L1_1⟩

theorem next_ok (key : List Byte) (hk : key.length = 32) (m g1 g3 : Nat) (hm : m < 1000000) (w : World) (hB3 : Blk w g3 47 #[.int .u64 (m : Nat)]) (hB1 : Blk w g1 23 (key.map u8v).toArray) (hne : g1 < g3) : Calls Try.prog 130 #[.pointer (some ⟨g3, 0, none⟩), .pointer (some ⟨g1, 0, none⟩)] w fun e w' => e = .returned (.agg ((tag nStream [key, be8 m]).map u8v).toArray) ∧ Blk w' g3 47 #[.int .u64 (m + 1 : Nat)] ∧ Ch w w' (some g3) := by
  refine enter Try.func130 rfl rfl ?_
  have L0 := Le.refl w
  refine WC.seq ?_
  refine WC.region ?_
  refine W.ef rfl rfl rfl ?_
  refine Ef.allocA z23 ?_
  intro g0_0 w0_0 hg0_0 b0_0 h0_0
  have L0_0 := L0.trans h0_0
  have b0 : Blk w0_0 g0_0 23 ((List.replicate 32 0#8).map u8v).toArray := b0_0
  refine W.nil ?_
  refine E.thenN ?_
  refine WC.seq ?_
  refine WC.region ?_
  refine W.ef rfl rfl rfl ?_
  refine Ef.allocA z85 ?_
  intro g1_0 w1_0 hg1_0 b1_0 h1_0
  have L1_0 := L0_0.trans h1_0
  refine W.nil ?_
  refine E.thenN ?_
  refine WC.seq ?_
  refine WC.seq ?_
  refine WC.region ?_
  refine W.any (.move rfl) rfl rfl rfl ?_
  refine W.nil ?_
  refine E.thenN ?_
  refine WC.block ?_
  refine WC.loop (ι := Nat) (fun k => [(0, .pointer (some ⟨g3, 0, none⟩)), (1, .pointer (some ⟨g1, 0, none⟩)), (2, .pointer (some ⟨g0_0, 0, none⟩)), (3, .pointer (some ⟨g1_0, 0, none⟩)), (5, .int .i64 (k : Int))]) (fun k wl => k ≤ 8 ∧ Le w wl ∧ Blk wl g0_0 23 ((List.replicate 32 0#8).map u8v).toArray ∧ Blk wl g1_0 85 (((be8To m k) ++ List.replicate (8 - k) 0#8).map u8v).toArray) (fun k => 8 - k) 0 ?_ ?_ ?_
  · exact .cons rfl (.cons rfl (.cons rfl (.cons rfl (.cons rfl (.nil _)))))
  · exact ⟨by omega, L1_0, b0.le h1_0, b1_0.cast (by simp [be8To]; rfl)⟩
  · rintro k wl ⟨hk8, Ll, b0, b1⟩
    have hbl : (be8To m k).length = k := by simp [be8To, be8_length]; omega
    refine WC.seq ?_
    refine WC.region ?_
    refine W.any (.lss rfl rfl) rfl rfl rfl ?_
    refine W.nil ?_
    refine E.thenN ?_
    refine WC.seq ?_
    refine WC.cond rfl (fun c0 => ?_) (fun c0 => ?_)
    · refine WC.skip ?_
      refine E.thenN ?_
      refine WC.seq ?_
      refine WC.block ?_
      refine WC.seq ?_
      refine WC.region ?_
      refine W.any (.move rfl) rfl rfl rfl ?_
      refine W.any (.assign rfl) rfl rfl rfl ?_
      refine W.nil ?_
      refine E.thenN ?_
      refine WC.region ?_
      refine W.any (.move rfl) rfl rfl rfl ?_
      refine W.rd (.loadB na47 rfl (hB3.le Ll) (rfl)) rfl rfl rfl ?_
      refine W.any (.move rfl) rfl rfl rfl ?_
      refine W.any (.mul rfl rfl (by omega)) rfl rfl rfl ?_
      refine W.any (.sub rfl rfl (by omega)) rfl rfl rfl ?_
      refine W.any (.shrN m (56 - 8 * k) rfl rfl rfl (by omega) (by show 56 - 8 * k ≤ 64; omega)) rfl rfl rfl ?_
      refine W.rd (.toU8 (m >>> (56 - 8 * k)) (isS Try.underlying47) Try.underlying5 rfl rfl) rfl rfl rfl ?_
      refine W.any (.idxA1 (k) Try.underlying85 sz5 rfl rfl (rfl) (by omega)) rfl rfl rfl ?_
      refine W.ef0 rfl rfl ?_
      refine Ef.store sz5 rfl rfl (b1) (by simp; omega) (rfl) ?_
      intro w5_8 b5_8 h5_8
      have L5_8 : Le w w5_8 := Ll.then_ h5_8 (fun q hq => by cases hq; exact Nat.le_trans L0_0.size hg1_0)
      refine W.nil ?_
      refine E.blkN ?_
      refine E.thenN ?_
      refine WC.region ?_
      refine W.any (.add rfl rfl (by omega)) rfl rfl rfl ?_
      refine W.any (.move rfl) rfl rfl rfl ?_
      refine W.nil ?_
      refine E.again (k + 1) (.cons rfl (.cons rfl (.cons rfl (.cons rfl (.cons rfl (.nil _)))))) ?_ ?_
      · exact ⟨by omega, L5_8, b0.ch h5_8 (by simp; have := b0_0.lt; omega), b5_8.cast (by rw [fill_set u8v (be8To m k) 0#8 _ 8 k hbl (by omega), be8To_succ m k (by omega)])⟩
      · first | omega | (simp only []; omega)
    · have hk8 : k = 8 := by omega
      subst hk8
      have b1 : Blk wl g1_0 85 ((be8 m).map u8v).toArray := b1
      refine WC.exit ?_
      refine E.thenX ?_
      refine E.thenX ?_
      refine E.blkH ?_
      refine E.thenN ?_
      refine WC.seq ?_
      refine WC.region ?_
      refine W.rd (.loadB na47 rfl (hB3.le Ll) (rfl)) rfl rfl rfl ?_
      refine W.any (.addU rfl rfl (by omega)) rfl rfl rfl ?_
      refine W.ef0 rfl rfl ?_
      refine Ef.store sz47 rfl rfl (hB3.le Ll) (by simp) (rfl) ?_
      intro w7_2 b7_2 h7_2
      have bn : Blk w7_2 g3 47 #[.int .u64 (m + 1 : Nat)] := b7_2
      have b0 := b0.ch h7_2 (by simp; have := hB3.lt; omega)
      have b1 := b1.ch h7_2 (by simp; have := hB3.lt; have := L0_0.size; omega)
      have hB1' := (hB1.le Ll).ch h7_2 (by simp; omega)
      have ch : Ch w w7_2 (some g3) := (Ll.ch _).trans h7_2
      have L7 := Le.refl w7_2
      refine W.nil ?_
      refine E.thenN ?_
      refine WC.seq ?_
      refine WC.draw [0, 1, 2, 3, 4] mixed (by kernel_rfl) ?_
      intro w8 d8
      have L8 := L7.trans d8
      refine G.any rfl rfl (.cutArr Try.underlying23 sz5 rfl) rfl rfl rfl ?_
      refine G.any rfl rfl (.cutArr Try.underlying85 sz5 rfl) rfl rfl rfl ?_
      refine G.ef rfl rfl rfl rfl rfl ?_
      refine Ef.buildSliceN [_, _] Try.underlying135 el24 rfl (one2 _ _ _ _ _ _) rfl (by decide) (by decide) ?_
      intro g8_2 w8_2 hg8_2 b8_2 h8_2
      have L8_2 := L8.trans h8_2
      refine ⟨fun _ => h8_2, ?_⟩
      refine G.ef rfl rfl rfl rfl rfl ?_
      refine Ef.call go62 rfl rfl (tag_ok _ nStream w8_2 (ps := [key, be8 m]) rfl (b8_2.sl (s := 1) (n := 2) rfl) (.cons ((hB1'.le (d8.trans h8_2)).sb hk) (.cons ((b1.le (d8.trans h8_2)).sb rfl) (.nil _))) (by rw [tagLen2, hk, be8_length]; decide)) ?_
      rintro _ w8_3 ⟨rfl, h8_3⟩
      refine ⟨_, rfl, ?_⟩
      have L8_3 := L8_2.trans h8_3
      refine ⟨fun _ => h8_3, ?_⟩
      refine G.ef0 rfl rfl rfl rfl ?_
      refine Ef.storeAll sz23 (by simp [tag_length]) rfl rfl (((b0.le d8).le h8_2).le h8_3) (by simp [tag_length]) (all_u8v _) ?_
      intro w8_4 b8_4 h8_4
      refine ⟨fun h => absurd h (ne_true_of_eq_false (by kernel_rfl)), ?_⟩
      refine G.nil ?_
      refine E.thenN ?_
      refine WC.ret ?_
      refine E.retC rfl rfl b8_4 ag23 (by simp [tag_length]) ?_
      exact ⟨rfl, (bn.le (d8.trans (h8_2.trans h8_3))).ch h8_4 (by simp; have := hB3.lt; omega), (ch.trans ((d8.trans (h8_2.trans h8_3)).ch _)).then_ h8_4 (fun q hq => .inl (by cases hq; exact hg0_0))⟩

set_option maxHeartbeats 400000 in
theorem stream_ok (key : List Byte) (hk : key.length = 32) (n : Nat) (hn : n ≤ 65536) (w : World) : Calls Try.prog 61 #[.agg (key.map u8v).toArray, .int .i64 (n : Int)] w fun e w' => ∃ A c, e = .returned (.slice A n c) ∧ Own w' w.heap.size 5 1 A n c ((stream key n).map u8v) ∧ Le w w' := by
  refine enter Try.func61 rfl rfl ?_
  have L0 := Le.refl w
  refine WC.seq ?_
  refine WC.region ?_
  refine W.ef rfl rfl rfl ?_
  refine Ef.boxA rfl ?_
  intro g0_0 w0_0 hg0_0 b0_0 h0_0
  have L0_0 := L0.trans h0_0
  refine W.any (.assign rfl) rfl rfl rfl ?_
  refine W.nil ?_
  refine E.thenN ?_
  refine WC.seq ?_
  refine WC.seq ?_
  refine WC.region ?_
  refine W.any (.move rfl) rfl rfl rfl ?_
  refine W.any (.lss rfl rfl) rfl rfl rfl ?_
  refine W.any (.move rfl) rfl rfl rfl ?_
  refine W.rdg (Any.rd (.move rfl) _) rfl rfl rfl (decide_eq_false (by omega)) rfl rfl ?_
  refine W.rdg (Any.rd (.gtr rfl rfl) _) rfl rfl rfl (decide_eq_false (by omega)) rfl rfl ?_
  refine W.any (.pickF rfl (decide_eq_false (by omega)) rfl) rfl rfl rfl ?_
  refine W.nil ?_
  refine E.thenN ?_
  refine WC.condB rfl (fun h => absurd h (by simp; omega)) (fun _ => ?_)
  refine WC.skip ?_
  refine E.thenN ?_
  refine WC.seq ?_
  refine WC.region ?_
  refine W.any (.move rfl) rfl rfl rfl ?_
  refine W.any (.add rfl rfl (by omega)) rfl rfl rfl ?_
  refine W.ef rfl rfl rfl ?_
  refine Ef.makeSlice 0 (n + 32) Try.underlying24 el5 rfl rfl rfl (by omega) (by omega) (by omega) (by unfold maxLen; omega) ?_
  intro g3_2 w3_2 hg3_2 b3_2 h3_2
  have L3_2 := L0_0.trans h3_2
  have o3 : Own w3_2 w.heap.size 5 1 (some ⟨g3_2, 0, none⟩) 0 (n + 32) ((streamTo key 0).map u8v) := (b3_2.own_ (n := 0) (Nat.le_trans L0_0.size hg3_2) (by omega) (by simp [size_madeCells]) (by unfold maxLen; omega)).cast rfl (by simp [streamTo])
  refine W.any (.assign rfl) rfl rfl rfl ?_
  refine W.nil ?_
  refine E.thenN ?_
  refine WC.seq ?_
  refine WC.seq ?_
  refine WC.region ?_
  refine W.rd (.loadAll ag23 (by simp [hk]) rfl (b0_0.le h3_2)) rfl rfl rfl ?_
  refine W.ef rfl rfl rfl ?_
  refine Ef.call go107 rfl rfl (sums_ok key hk w3_2) ?_
  rintro _ w4_1 ⟨g1, g3, rfl, B3, B1, hg1, hg13, h4_1⟩
  refine ⟨_, rfl, ?_⟩
  have L4_1 := L3_2.trans h4_1
  refine W.any (.assign rfl) rfl rfl rfl ?_
  refine W.nil ?_
  refine E.thenN ?_
  refine WC.block ?_
  refine WC.loop (ι := Nat × Option Addr × Nat) (fun ⟨j, A1, c1⟩ => [(1, .int .i64 (n : Int)), (5, .slice A1 (32 * j) c1), (6, .func (.func 130) #[] #[.pointer (some ⟨g3, 0, none⟩), .pointer (some ⟨g1, 0, none⟩)])]) (fun ⟨j, A1, c1⟩ wl => j ≤ (n + 31) / 32 ∧ Le w wl ∧ Own wl w.heap.size 5 1 A1 (32 * j) c1 ((streamTo key j).map u8v) ∧ Blk wl g3 47 #[.int .u64 (j : Nat)] ∧ Blk wl g1 23 (key.map u8v).toArray ∧ rowOf A1 c1 ≠ some g3 ∧ rowOf A1 c1 ≠ some g1) (fun ⟨j, A1, c1⟩ => (n + 31) / 32 - j) (0, some ⟨g3_2, 0, none⟩, n + 32) ?_ ?_ ?_
  · exact .cons rfl (.cons rfl (.cons rfl (.nil _)))
  · exact ⟨Nat.zero_le _, L4_1, o3.le h4_1, B3, B1, fun he => by have := rowOf_lit he; have := b3_2.lt; omega, fun he => by have := rowOf_lit he; have := b3_2.lt; omega⟩
  · rintro ⟨j, A1, c1⟩ wl ⟨hj, Ll, ol, B3, B1, n3, n1⟩
    refine WC.seq ?_
    refine WC.seq ?_
    refine WC.region ?_
    refine W.any (.move rfl) rfl rfl rfl ?_
    refine W.rd (.len Try.underlying24 rfl) rfl rfl rfl ?_
    refine W.any (.move rfl) rfl rfl rfl ?_
    refine W.any (.lss rfl rfl) rfl rfl rfl ?_
    refine W.nil ?_
    refine E.thenN ?_
    refine WC.cond rfl (fun hq1 => ?_) (fun hq1 => ?_)
    · refine WC.skip ?_
      refine E.thenN ?_
      refine WC.block ?_
      refine WC.seq ?_
      refine WC.region ?_
      refine W.any (.move rfl) rfl rfl rfl ?_
      refine W.ef rfl rfl rfl ?_
      refine Ef.callC go130 rfl rfl rfl (next_ok key hk j g1 g3 (by omega) wl B3 B1 hg13) ?_
      rintro _ w6_1 ⟨rfl, Q3, h6_1⟩
      refine ⟨_, rfl, ?_⟩
      have L6_1 : Le w w6_1 := Ll.then_ h6_1 (fun q hq => by cases hq; have := h3_2.size; have := L0_0.size; omega)
      have ol1 := ol.ch h6_1 (fun q hq => by cases hq; exact n3)
      have Q1 := B1.ch h6_1 (by simp; omega)
      refine W.ef rfl rfl rfl ?_
      refine Ef.allocA z23 ?_
      intro g6_2 w6_2 hg6_2 b6_2 h6_2
      have L6_2 := L6_1.trans h6_2
      refine W.ef0 rfl rfl ?_
      refine Ef.storeAll sz23 (by simp [tag_length]) rfl rfl (b6_2) (by simp [tag_length]) (all_u8v _) ?_
      intro w6_3 b6_3 h6_3
      have L6_3 : Le w w6_3 := L6_2.then_ h6_3 (fun q hq => by cases hq; exact Nat.le_trans L6_1.size hg6_2)
      have Q3 := (Q3.le h6_2).ch h6_3 (by simp; have := Q3.lt; omega)
      have Q1 := (Q1.le h6_2).ch h6_3 (by simp; have := Q1.lt; omega)
      have ol2 := (ol1.le h6_2).ch h6_3 (fun q hq => by cases hq; exact fun he => by have := (ol1.row he).2; omega)
      refine W.nil ?_
      refine E.thenN ?_
      refine WC.region ?_
      refine W.any (.move rfl) rfl rfl rfl ?_
      refine W.any (.cutArr Try.underlying23 sz5 rfl) rfl rfl rfl ?_
      refine W.ef rfl rfl rfl ?_
      refine Ef.append Try.underlying24 el5 rfl (ol2) rfl ((b6_3.sb (tag_length _ _)).src Try.underlying24 _) (by omega) (by unfold maxLen; omega) (L6_3.size) ?_
      intro A7_2 c7_2 w7_2 o7_2 h7_2 at7_2
      have L7_2 : Le w w7_2 := L6_3.then_ h7_2 (fun q hq => (ol2.row hq).1)
      refine W.any (.assign rfl) rfl rfl rfl ?_
      refine W.nil ?_
      refine E.blkN ?_
      refine E.again (j + 1, A7_2, c7_2) (.cons rfl (.cons' rfl (slice_eq (by omega)) (.cons rfl (.nil _)))) ?_ ?_
      · exact ⟨by omega, L7_2, o7_2.cast (by omega) (by rw [streamTo_succ, List.map_append]), Q3.ch h7_2 n3, Q1.ch h7_2 n1, at7_2.off Q3.lt n3, at7_2.off Q1.lt n1⟩
      · first | omega | (simp only []; omega)
    · have hjn : j = (n + 31) / 32 := by omega
      subst hjn
      refine WC.exit ?_
      refine E.thenX ?_
      refine E.thenX ?_
      refine E.blkH ?_
      refine E.thenN ?_
      refine WC.seq ?_
      refine WC.region ?_
      refine W.any (.move rfl) rfl rfl rfl ?_
      refine W.any (.move rfl) rfl rfl rfl ?_
      refine W.any (.cutH (n) Try.underlying24 sz5 rfl rfl (rfl) (by have := ol.cap.1; omega)) rfl rfl rfl ?_
      refine W.any (.assign rfl) rfl rfl rfl ?_
      refine W.nil ?_
      refine E.thenN ?_
      refine WC.ret ?_
      refine E.ret1 rfl rfl ?_
      exact ⟨A1, c1, rfl, (ol.front n (by omega)).cast rfl (by simp only [Hsp.stream, Nat.mul_one, List.map_take]), Ll⟩

theorem over_ok (key : List Byte) (hk : key.length = 32) {A : Option Addr} {n c : Nat} {xs : List Byte} (w : World) (hS : Sb w A n xs) (hn : n ≤ 65536) : Calls Try.prog 55 #[.agg (key.map u8v).toArray, .slice A n c] w fun e w' => ∃ A' c', e = .returned (.slice A' n c') ∧ Own w' w.heap.size 5 1 A' n c' ((overB key xs).map u8v) ∧ Le w w' := by
  have hl := hS.len
  refine enter Try.func55 rfl rfl ?_
  have L0 := Le.refl w
  refine WC.seq ?_
  refine WC.region ?_
  refine W.ef rfl rfl rfl ?_
  refine Ef.boxA rfl ?_
  intro g0_0 w0_0 hg0_0 b0_0 h0_0
  have L0_0 := L0.trans h0_0
  refine W.any (.assign rfl) rfl rfl rfl ?_
  refine W.nil ?_
  refine E.thenN ?_
  refine WC.seq ?_
  refine WC.region ?_
  refine W.rd (.loadAll ag23 (by simp [hk]) rfl (b0_0)) rfl rfl rfl ?_
  refine W.any (.move rfl) rfl rfl rfl ?_
  refine W.rd (.len Try.underlying24 rfl) rfl rfl rfl ?_
  refine W.ef rfl rfl rfl ?_
  refine Ef.call go61 rfl rfl (stream_ok key hk n hn w0_0) ?_
  rintro _ w1_3 ⟨A1, c1, rfl, o1, h1_3⟩
  refine ⟨_, rfl, ?_⟩
  have L1_3 := L0_0.trans h1_3
  have o1 := o1.mono L0_0.size
  refine W.any (.assign rfl) rfl rfl rfl ?_
  refine W.nil ?_
  refine E.thenN ?_
  refine WC.seq ?_
  refine WC.seq ?_
  refine WC.region ?_
  refine W.any (.move rfl) rfl rfl rfl ?_
  refine W.rd (.len Try.underlying24 rfl) rfl rfl rfl ?_
  refine W.any (.move rfl) rfl rfl rfl ?_
  refine W.nil ?_
  refine E.thenN ?_
  refine WC.block ?_
  refine WC.loop (ι := Nat) (fun k => [(1, .slice A n c), (5, .slice A1 n c1), (12, .int .i64 (n : Int)), (13, .int .i64 (k : Int))]) (fun k wl => k ≤ n ∧ Le w wl ∧ Own wl w.heap.size 5 1 A1 n c1 ((overTo (stream key n) xs k).map u8v)) (fun k => n - k) 0 ?_ ?_ ?_
  · exact .cons rfl (.cons rfl (.cons rfl (.cons rfl (.nil _))))
  · exact ⟨Nat.zero_le _, L1_3, o1.cast rfl (by rw [overTo_zero])⟩
  · rintro k wl ⟨hkn, Ll, ol⟩
    have hol := overTo_length (stream key n) xs k (by rw [stream_length, hl]) (by omega)
    refine WC.seq ?_
    refine WC.region ?_
    refine W.any (.lss rfl rfl) rfl rfl rfl ?_
    refine W.nil ?_
    refine E.thenN ?_
    refine WC.seq ?_
    refine WC.cond rfl (fun c0 => ?_) (fun c0 => ?_)
    · obtain ⟨gA, hA1, hgA1, hgA2, hrow⟩ := ol.lit (by omega)
      subst hA1
      refine WC.skip ?_
      refine E.thenN ?_
      refine WC.seq ?_
      refine WC.block ?_
      refine WC.seq ?_
      refine WC.region ?_
      refine W.any (.move rfl) rfl rfl rfl ?_
      refine W.any (.assign rfl) rfl rfl rfl ?_
      refine W.nil ?_
      refine E.thenN ?_
      refine WC.draw [0, 1, 2, 3, 4, 5, 6, 7, 8, 9, 10] mixed (by kernel_rfl) ?_
      intro w5 d5
      have L5 := Ll.trans d5
      refine G.any rfl rfl (.move rfl) rfl rfl rfl ?_
      refine G.any rfl rfl (.move rfl) rfl rfl rfl ?_
      refine G.any rfl rfl (.idxB1 (k) Try.underlying24 sz5 rfl rfl (rfl) (by omega)) rfl rfl rfl ?_
      refine G.rd rfl rfl (.load na5 rfl (((ol.le d5).sl.2 k _ (getb _ (by omega))).elim fun ad h => by obtain ⟨h1, h2⟩ := h; injection h1 with h1; subst h1; rw [add_lit, Nat.zero_add] at h2; exact h2)) rfl rfl rfl ?_
      refine G.any rfl rfl (.move rfl) rfl rfl rfl ?_
      refine G.any rfl rfl (.move rfl) rfl rfl rfl ?_
      refine G.any rfl rfl (.idxS1 (k) Try.underlying24 sz5 rfl rfl (hS.isSome (by omega)) (rfl) (by omega)) rfl rfl rfl ?_
      refine G.rd rfl rfl (.loadS na5 rfl (hS.le L5) (getb xs (by omega))) rfl rfl rfl ?_
      refine G.any rfl rfl (.xor8 rfl rfl) rfl rfl rfl ?_
      refine G.any rfl rfl (.idxB1 (k) Try.underlying24 sz5 rfl rfl (rfl) (by omega)) rfl rfl rfl ?_
      refine G.ef0 rfl rfl rfl rfl ?_
      refine Ef.storeO sz5 rfl rfl (ol.le d5) (by omega) (rfl) ?_
      intro w5_10 o5_10 h5_10
      have L5_10 : Le w w5_10 := L5.then_ h5_10 (fun q hq => by cases hq; exact hgA1)
      refine ⟨fun h => absurd h (ne_true_of_eq_false (by kernel_rfl)), ?_⟩
      refine G.nil ?_
      refine E.blkN ?_
      refine E.thenN ?_
      refine WC.region ?_
      refine W.any (.add rfl rfl (by omega)) rfl rfl rfl ?_
      refine W.any (.move rfl) rfl rfl rfl ?_
      refine W.nil ?_
      refine E.again (k + 1) (.cons rfl (.cons rfl (.cons rfl (.cons rfl (.nil _))))) ?_ ?_
      · exact ⟨by omega, L5_10, o5_10.cast rfl (by rw [← overTo_succ (stream key n) xs k (by rw [stream_length, hl]) (by omega), overTo_at (stream key n) xs k (by rw [stream_length, hl]) (by omega), List.map_set])⟩
      · first | omega | (simp only []; omega)
    · have hkn : k = n := by omega
      subst hkn
      refine WC.exit ?_
      refine E.thenX ?_
      refine E.thenX ?_
      refine E.blkH ?_
      refine E.thenN ?_
      refine WC.seq ?_
      refine WC.region ?_
      refine W.any (.move rfl) rfl rfl rfl ?_
      refine W.any (.assign rfl) rfl rfl rfl ?_
      refine W.nil ?_
      refine E.thenN ?_
      refine WC.ret ?_
      refine E.ret1 rfl rfl ?_
      exact ⟨A1, c1, rfl, ol.cast rfl (by rw [overB, hl, ← overTo_all _ _ (by rw [stream_length, hl]), hl]), Ll⟩

theorem stag_ok (key : List Byte) (hk : key.length = 32) {A : Option Addr} {n c : Nat} {xs : List Byte} (w : World) (hS : Sb w A n xs) (hn : n ≤ 70000) : Calls Try.prog 54 #[.agg (key.map u8v).toArray, .slice A n c] w fun e w' => e = .returned (.agg ((tagB key xs).map u8v).toArray) ∧ Le w w' := by
  refine enter Try.func54 rfl rfl ?_
  have L0 := Le.refl w
  refine WC.seq ?_
  refine WC.region ?_
  refine W.ef rfl rfl rfl ?_
  refine Ef.boxA rfl ?_
  intro g0_0 w0_0 hg0_0 b0_0 h0_0
  have L0_0 := L0.trans h0_0
  refine W.ef rfl rfl rfl ?_
  refine Ef.allocA z85 ?_
  intro g0_1 w0_1 hg0_1 b0_1 h0_1
  have L0_1 := L0_0.trans h0_1
  refine W.nil ?_
  refine E.thenN ?_
  refine WC.seq ?_
  refine WC.region ?_
  refine W.any (.cutArr Try.underlying23 sz5 rfl) rfl rfl rfl ?_
  refine W.any (.move rfl) rfl rfl rfl ?_
  refine W.ef rfl rfl rfl ?_
  refine Ef.buildSliceN [_, _] Try.underlying135 el24 rfl (one2 _ _ _ _ _ _) rfl (by decide) (by decide) ?_
  intro g1_2 w1_2 hg1_2 b1_2 h1_2
  have L1_2 := L0_1.trans h1_2
  refine W.ef rfl rfl rfl ?_
  refine Ef.call go62 rfl rfl (tag_ok _ nSeal w1_2 (ps := [key, xs]) rfl (b1_2.sl (s := 1) (n := 2) rfl) (.cons (((b0_0.le h0_1).le h1_2).sb hk) (.cons (hS.le L1_2) (.nil _))) (by rw [tagLen2, hk, hS.len]; show 24 + 4 + 32 + n ≤ _; omega)) ?_
  rintro _ w1_3 ⟨rfl, h1_3⟩
  refine ⟨_, rfl, ?_⟩
  have L1_3 := L1_2.trans h1_3
  refine W.ef rfl rfl rfl ?_
  refine Ef.allocA z23 ?_
  intro g1_4 w1_4 hg1_4 b1_4 h1_4
  have L1_4 := L1_3.trans h1_4
  refine W.ef0 rfl rfl ?_
  refine Ef.storeAll sz23 (by simp [tag_length]) rfl rfl (b1_4) (by simp [tag_length]) (all_u8v _) ?_
  intro w1_5 b1_5 h1_5
  have L1_5 : Le w w1_5 := L1_4.then_ h1_5 (fun q hq => by cases hq; exact Nat.le_trans L1_3.size hg1_4)
  refine W.nil ?_
  refine E.thenN ?_
  refine WC.seq ?_
  refine WC.region ?_
  refine W.any (.cutArrH 8 Try.underlying23 sz5 rfl rfl rfl (by decide)) rfl rfl rfl ?_
  refine W.any (.arrPtr Try.underlying85 rfl (by decide)) rfl rfl rfl ?_
  refine W.rd (.loadSb ag85 rfl (b1_5.sb (tag_length _ _)) (by decide) (by decide)) rfl rfl rfl ?_
  refine W.ef0 rfl rfl ?_
  refine Ef.storeAll sz85 (by simp [tag_length]) rfl rfl ((((b0_1.le h1_2).le h1_3).le h1_4).ch h1_5 (by simp; have := b0_1.lt; have := h1_2.size; have := h1_3.size; omega)) (by simp [tag_length]) (all_u8v _) ?_
  intro w2_3 b2_3 h2_3
  have L2_3 : Le w w2_3 := L1_5.then_ h2_3 (fun q hq => by cases hq; exact Nat.le_trans L0_0.size hg0_1)
  refine W.nil ?_
  refine E.thenN ?_
  refine WC.ret ?_
  refine E.retC rfl rfl b2_3 ag85 (by simp [tag_length]) ?_
  exact ⟨rfl, L2_3⟩

theorem seal_ok (key : List Byte) (hk : key.length = 32) {A : Option Addr} {n c : Nat} {xs : List Byte} (w : World) (hS : Sb w A n xs) (hn : n ≤ 65536) : Calls Try.prog 45 #[.agg (key.map u8v).toArray, .slice A n c] w fun e w' => ∃ A' c', e = .returned (.slice A' (n + 8) c') ∧ Own w' w.heap.size 5 1 A' (n + 8) c' ((sealB key xs).map u8v) ∧ Le w w' := by
  refine enter Try.func45 rfl rfl ?_
  have L0 := Le.refl w
  refine WC.seq ?_
  refine WC.region ?_
  refine W.ef rfl rfl rfl ?_
  refine Ef.boxA rfl ?_
  intro g0_0 w0_0 hg0_0 b0_0 h0_0
  have L0_0 := L0.trans h0_0
  refine W.any (.assign rfl) rfl rfl rfl ?_
  refine W.nil ?_
  refine E.thenN ?_
  refine WC.seq ?_
  refine WC.seq ?_
  refine WC.region ?_
  refine W.any (.move rfl) rfl rfl rfl ?_
  refine W.rd (.len Try.underlying24 rfl) rfl rfl rfl ?_
  refine W.any (.gtr rfl rfl) rfl rfl rfl ?_
  refine W.nil ?_
  refine E.thenN ?_
  refine WC.condB rfl (fun h => absurd h (by simp; omega)) (fun _ => ?_)
  refine WC.skip ?_
  refine E.thenN ?_
  refine WC.seq ?_
  refine WC.region ?_
  refine W.rd (.loadAll ag23 (by simp [hk]) rfl (b0_0)) rfl rfl rfl ?_
  refine W.any (.move rfl) rfl rfl rfl ?_
  refine W.ef rfl rfl rfl ?_
  refine Ef.call go55 rfl rfl (over_ok key hk w0_0 (hS.le L0_0) hn) ?_
  rintro _ w3_2 ⟨A1, c1, rfl, o1, h3_2⟩
  refine ⟨_, rfl, ?_⟩
  have L3_2 := L0_0.trans h3_2
  have o1 := o1.mono L0_0.size
  refine W.any (.assign rfl) rfl rfl rfl ?_
  refine W.nil ?_
  refine E.thenN ?_
  refine WC.seq ?_
  refine WC.region ?_
  refine W.rd (.loadAll ag23 (by simp [hk]) rfl (b0_0.le h3_2)) rfl rfl rfl ?_
  refine W.any (.move rfl) rfl rfl rfl ?_
  refine W.ef rfl rfl rfl ?_
  refine Ef.call go54 rfl rfl (stag_ok key hk w3_2 o1.sb (by omega)) ?_
  rintro _ w4_2 ⟨rfl, h4_2⟩
  refine ⟨_, rfl, ?_⟩
  have L4_2 := L3_2.trans h4_2
  refine W.ef rfl rfl rfl ?_
  refine Ef.allocA z85 ?_
  intro g4_3 w4_3 hg4_3 b4_3 h4_3
  have L4_3 := L4_2.trans h4_3
  refine W.ef0 rfl rfl ?_
  refine Ef.storeAll sz85 (by simp [tagB_length]) rfl rfl (b4_3) (by simp [tagB_length]) (all_u8v _) ?_
  intro w4_4 b4_4 h4_4
  have L4_4 : Le w w4_4 := L4_3.then_ h4_4 (fun q hq => by cases hq; exact Nat.le_trans L4_2.size hg4_3)
  have o2 := ((o1.le h4_2).le h4_3).ch h4_4 (fun q hq => by cases hq; exact fun he => by have := (o1.row he).2; have := h4_2.size; omega)
  refine W.nil ?_
  refine E.thenN ?_
  refine WC.seq ?_
  refine WC.region ?_
  refine W.any (.move rfl) rfl rfl rfl ?_
  refine W.any (.cutArr Try.underlying85 sz5 rfl) rfl rfl rfl ?_
  refine W.ef rfl rfl rfl ?_
  refine Ef.append Try.underlying24 el5 rfl (o2) rfl ((b4_4.sb (tagB_length _ _)).src Try.underlying24 _) (by omega) (by unfold maxLen; omega) (L4_4.size) ?_
  intro A5_2 c5_2 w5_2 o5_2 h5_2 at5_2
  have L5_2 : Le w w5_2 := L4_4.then_ h5_2 (fun q hq => (o2.row hq).1)
  refine W.any (.assign rfl) rfl rfl rfl ?_
  refine W.nil ?_
  refine E.thenN ?_
  refine WC.ret ?_
  refine E.ret1 rfl rfl ?_
  exact ⟨A5_2, c5_2, rfl, o5_2.cast rfl (by rw [sealB, List.map_append]), L5_2⟩

theorem open_ok (key : List Byte) (hk : key.length = 32) {A : Option Addr} {n c : Nat} {xs : List Byte} (w : World) (hS : Sb w A n xs) (h8 : 8 ≤ n) (hn : n ≤ 65544) (hc : n ≤ c) : Calls Try.prog 24 #[.agg (key.map u8v).toArray, .slice A n c] w fun e w' => Le w w' ∧ ((fits key xs = false ∧ e = .returned (.tuple #[.slice none 0 0, .bool false])) ∨ (fits key xs = true ∧ ∃ A' c', e = .returned (.tuple #[.slice A' (n - 8) c', .bool true]) ∧ Own w' w.heap.size 5 1 A' (n - 8) c' ((inner key xs).map u8v))) := by
  have hl := hS.len
  have hfit : fits key xs = decide (tagB key (xs.take (n - 8)) = (xs.drop (n - 8)).take 8) := by
    rw [fits, hl, List.take_of_length_le (l := xs.drop (n - 8)) (i := 8) (by rw [List.length_drop]; omega)]
  refine enter Try.func24 rfl rfl ?_
  have L0 := Le.refl w
  refine WC.seq ?_
  refine WC.region ?_
  refine W.ef rfl rfl rfl ?_
  refine Ef.boxA rfl ?_
  intro g0_0 w0_0 hg0_0 b0_0 h0_0
  have L0_0 := L0.trans h0_0
  refine W.any (.assign rfl) rfl rfl rfl ?_
  refine W.any (.assign rfl) rfl rfl rfl ?_
  refine W.nil ?_
  refine E.thenN ?_
  refine WC.seq ?_
  refine WC.region ?_
  refine W.any (.move rfl) rfl rfl rfl ?_
  refine W.rd (.len Try.underlying24 rfl) rfl rfl rfl ?_
  refine W.any (.sub rfl rfl (by omega)) rfl rfl rfl ?_
  refine W.any (.assign rfl) rfl rfl rfl ?_
  refine W.nil ?_
  refine E.thenN ?_
  refine WC.seq ?_
  refine WC.seq ?_
  refine WC.draw [0, 1, 2, 3, 4, 5, 6, 7, 8, 9, 10, 12, 13, 14, 15, 16, 11, 17, 18] mixed (by kernel_rfl) ?_
  intro w2 d2
  have L2 := L0_0.trans d2
  refine G.any rfl rfl (.move rfl) rfl rfl rfl ?_
  refine G.any rfl rfl (.lss rfl rfl) rfl rfl rfl ?_
  refine G.any rfl rfl (.move rfl) rfl rfl rfl ?_
  refine G.anyg rfl rfl (.move rfl) rfl rfl rfl (decide_eq_false (by omega)) rfl rfl ?_
  refine G.anyg rfl rfl (.gtr rfl rfl) rfl rfl rfl (decide_eq_false (by omega)) rfl rfl ?_
  refine G.any rfl rfl (.pickF rfl (decide_eq_false (by omega)) rfl) rfl rfl rfl ?_
  refine G.any rfl rfl (.move rfl) rfl rfl rfl ?_
  refine G.rdg rfl rfl (.loadAll ag23 (by simp [hk]) rfl (b0_0.le d2)) rfl rfl rfl (decide_eq_false (by omega)) rfl rfl ?_
  refine G.anyg rfl rfl (.move rfl) rfl rfl rfl (decide_eq_false (by omega)) rfl rfl ?_
  refine G.anyg rfl rfl (.move rfl) rfl rfl rfl (decide_eq_false (by omega)) rfl rfl ?_
  refine G.anyg rfl rfl (.cutH (n - 8) Try.underlying24 sz5 rfl rfl (by omega) (by omega)) rfl rfl rfl (decide_eq_false (by omega)) rfl rfl ?_
  refine G.anyg rfl rfl (.move rfl) rfl rfl rfl (decide_eq_false (by omega)) rfl rfl ?_
  refine G.anyg rfl rfl (.move rfl) rfl rfl rfl (decide_eq_false (by omega)) rfl rfl ?_
  refine G.anyg rfl rfl (.cutL (n - 8) Try.underlying24 sz5 rfl rfl (by omega) (by omega) (hc)) rfl rfl rfl (decide_eq_false (by omega)) rfl rfl ?_
  refine G.anyg rfl rfl (.arrPtr Try.underlying85 rfl (by omega)) rfl rfl rfl (decide_eq_false (by omega)) rfl rfl ?_
  refine G.rdg rfl rfl (.loadSb ag85 rfl ((hS.le L2).cutL c (n - 8) (by omega) hc) (by omega) (by decide)) rfl rfl rfl (decide_eq_false (by omega)) rfl rfl ?_
  refine G.efg rfl rfl rfl rfl rfl (decide_eq_false (by omega)) rfl rfl ?_
  refine Ef.call go54 rfl rfl (stag_ok key hk w2 ((hS.le L2).cutH (n - 8) (by omega)) (by omega)) ?_
  rintro _ w2_11 ⟨rfl, h2_11⟩
  refine ⟨_, rfl, ?_⟩
  have L2_11 := L2.trans h2_11
  refine ⟨fun _ => h2_11, ?_⟩
  refine G.anyg rfl rfl (.neA eg85 rfl rfl (Eqv.bytes (d := 9998) _ _ Try.underlying85 sz5 Try.underlying5 (tagB_length _ _) (by rw [List.length_take, List.length_drop, hS.len]; omega))) rfl rfl rfl (decide_eq_false (by omega)) rfl rfl ?_
  refine G.any rfl rfl (.pickF rfl (decide_eq_false (by omega)) rfl) rfl rfl rfl ?_
  refine G.nil ?_
  refine E.thenN ?_
  refine WC.condB rfl (fun c0 => ?_) (fun c0 => ?_)
  · have hf : fits key xs = false := by rw [hfit]; simpa using c0
    refine WC.seq ?_
    refine WC.region ?_
    refine W.any (.assign rfl) rfl rfl rfl ?_
    refine W.any (.assign rfl) rfl rfl rfl ?_
    refine W.nil ?_
    refine E.thenN ?_
    refine WC.ret ?_
    refine E.thenR ?_
    refine E.ret2 rfl rfl rfl ?_
    exact ⟨L2_11, .inl ⟨hf, rfl⟩⟩
  · have hf : fits key xs = true := by rw [hfit]; simpa using c0
    refine WC.skip ?_
    refine E.thenN ?_
    refine WC.seq ?_
    refine WC.draw [0, 1, 2, 3, 4, 5, 6] mixed (by kernel_rfl) ?_
    intro w4 d4
    have L4 := L2_11.trans d4
    refine G.rd rfl rfl (.loadAll ag23 (by simp [hk]) rfl ((b0_0.le d2).le (h2_11.trans d4))) rfl rfl rfl ?_
    refine G.any rfl rfl (.move rfl) rfl rfl rfl ?_
    refine G.any rfl rfl (.move rfl) rfl rfl rfl ?_
    refine G.any rfl rfl (.cutH (n - 8) Try.underlying24 sz5 rfl rfl (by omega) (by omega)) rfl rfl rfl ?_
    refine G.ef rfl rfl rfl rfl rfl ?_
    refine Ef.call go55 rfl rfl (over_ok key hk w4 ((hS.le L4).cutH (n - 8) (by omega)) (by omega)) ?_
    rintro _ w4_4 ⟨A1, c1, rfl, o1, h4_4⟩
    refine ⟨_, rfl, ?_⟩
    have L4_4 := L4.trans h4_4
    refine ⟨fun _ => h4_4, ?_⟩
    have o1 := o1.mono L4.size
    refine G.any rfl rfl (.assign rfl) rfl rfl rfl ?_
    refine G.any rfl rfl (.assign rfl) rfl rfl rfl ?_
    refine G.nil ?_
    refine E.thenN ?_
    refine WC.ret ?_
    refine E.ret2 rfl rfl rfl ?_
    exact ⟨L4_4, .inr ⟨hf, A1, c1, rfl, o1.cast rfl (by rw [inner, hl])⟩⟩

theorem open_short (key : List Byte) {A : Option Addr} {n c : Nat} (w : World) (h8 : n < 8) : Calls Try.prog 24 #[.agg (key.map u8v).toArray, .slice A n c] w fun e w' => e = .returned (.tuple #[.slice none 0 0, .bool false]) ∧ Le w w' := by
  refine enter Try.func24 rfl rfl ?_
  have L0 := Le.refl w
  refine WC.seq ?_
  refine WC.region ?_
  refine W.ef rfl rfl rfl ?_
  refine Ef.boxA rfl ?_
  intro g0_0 w0_0 hg0_0 b0_0 h0_0
  have L0_0 := L0.trans h0_0
  refine W.any (.assign rfl) rfl rfl rfl ?_
  refine W.any (.assign rfl) rfl rfl rfl ?_
  refine W.nil ?_
  refine E.thenN ?_
  refine WC.seq ?_
  refine WC.region ?_
  refine W.any (.move rfl) rfl rfl rfl ?_
  refine W.rd (.len Try.underlying24 rfl) rfl rfl rfl ?_
  refine W.any (.sub rfl rfl (by omega)) rfl rfl rfl ?_
  refine W.any (.assign rfl) rfl rfl rfl ?_
  refine W.nil ?_
  refine E.thenN ?_
  refine WC.seq ?_
  refine WC.seq ?_
  refine WC.draw [0, 1, 2, 3, 4, 5, 6, 7, 8, 9, 10, 12, 13, 14, 15, 16, 11, 17, 18] mixed (by kernel_rfl) ?_
  intro w2 d2
  have L2 := L0_0.trans d2
  refine G.any rfl rfl (.move rfl) rfl rfl rfl ?_
  refine G.any rfl rfl (.lss rfl rfl) rfl rfl rfl ?_
  refine G.any rfl rfl (.move rfl) rfl rfl rfl ?_
  refine G.skip rfl rfl rfl rfl (decide_eq_true (by omega)) rfl rfl ?_
  refine G.skip rfl rfl rfl rfl (decide_eq_true (by omega)) rfl rfl ?_
  refine G.any rfl rfl (.pickT rfl (decide_eq_true (by omega)) rfl) rfl rfl rfl ?_
  refine G.any rfl rfl (.move rfl) rfl rfl rfl ?_
  refine G.skip rfl rfl rfl rfl (rfl) rfl rfl ?_
  refine G.skip rfl rfl rfl rfl (rfl) rfl rfl ?_
  refine G.skip rfl rfl rfl rfl (rfl) rfl rfl ?_
  refine G.skip rfl rfl rfl rfl (rfl) rfl rfl ?_
  refine G.skip rfl rfl rfl rfl (rfl) rfl rfl ?_
  refine G.skip rfl rfl rfl rfl (rfl) rfl rfl ?_
  refine G.skip rfl rfl rfl rfl (rfl) rfl rfl ?_
  refine G.skip rfl rfl rfl rfl (rfl) rfl rfl ?_
  refine G.skip rfl rfl rfl rfl (rfl) rfl rfl ?_
  refine G.skip rfl rfl rfl rfl (rfl) rfl rfl ?_
  refine G.skip rfl rfl rfl rfl (rfl) rfl rfl ?_
  refine G.any rfl rfl (.pickT rfl rfl rfl) rfl rfl rfl ?_
  refine G.nil ?_
  refine E.thenN ?_
  refine WC.condB rfl (fun _ => ?_) (fun h => absurd h (by simp))
  refine WC.seq ?_
  refine WC.region ?_
  refine W.any (.assign rfl) rfl rfl rfl ?_
  refine W.any (.assign rfl) rfl rfl rfl ?_
  refine W.nil ?_
  refine E.thenN ?_
  refine WC.ret ?_
  refine E.thenR ?_
  refine E.ret2 rfl rfl rfl ?_
  exact ⟨rfl, L2⟩
end Go.Proofs.Ytpmjdiccekkadaa
