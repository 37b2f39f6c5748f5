/- The hash: each function of the program's package hash, walked. -/
import Derived.Test.YtfgakofjkldcjaaTy
import Derived.Test.YtfgakofjkldcjaaHsp
namespace Go.Proofs.Ytfgakofjkldcjaa
open Go Go.Sx Go.Hsp
set_option maxRecDepth 20000
abbrev zw8 : Array Value := #[.int .u32 0, .int .u32 0, .int .u32 0, .int .u32 0, .int .u32 0, .int .u32 0, .int .u32 0, .int .u32 0]
theorem one8 (a b c d e f g h : BitVec 32) : ∀ v ∈ [u32v a, u32v b, u32v c, u32v d, u32v e, u32v f, u32v g, u32v h], v.oneCell' = true := fun v hv => by
  simp at hv; rcases hv with rfl | rfl | rfl | rfl | rfl | rfl | rfl | rfl <;> rfl
theorem rot_ok (x : BitVec 32) (k : Nat) (w : World) (hk : 1 ≤ k ∧ k ≤ 31) : Calls Try.prog 154 #[u32v x, .int .i64 (-(k : Int))] w fun e w' => e = .returned (u32v (rot x k)) ∧ Le w w' := by
  have e : (18446744073709551616 - k) &&& 31 = 32 - k := by
    have h := Nat.and_two_pow_sub_one_eq_mod (18446744073709551616 - k) 5
    have h5 : (2 ^ 5 - 1 : Nat) = 31 := by decide
    rw [h5] at h; rw [h]; omega
  refine enter Try.func154 rfl rfl ?_
  have L0 := Le.refl w
  refine WC.seq ?_
  refine WC.region ?_
  refine W.any (.assign rfl) rfl rfl rfl ?_
  refine W.nil ?_
  refine E.thenN ?_
  refine WC.seq ?_
  refine WC.region ?_
  refine W.any (.move rfl) rfl rfl rfl ?_
  refine W.rd (.convEq (i' := ((18446744073709551616 - k : Nat) : Int)) (isS Try.underlying3) Try.underlying213 rfl (by rw [wrap_u64]; omega)) rfl rfl rfl ?_
  refine W.any (.andN (18446744073709551616 - k) 31 rfl rfl rfl rfl (by omega) (by decide)) rfl rfl rfl ?_
  refine W.any (.assign rfl) rfl rfl rfl ?_
  refine W.nil ?_
  refine E.thenN ?_
  refine WC.seq ?_
  refine WC.region ?_
  refine W.any (.move rfl) rfl rfl rfl ?_
  refine W.any (.move rfl) rfl rfl rfl ?_
  refine W.any (.shl32 (32 - k) rfl rfl (by rw [e]) (by omega)) rfl rfl rfl ?_
  refine W.any (.move rfl) rfl rfl rfl ?_
  refine W.any (.move rfl) rfl rfl rfl ?_
  refine W.any (.subU rfl rfl (by rw [e]; omega)) rfl rfl rfl ?_
  refine W.any (.shr32 k rfl rfl (by rw [e]; omega) (by omega)) rfl rfl rfl ?_
  refine W.any (.or32 rfl rfl) rfl rfl rfl ?_
  refine W.any (.assign rfl) rfl rfl rfl ?_
  refine W.nil ?_
  refine E.thenN ?_
  refine WC.ret ?_
  refine E.ret1 rfl rfl ?_
  exact ⟨rfl, L0⟩

theorem binary_ok {A : Option Addr} {n c : Nat} {xs : List Byte} (w : World) (hS : Sb w A n xs) (hn : 4 ≤ n) : Calls Try.prog 180 #[.slice A n c] w fun e w' => e = .returned (u32v (be32 xs)) ∧ Le w w' := by
  have hl := hS.len
  refine enter Try.func180 rfl rfl ?_
  have L0 := Le.refl w
  refine WC.seq ?_
  refine WC.region ?_
  refine W.any (.assign rfl) rfl rfl rfl ?_
  refine W.nil ?_
  refine E.thenN ?_
  refine WC.seq ?_
  refine WC.draw [0, 1, 2, 3, 4, 5, 6, 7, 8, 9, 10, 11, 12, 13, 14, 15, 16, 17, 18, 19, 20, 21, 22] mixed (by kernel_rfl) ?_
  intro w1 d1
  have L1 := L0.trans d1
  refine G.any rfl rfl (.move rfl) rfl rfl rfl ?_
  refine G.any rfl rfl (.idxS1 (0) Try.underlying107 sz5 rfl rfl (hS.isSome (by omega)) (rfl) (by omega)) rfl rfl rfl ?_
  refine G.rd rfl rfl (.loadS na5 rfl (hS.le L1) (getb xs (by omega))) rfl rfl rfl ?_
  refine G.rd rfl rfl (.u8to32 (isS Try.underlying5) Try.underlying194 rfl) rfl rfl rfl ?_
  refine G.any rfl rfl (.shl32 24 rfl rfl rfl (by decide)) rfl rfl rfl ?_
  refine G.any rfl rfl (.move rfl) rfl rfl rfl ?_
  refine G.any rfl rfl (.idxS1 (1) Try.underlying107 sz5 rfl rfl (hS.isSome (by omega)) (rfl) (by omega)) rfl rfl rfl ?_
  refine G.rd rfl rfl (.loadS na5 rfl (hS.le L1) (getb xs (by omega))) rfl rfl rfl ?_
  refine G.rd rfl rfl (.u8to32 (isS Try.underlying5) Try.underlying194 rfl) rfl rfl rfl ?_
  refine G.any rfl rfl (.shl32 16 rfl rfl rfl (by decide)) rfl rfl rfl ?_
  refine G.any rfl rfl (.or32 rfl rfl) rfl rfl rfl ?_
  refine G.any rfl rfl (.move rfl) rfl rfl rfl ?_
  refine G.any rfl rfl (.idxS1 (2) Try.underlying107 sz5 rfl rfl (hS.isSome (by omega)) (rfl) (by omega)) rfl rfl rfl ?_
  refine G.rd rfl rfl (.loadS na5 rfl (hS.le L1) (getb xs (by omega))) rfl rfl rfl ?_
  refine G.rd rfl rfl (.u8to32 (isS Try.underlying5) Try.underlying194 rfl) rfl rfl rfl ?_
  refine G.any rfl rfl (.shl32 8 rfl rfl rfl (by decide)) rfl rfl rfl ?_
  refine G.any rfl rfl (.or32 rfl rfl) rfl rfl rfl ?_
  refine G.any rfl rfl (.move rfl) rfl rfl rfl ?_
  refine G.any rfl rfl (.idxS1 (3) Try.underlying107 sz5 rfl rfl (hS.isSome (by omega)) (rfl) (by omega)) rfl rfl rfl ?_
  refine G.rd rfl rfl (.loadS na5 rfl (hS.le L1) (getb xs (by omega))) rfl rfl rfl ?_
  refine G.rd rfl rfl (.u8to32 (isS Try.underlying5) Try.underlying194 rfl) rfl rfl rfl ?_
  refine G.any rfl rfl (.or32 rfl rfl) rfl rfl rfl ?_
  refine G.any rfl rfl (.assign rfl) rfl rfl rfl ?_
  refine G.nil ?_
  refine E.thenN ?_
  refine WC.ret ?_
  refine E.ret1 rfl rfl ?_
  exact ⟨rfl, L1⟩

theorem schedule_ok {A : Option Addr} {n c : Nat} {b : List Byte} (w : World) (hS : Sb w A n b) (hn : n = 64) (hc : n ≤ c) : Calls Try.prog 152 #[.slice A n c] w fun e w' => e = .returned (.agg ((sched b).map u32v).toArray) ∧ Le w w' := by
  refine enter Try.func152 rfl rfl ?_
  have L0 := Le.refl w
  refine WC.seq ?_
  refine WC.region ?_
  refine W.ef rfl rfl rfl ?_
  refine Ef.allocA z217 ?_
  intro g0_0 w0_0 hg0_0 b0_0 h0_0
  have L0_0 := L0.trans h0_0
  refine W.nil ?_
  refine E.thenN ?_
  refine WC.seq ?_
  refine WC.seq ?_
  refine WC.region ?_
  refine W.any (.move rfl) rfl rfl rfl ?_
  refine W.nil ?_
  refine E.thenN ?_
  refine WC.block ?_
  refine WC.loop (ι := Nat) (fun k => [(0, .slice A n c), (2, .pointer (some ⟨g0_0, 0, none⟩)), (8, .int .i64 (k : Int))]) (fun k wl => k ≤ 64 ∧ Le w wl ∧ Blk wl g0_0 217 (((schedTo b k) ++ List.replicate (64 - k) 0#32).map u32v).toArray) (fun k => 64 - k) 0 ?_ ?_ ?_
  · exact .cons rfl (.cons rfl (.cons rfl (.nil _)))
  · exact ⟨by omega, L0_0, b0_0.cast rfl⟩
  · rintro k wl ⟨hk, Ll, bl⟩
    have hsl := schedTo_length b k
    refine WC.seq ?_
    refine WC.region ?_
    refine W.any (.lss rfl rfl) rfl rfl rfl ?_
    refine W.nil ?_
    refine E.thenN ?_
    refine WC.seq ?_
    refine WC.cond rfl (fun c0 => ?_) (fun c0 => ?_)
    · refine WC.skip ?_
      refine E.thenN ?_
      refine WC.seq ?_
      refine WC.block ?_
      refine WC.seq ?_
      refine WC.region ?_
      refine W.any (.move rfl) rfl rfl rfl ?_
      refine W.any (.assign rfl) rfl rfl rfl ?_
      refine W.nil ?_
      refine E.thenN ?_
      refine WC.seq ?_
      refine WC.seq ?_
      refine WC.region ?_
      refine W.any (.move rfl) rfl rfl rfl ?_
      refine W.any (.lss rfl rfl) rfl rfl rfl ?_
      refine W.nil ?_
      refine E.thenN ?_
      refine WC.cond rfl (fun c1 => ?_) (fun c1 => ?_)
      · have c1 : k < 16 := by omega
        refine WC.seq ?_
        refine WC.region ?_
        refine W.any (.move rfl) rfl rfl rfl ?_
        refine W.any (.move rfl) rfl rfl rfl ?_
        refine W.any (.move rfl) rfl rfl rfl ?_
        refine W.any (.mul rfl rfl (by omega)) rfl rfl rfl ?_
        refine W.any (.cutL (4 * k) Try.underlying107 sz5 rfl rfl (by omega) (by omega) (by omega)) rfl rfl rfl ?_
        refine W.ef rfl rfl rfl ?_
        refine Ef.call go180 rfl rfl (binary_ok wl ((hS.le Ll).cutL c (4 * k) (by omega) hc) (by omega)) ?_
        rintro _ w5_5 ⟨rfl, h5_5⟩
        refine ⟨_, rfl, ?_⟩
        have L5_5 := Ll.trans h5_5
        refine W.any (.idxA1 (k) Try.underlying217 sz194 rfl rfl (rfl) (by omega)) rfl rfl rfl ?_
        refine W.ef0 rfl rfl ?_
        refine Ef.store sz194 rfl rfl (bl.le h5_5) (by simp; omega) (rfl) ?_
        intro w5_7 b5_7 h5_7
        have L5_7 : Le w w5_7 := L5_5.then_ h5_7 (fun q hq => by cases hq; exact hg0_0)
        refine W.nil ?_
        refine E.thenN ?_
        refine WC.exit ?_
        refine E.thenX ?_
        refine E.blkH ?_
        refine E.thenN ?_
        refine WC.region ?_
        refine W.any (.add rfl rfl (by omega)) rfl rfl rfl ?_
        refine W.any (.move rfl) rfl rfl rfl ?_
        refine W.nil ?_
        refine E.again (k + 1) (.cons rfl (.cons rfl (.cons rfl (.nil _)))) ?_ ?_
        · exact ⟨by omega, L5_7, b5_7.cast (by rw [fill_set u32v (schedTo b k) 0#32 _ 64 k hsl (by omega)]; simp [schedTo, c1])⟩
        · first | omega | (simp only []; omega)
      · have c1 : ¬ k < 16 := by omega
        refine WC.skip ?_
        refine E.thenN ?_
        refine WC.seq ?_
        refine WC.draw [0, 1, 2, 3, 4, 5, 6, 7, 8, 9] mixed (by kernel_rfl) ?_
        intro w6 d6
        have L6 := Ll.trans d6
        refine G.any rfl rfl (.move rfl) rfl rfl rfl ?_
        refine G.any rfl rfl (.sub rfl rfl (by omega)) rfl rfl rfl ?_
        refine G.any rfl rfl (.idxA1 (k - 15) Try.underlying217 sz194 rfl rfl (by omega) (by omega)) rfl rfl rfl ?_
        refine G.rd rfl rfl (.loadB na194 rfl (bl.le d6) (getwF _ _ _ (by omega))) rfl rfl rfl ?_
        refine G.any rfl rfl (.move rfl) rfl rfl rfl ?_
        refine G.any rfl rfl (.sub rfl rfl (by omega)) rfl rfl rfl ?_
        refine G.any rfl rfl (.idxA1 (k - 2) Try.underlying217 sz194 rfl rfl (by omega) (by omega)) rfl rfl rfl ?_
        refine G.rd rfl rfl (.loadB na194 rfl (bl.le d6) (getwF _ _ _ (by omega))) rfl rfl rfl ?_
        refine G.any rfl rfl (.assign rfl) rfl rfl rfl ?_
        refine G.any rfl rfl (.assign rfl) rfl rfl rfl ?_
        refine G.nil ?_
        refine E.thenN ?_
        refine WC.seq ?_
        refine WC.region ?_
        refine W.any (.move rfl) rfl rfl rfl ?_
        refine W.ef rfl rfl rfl ?_
        refine Ef.call go154 rfl rfl (rot_ok _ 7 w6 (by omega)) ?_
        rintro _ w7_1 ⟨rfl, h7_1⟩
        refine ⟨_, rfl, ?_⟩
        have L7_1 := L6.trans h7_1
        refine W.any (.move rfl) rfl rfl rfl ?_
        refine W.ef rfl rfl rfl ?_
        refine Ef.call go154 rfl rfl (rot_ok _ 18 w7_1 (by omega)) ?_
        rintro _ w7_3 ⟨rfl, h7_3⟩
        refine ⟨_, rfl, ?_⟩
        have L7_3 := L7_1.trans h7_3
        refine W.any (.xor32 rfl rfl) rfl rfl rfl ?_
        refine W.any (.move rfl) rfl rfl rfl ?_
        refine W.any (.shr32 3 rfl rfl rfl (by decide)) rfl rfl rfl ?_
        refine W.any (.xor32 rfl rfl) rfl rfl rfl ?_
        refine W.any (.assign rfl) rfl rfl rfl ?_
        refine W.nil ?_
        refine E.thenN ?_
        refine WC.seq ?_
        refine WC.region ?_
        refine W.any (.move rfl) rfl rfl rfl ?_
        refine W.ef rfl rfl rfl ?_
        refine Ef.call go154 rfl rfl (rot_ok _ 17 w7_3 (by omega)) ?_
        rintro _ w8_1 ⟨rfl, h8_1⟩
        refine ⟨_, rfl, ?_⟩
        have L8_1 := L7_3.trans h8_1
        refine W.any (.move rfl) rfl rfl rfl ?_
        refine W.ef rfl rfl rfl ?_
        refine Ef.call go154 rfl rfl (rot_ok _ 19 w8_1 (by omega)) ?_
        rintro _ w8_3 ⟨rfl, h8_3⟩
        refine ⟨_, rfl, ?_⟩
        have L8_3 := L8_1.trans h8_3
        refine W.any (.xor32 rfl rfl) rfl rfl rfl ?_
        refine W.any (.move rfl) rfl rfl rfl ?_
        refine W.any (.shr32 10 rfl rfl rfl (by decide)) rfl rfl rfl ?_
        refine W.any (.xor32 rfl rfl) rfl rfl rfl ?_
        refine W.any (.assign rfl) rfl rfl rfl ?_
        refine W.nil ?_
        refine E.thenN ?_
        refine WC.draw [0, 1, 2, 3, 4, 5, 6, 7, 8, 9, 10, 11, 12, 13, 14, 15] mixed (by kernel_rfl) ?_
        intro w9 d9
        have L9 := L8_3.trans d9
        have bl9 := bl.le (d6.trans (h7_1.trans (h7_3.trans (h8_1.trans (h8_3.trans d9)))))
        refine G.any rfl rfl (.move rfl) rfl rfl rfl ?_
        refine G.any rfl rfl (.move rfl) rfl rfl rfl ?_
        refine G.any rfl rfl (.sub rfl rfl (by omega)) rfl rfl rfl ?_
        refine G.any rfl rfl (.idxA1 (k - 16) Try.underlying217 sz194 rfl rfl (by omega) (by omega)) rfl rfl rfl ?_
        refine G.rd rfl rfl (.loadB na194 rfl (bl9) (getwF _ _ _ (by omega))) rfl rfl rfl ?_
        refine G.any rfl rfl (.move rfl) rfl rfl rfl ?_
        refine G.any rfl rfl (.add32 rfl rfl) rfl rfl rfl ?_
        refine G.any rfl rfl (.move rfl) rfl rfl rfl ?_
        refine G.any rfl rfl (.sub rfl rfl (by omega)) rfl rfl rfl ?_
        refine G.any rfl rfl (.idxA1 (k - 7) Try.underlying217 sz194 rfl rfl (by omega) (by omega)) rfl rfl rfl ?_
        refine G.rd rfl rfl (.loadB na194 rfl (bl9) (getwF _ _ _ (by omega))) rfl rfl rfl ?_
        refine G.any rfl rfl (.add32 rfl rfl) rfl rfl rfl ?_
        refine G.any rfl rfl (.move rfl) rfl rfl rfl ?_
        refine G.any rfl rfl (.add32 rfl rfl) rfl rfl rfl ?_
        refine G.any rfl rfl (.idxA1 (k) Try.underlying217 sz194 rfl rfl (rfl) (by omega)) rfl rfl rfl ?_
        refine G.ef0 rfl rfl rfl rfl ?_
        refine Ef.store sz194 rfl rfl (bl9) (by simp; omega) (rfl) ?_
        intro w9_15 b9_15 h9_15
        have L9_15 : Le w w9_15 := L9.then_ h9_15 (fun q hq => by cases hq; exact hg0_0)
        refine ⟨fun h => absurd h (ne_true_of_eq_false (by kernel_rfl)), ?_⟩
        refine G.nil ?_
        refine E.blkN ?_
        refine E.thenN ?_
        refine WC.region ?_
        refine W.any (.add rfl rfl (by omega)) rfl rfl rfl ?_
        refine W.any (.move rfl) rfl rfl rfl ?_
        refine W.nil ?_
        refine E.again (k + 1) (.cons rfl (.cons rfl (.cons rfl (.nil _)))) ?_ ?_
        · exact ⟨by omega, L9_15, b9_15.cast (by rw [fill_set u32v (schedTo b k) 0#32 _ 64 k hsl (by omega)]; simp [schedTo, c1, nextWord])⟩
        · first | omega | (simp only []; omega)
    · have hk64 : k = 64 := by omega
      subst hk64
      have bl : Blk wl g0_0 217 ((sched b).map u32v).toArray := bl.cast (by simp [sched])
      have hsl : (sched b).length = 64 := schedTo_length b 64
      refine WC.exit ?_
      refine E.thenX ?_
      refine E.thenX ?_
      refine E.blkH ?_
      refine E.thenN ?_
      refine WC.seq ?_
      refine WC.region ?_
      refine W.rd (.loadAll ag217 (by simp [hsl]) rfl (bl)) rfl rfl rfl ?_
      refine W.ef0 rfl rfl ?_
      refine Ef.storeAll sz217 (by simp [hsl]) rfl rfl (bl) (by simp) (fun v hv => all_u32v _ v (by simpa using hv)) ?_
      intro w11_1 b11_1 h11_1
      have L11_1 : Le w w11_1 := Ll.then_ h11_1 (fun q hq => by cases hq; exact hg0_0)
      refine W.nil ?_
      refine E.thenN ?_
      refine WC.ret ?_
      refine E.retC rfl rfl b11_1 ag217 (by simp [hsl]) ?_
      exact ⟨rfl, L11_1⟩

theorem table_ok (w : World) : Calls Try.prog 153 #[] w fun e w' => e = .returned (.agg (table.map u32v).toArray) ∧ Le w w' := by
  refine enter Try.func153 rfl rfl ?_
  have L0 := Le.refl w
  refine WC.seq ?_
  refine WC.region ?_
  refine W.ef rfl rfl rfl ?_
  refine Ef.allocA z217 ?_
  intro g0_0 w0_0 hg0_0 b0_0 h0_0
  have L0_0 := L0.trans h0_0
  refine W.nil ?_
  refine E.thenN ?_
  refine WC.seq ?_
  refine WC.region ?_
  refine W.any (.buildA (cells := (table.map u32v).toArray) Try.underlying217 sz194 z217 rfl (by kernel_rfl)) rfl rfl rfl ?_
  refine W.ef0 rfl rfl ?_
  refine Ef.storeAll sz217 (rfl) rfl rfl (b0_0) (rfl) (fun v hv => all_u32v _ v (by simpa using hv)) ?_
  intro w1_1 b1_1 h1_1
  have L1_1 : Le w w1_1 := L0_0.then_ h1_1 (fun q hq => by cases hq; exact hg0_0)
  refine W.nil ?_
  refine E.thenN ?_
  refine WC.ret ?_
  refine E.retC rfl rfl b1_1 ag217 rfl ?_
  exact ⟨rfl, L1_1⟩

theorem first_ok (w : World) : Calls Try.prog 127 #[] w fun e w' => e = .returned (.agg (first.map u32v).toArray) ∧ Le w w' := by
  refine enter Try.func127 rfl rfl ?_
  have L0 := Le.refl w
  refine WC.seq ?_
  refine WC.region ?_
  refine W.ef rfl rfl rfl ?_
  refine Ef.allocA z196 ?_
  intro g0_0 w0_0 hg0_0 b0_0 h0_0
  have L0_0 := L0.trans h0_0
  refine W.nil ?_
  refine E.thenN ?_
  refine WC.seq ?_
  refine WC.region ?_
  refine W.any (.buildA (cells := (first.map u32v).toArray) Try.underlying196 sz194 z196 rfl (by kernel_rfl)) rfl rfl rfl ?_
  refine W.ef0 rfl rfl ?_
  refine Ef.storeAll sz196 (rfl) rfl rfl (b0_0) (rfl) (fun v hv => all_u32v _ v (by simpa using hv)) ?_
  intro w1_1 b1_1 h1_1
  have L1_1 : Le w w1_1 := L0_0.then_ h1_1 (fun q hq => by cases hq; exact hg0_0)
  refine W.nil ?_
  refine E.thenN ?_
  refine WC.ret ?_
  refine E.retC rfl rfl b1_1 ag196 rfl ?_
  exact ⟨rfl, L1_1⟩

set_option maxHeartbeats 1000000 in
theorem mix_ok {A : Option Addr} {n c : Nat} {b : List Byte} {h : List Word} (w : World) (hl : h.length = 8) (hS : Sb w A n b) (hn : n = 64) (hc : n ≤ c) : Calls Try.prog 128 #[.agg (h.map u32v).toArray, .slice A n c] w fun e w' => e = .returned (.agg ((mix h b).map u32v).toArray) ∧ Le w w' := by
  have hsl : (sched b).length = 64 := schedTo_length b 64
  unfold mix
  refine enter Try.func128 rfl rfl ?_
  have L0 := Le.refl w
  refine WC.seq ?_
  refine WC.region ?_
  refine W.ef rfl rfl rfl ?_
  refine Ef.boxA rfl ?_
  intro g0_0 w0_0 hg0_0 b0_0 h0_0
  have L0_0 := L0.trans h0_0
  refine W.ef rfl rfl rfl ?_
  refine Ef.allocA z196 ?_
  intro g0_1 w0_1 hg0_1 b0_1 h0_1
  have L0_1 := L0_0.trans h0_1
  refine W.nil ?_
  refine E.thenN ?_
  refine WC.seq ?_
  refine WC.region ?_
  refine W.any (.move rfl) rfl rfl rfl ?_
  refine W.ef rfl rfl rfl ?_
  refine Ef.call go152 rfl rfl (schedule_ok w0_1 (hS.le L0_1) hn hc) ?_
  rintro _ w1_1 ⟨rfl, h1_1⟩
  refine ⟨_, rfl, ?_⟩
  have L1_1 := L0_1.trans h1_1
  refine W.ef rfl rfl rfl ?_
  refine Ef.call go153 rfl rfl (table_ok w1_1) ?_
  rintro _ w1_2 ⟨rfl, h1_2⟩
  refine ⟨_, rfl, ?_⟩
  have L1_2 := L1_1.trans h1_2
  refine W.ef rfl rfl rfl ?_
  refine Ef.allocA z217 ?_
  intro g1_3 w1_3 hg1_3 b1_3 h1_3
  have L1_3 := L1_2.trans h1_3
  refine W.ef rfl rfl rfl ?_
  refine Ef.allocA z217 ?_
  intro g1_4 w1_4 hg1_4 b1_4 h1_4
  have L1_4 := L1_3.trans h1_4
  refine W.ef0 rfl rfl ?_
  refine Ef.storeAll sz217 (by simp [hsl]) rfl rfl (b1_3.le h1_4) (by simp [hsl]) (fun v hv => all_u32v _ v (by simpa using hv)) ?_
  intro w1_5 b1_5 h1_5
  have L1_5 : Le w w1_5 := L1_4.then_ h1_5 (fun q hq => by cases hq; exact Nat.le_trans L1_2.size hg1_3)
  refine W.ef0 rfl rfl ?_
  refine Ef.storeAll sz217 (rfl) rfl rfl (b1_4.ch h1_5 (by simp; have := b1_3.lt; omega)) (rfl) (fun v hv => all_u32v _ v (by simpa using hv)) ?_
  intro w1_6 b1_6 h1_6
  have L1_6 : Le w w1_6 := L1_5.then_ h1_6 (fun q hq => by cases hq; exact Nat.le_trans L1_3.size hg1_4)
  have B5 := b1_5.ch h1_6 (by simp; have := b1_3.lt; omega)
  refine W.nil ?_
  refine E.thenN ?_
  refine WC.seq ?_
  refine WC.region ?_
  refine W.rd (.loadAll ag196 (by simp [hl]) rfl (((((((b0_0.le h0_1).le h1_1).le h1_2).le h1_3).le h1_4).ch h1_5 (by simp; have := b0_0.lt; have := h0_1.size; have := h1_1.size; have := h1_2.size; omega)).ch h1_6 (by simp; have := b0_0.lt; have := h0_1.size; have := h1_1.size; have := h1_2.size; have := h1_3.size; omega))) rfl rfl rfl ?_
  have B2 := ((((((b0_0.le h0_1).le h1_1).le h1_2).le h1_3).le h1_4).ch h1_5 (by simp; have := b0_0.lt; have := h0_1.size; have := h1_1.size; have := h1_2.size; omega)).ch h1_6 (by simp; have := b0_0.lt; have := h0_1.size; have := h1_1.size; have := h1_2.size; have := h1_3.size; omega)
  have B4 := (((((b0_1.le h1_1).le h1_2).le h1_3).le h1_4).ch h1_5 (by simp; have := b0_1.lt; have := h1_1.size; have := h1_2.size; omega)).ch h1_6 (by simp; have := b0_1.lt; have := h1_1.size; have := h1_2.size; have := h1_3.size; omega)
  refine W.ef rfl rfl rfl ?_
  refine Ef.allocA z196 ?_
  intro g2_1 w2_1 hg2_1 b2_1 h2_1
  have L2_1 := L1_6.trans h2_1
  refine W.ef0 rfl rfl ?_
  refine Ef.storeAll sz196 (by simp [hl]) rfl rfl (b2_1) (by simp [hl]) (fun v hv => all_u32v _ v (by simpa using hv)) ?_
  intro w2_2 b2_2 h2_2
  have L2_2 : Le w w2_2 := L2_1.then_ h2_2 (fun q hq => by cases hq; exact Nat.le_trans L1_6.size hg2_1)
  have C2 := (B2.le h2_1).ch h2_2 (by simp; have := B2.lt; omega)
  have C4 := (B4.le h2_1).ch h2_2 (by simp; have := B4.lt; omega)
  have C5 := (B5.le h2_1).ch h2_2 (by simp; have := B5.lt; omega)
  have C6 := (b1_6.le h2_1).ch h2_2 (by simp; have := b1_6.lt; omega)
  have n2 : g0_0 < g2_1 := by have := B2.lt; omega
  have n4 : g0_1 < g2_1 := by have := B4.lt; omega
  have n5 : g1_3 < g2_1 := by have := B5.lt; omega
  have n6 : g1_4 < g2_1 := by have := b1_6.lt; omega
  have hgv : w.heap.size ≤ g2_1 := Nat.le_trans L1_6.size hg2_1
  clear B2 B4 B5
  refine W.nil ?_
  refine E.thenN ?_
  refine WC.seq ?_
  refine WC.seq ?_
  refine WC.region ?_
  refine W.any (.move rfl) rfl rfl rfl ?_
  refine W.nil ?_
  refine E.thenN ?_
  refine WC.block ?_
  refine WC.loop (ι := Nat) (fun i => [(2, .pointer (some ⟨g0_0, 0, none⟩)), (4, .pointer (some ⟨g0_1, 0, none⟩)), (5, .pointer (some ⟨g1_3, 0, none⟩)), (6, .pointer (some ⟨g1_4, 0, none⟩)), (7, .pointer (some ⟨g2_1, 0, none⟩)), (18, .int .i64 (i : Int))]) (fun i wl => i ≤ 64 ∧ Le w wl ∧ Blk wl g0_0 196 (h.map u32v).toArray ∧ Blk wl g0_1 196 zw8 ∧ Blk wl g1_3 217 ((sched b).map u32v).toArray ∧ Blk wl g1_4 217 (table.map u32v).toArray ∧ Blk wl g2_1 196 ((roundsTo h (sched b) i).map u32v).toArray) (fun i => 64 - i) 0 ?_ ?_ ?_
  · exact .cons rfl (.cons rfl (.cons rfl (.cons rfl (.cons rfl (.cons rfl (.nil _))))))
  · exact ⟨by omega, L2_2, C2, C4, C5, C6, b2_2⟩
  · rintro i wl ⟨hi, Ll, C2, C4, C5, C6, bv⟩
    have hvl := roundsTo_length h (sched b) hl i
    obtain ⟨v, hv⟩ : ∃ v, v = roundsTo h (sched b) i := ⟨_, rfl⟩
    rw [← hv] at bv hvl
    refine WC.seq ?_
    refine WC.region ?_
    refine W.any (.lss rfl rfl) rfl rfl rfl ?_
    refine W.nil ?_
    refine E.thenN ?_
    refine WC.seq ?_
    refine WC.cond rfl (fun c0 => ?_) (fun c0 => ?_)
    · refine WC.skip ?_
      refine E.thenN ?_
      refine WC.seq ?_
      refine WC.block ?_
      refine WC.seq ?_
      refine WC.region ?_
      refine W.any (.move rfl) rfl rfl rfl ?_
      refine W.any (.assign rfl) rfl rfl rfl ?_
      refine W.nil ?_
      refine E.thenN ?_
      refine WC.seq ?_
      refine WC.draw [0, 1, 3, 4, 7, 8, 2, 5, 6, 9, 10, 11] mixed (by kernel_rfl) ?_
      intro w6 d6
      have L6 := Ll.trans d6
      have v6 := bv.le d6
      refine G.any rfl rfl (.idxA1 4 Try.underlying196 sz194 rfl rfl rfl (by decide)) rfl rfl rfl ?_
      refine G.rd rfl rfl (.loadB na194 rfl (v6) (getwA _ (by omega))) rfl rfl rfl ?_
      refine G.any rfl rfl (.idxA1 4 Try.underlying196 sz194 rfl rfl rfl (by decide)) rfl rfl rfl ?_
      refine G.rd rfl rfl (.loadB na194 rfl (v6) (getwA _ (by omega))) rfl rfl rfl ?_
      refine G.any rfl rfl (.idxA1 4 Try.underlying196 sz194 rfl rfl rfl (by decide)) rfl rfl rfl ?_
      refine G.rd rfl rfl (.loadB na194 rfl (v6) (getwA _ (by omega))) rfl rfl rfl ?_
      refine G.ef rfl rfl rfl rfl rfl ?_
      refine Ef.call go154 rfl rfl (rot_ok _ 6 w6 (by omega)) ?_
      rintro _ w6_2 ⟨rfl, h6_2⟩
      refine ⟨_, rfl, ?_⟩
      have L6_2 := L6.trans h6_2
      refine ⟨fun _ => h6_2, ?_⟩
      refine G.ef rfl rfl rfl rfl rfl ?_
      refine Ef.call go154 rfl rfl (rot_ok _ 11 w6_2 (by omega)) ?_
      rintro _ w6_5 ⟨rfl, h6_5⟩
      refine ⟨_, rfl, ?_⟩
      have L6_5 := L6_2.trans h6_5
      refine ⟨fun _ => h6_5, ?_⟩
      refine G.any rfl rfl (.xor32 rfl rfl) rfl rfl rfl ?_
      refine G.ef rfl rfl rfl rfl rfl ?_
      refine Ef.call go154 rfl rfl (rot_ok _ 25 w6_5 (by omega)) ?_
      rintro _ w6_9 ⟨rfl, h6_9⟩
      refine ⟨_, rfl, ?_⟩
      have L6_9 := L6_5.trans h6_9
      refine ⟨fun _ => h6_9, ?_⟩
      refine G.any rfl rfl (.xor32 rfl rfl) rfl rfl rfl ?_
      refine G.any rfl rfl (.assign rfl) rfl rfl rfl ?_
      refine G.nil ?_
      refine E.thenN ?_
      refine WC.seq ?_
      refine WC.draw [0, 1, 2, 3, 4, 5, 6, 7, 8, 9, 10, 11, 12, 13, 14, 15, 16, 17, 18, 19, 20, 21, 22, 23, 24] mixed (by kernel_rfl) ?_
      intro w7 d7
      have L7 := L6_9.trans d7
      have LL := d6.trans (h6_2.trans (h6_5.trans (h6_9.trans d7)))
      have v7 := bv.le LL
      refine G.any rfl rfl (.idxA1 7 Try.underlying196 sz194 rfl rfl rfl (by decide)) rfl rfl rfl ?_
      refine G.rd rfl rfl (.loadB na194 rfl (v7) (getwA _ (by omega))) rfl rfl rfl ?_
      refine G.any rfl rfl (.move rfl) rfl rfl rfl ?_
      refine G.any rfl rfl (.add32 rfl rfl) rfl rfl rfl ?_
      refine G.any rfl rfl (.idxA1 6 Try.underlying196 sz194 rfl rfl rfl (by decide)) rfl rfl rfl ?_
      refine G.rd rfl rfl (.loadB na194 rfl (v7) (getwA _ (by omega))) rfl rfl rfl ?_
      refine G.any rfl rfl (.idxA1 4 Try.underlying196 sz194 rfl rfl rfl (by decide)) rfl rfl rfl ?_
      refine G.rd rfl rfl (.loadB na194 rfl (v7) (getwA _ (by omega))) rfl rfl rfl ?_
      refine G.any rfl rfl (.idxA1 5 Try.underlying196 sz194 rfl rfl rfl (by decide)) rfl rfl rfl ?_
      refine G.rd rfl rfl (.loadB na194 rfl (v7) (getwA _ (by omega))) rfl rfl rfl ?_
      refine G.any rfl rfl (.idxA1 6 Try.underlying196 sz194 rfl rfl rfl (by decide)) rfl rfl rfl ?_
      refine G.rd rfl rfl (.loadB na194 rfl (v7) (getwA _ (by omega))) rfl rfl rfl ?_
      refine G.any rfl rfl (.xor32 rfl rfl) rfl rfl rfl ?_
      refine G.any rfl rfl (.and32 rfl rfl) rfl rfl rfl ?_
      refine G.any rfl rfl (.xor32 rfl rfl) rfl rfl rfl ?_
      refine G.any rfl rfl (.add32 rfl rfl) rfl rfl rfl ?_
      refine G.any rfl rfl (.move rfl) rfl rfl rfl ?_
      refine G.any rfl rfl (.idxA1 (i) Try.underlying217 sz194 rfl rfl (rfl) (by omega)) rfl rfl rfl ?_
      refine G.rd rfl rfl (.loadB na194 rfl (C6.le LL) (getwA _ (by show i < 64; omega))) rfl rfl rfl ?_
      refine G.any rfl rfl (.add32 rfl rfl) rfl rfl rfl ?_
      refine G.any rfl rfl (.move rfl) rfl rfl rfl ?_
      refine G.any rfl rfl (.idxA1 (i) Try.underlying217 sz194 rfl rfl (rfl) (by omega)) rfl rfl rfl ?_
      refine G.rd rfl rfl (.loadB na194 rfl (C5.le LL) (getwA _ (by rw [hsl]; omega))) rfl rfl rfl ?_
      refine G.any rfl rfl (.add32 rfl rfl) rfl rfl rfl ?_
      refine G.any rfl rfl (.assign rfl) rfl rfl rfl ?_
      refine G.nil ?_
      refine E.thenN ?_
      refine WC.seq ?_
      refine WC.draw [0, 1, 3, 4, 7, 8, 2, 5, 6, 9, 10, 11] mixed (by kernel_rfl) ?_
      intro w8 d8
      have L8 := L7.trans d8
      have LL := LL.trans d8
      have v8 := bv.le LL
      refine G.any rfl rfl (.idxA1 0 Try.underlying196 sz194 rfl rfl rfl (by decide)) rfl rfl rfl ?_
      refine G.rd rfl rfl (.loadB na194 rfl (v8) (getwA _ (by omega))) rfl rfl rfl ?_
      refine G.any rfl rfl (.idxA1 0 Try.underlying196 sz194 rfl rfl rfl (by decide)) rfl rfl rfl ?_
      refine G.rd rfl rfl (.loadB na194 rfl (v8) (getwA _ (by omega))) rfl rfl rfl ?_
      refine G.any rfl rfl (.idxA1 0 Try.underlying196 sz194 rfl rfl rfl (by decide)) rfl rfl rfl ?_
      refine G.rd rfl rfl (.loadB na194 rfl (v8) (getwA _ (by omega))) rfl rfl rfl ?_
      refine G.ef rfl rfl rfl rfl rfl ?_
      refine Ef.call go154 rfl rfl (rot_ok _ 2 w8 (by omega)) ?_
      rintro _ w8_2 ⟨rfl, h8_2⟩
      refine ⟨_, rfl, ?_⟩
      have L8_2 := L8.trans h8_2
      refine ⟨fun _ => h8_2, ?_⟩
      refine G.ef rfl rfl rfl rfl rfl ?_
      refine Ef.call go154 rfl rfl (rot_ok _ 13 w8_2 (by omega)) ?_
      rintro _ w8_5 ⟨rfl, h8_5⟩
      refine ⟨_, rfl, ?_⟩
      have L8_5 := L8_2.trans h8_5
      refine ⟨fun _ => h8_5, ?_⟩
      refine G.any rfl rfl (.xor32 rfl rfl) rfl rfl rfl ?_
      refine G.ef rfl rfl rfl rfl rfl ?_
      refine Ef.call go154 rfl rfl (rot_ok _ 22 w8_5 (by omega)) ?_
      rintro _ w8_9 ⟨rfl, h8_9⟩
      refine ⟨_, rfl, ?_⟩
      have L8_9 := L8_5.trans h8_9
      refine ⟨fun _ => h8_9, ?_⟩
      refine G.any rfl rfl (.xor32 rfl rfl) rfl rfl rfl ?_
      refine G.any rfl rfl (.assign rfl) rfl rfl rfl ?_
      refine G.nil ?_
      refine E.thenN ?_
      refine WC.seq ?_
      refine WC.region ?_
      have LL := LL.trans (h8_2.trans (h8_5.trans h8_9))
      have v9 := bv.le LL
      refine W.any (.idxA1 0 Try.underlying196 sz194 rfl rfl rfl (by decide)) rfl rfl rfl ?_
      refine W.rd (.loadB na194 rfl (v9) (getwA _ (by omega))) rfl rfl rfl ?_
      refine W.any (.idxA1 1 Try.underlying196 sz194 rfl rfl rfl (by decide)) rfl rfl rfl ?_
      refine W.rd (.loadB na194 rfl (v9) (getwA _ (by omega))) rfl rfl rfl ?_
      refine W.any (.and32 rfl rfl) rfl rfl rfl ?_
      refine W.any (.idxA1 2 Try.underlying196 sz194 rfl rfl rfl (by decide)) rfl rfl rfl ?_
      refine W.rd (.loadB na194 rfl (v9) (getwA _ (by omega))) rfl rfl rfl ?_
      refine W.any (.idxA1 0 Try.underlying196 sz194 rfl rfl rfl (by decide)) rfl rfl rfl ?_
      refine W.rd (.loadB na194 rfl (v9) (getwA _ (by omega))) rfl rfl rfl ?_
      refine W.any (.idxA1 1 Try.underlying196 sz194 rfl rfl rfl (by decide)) rfl rfl rfl ?_
      refine W.rd (.loadB na194 rfl (v9) (getwA _ (by omega))) rfl rfl rfl ?_
      refine W.any (.or32 rfl rfl) rfl rfl rfl ?_
      refine W.any (.and32 rfl rfl) rfl rfl rfl ?_
      refine W.any (.or32 rfl rfl) rfl rfl rfl ?_
      refine W.any (.assign rfl) rfl rfl rfl ?_
      refine W.nil ?_
      refine E.thenN ?_
      refine WC.region ?_
      refine W.any (.move rfl) rfl rfl rfl ?_
      refine W.any (.move rfl) rfl rfl rfl ?_
      refine W.any (.add32 rfl rfl) rfl rfl rfl ?_
      refine W.any (.move rfl) rfl rfl rfl ?_
      refine W.any (.add32 rfl rfl) rfl rfl rfl ?_
      refine W.any (.idxA1 0 Try.underlying196 sz194 rfl rfl rfl (by decide)) rfl rfl rfl ?_
      refine W.rd (.loadB na194 rfl (v9) (getwA _ (by omega))) rfl rfl rfl ?_
      refine W.any (.idxA1 1 Try.underlying196 sz194 rfl rfl rfl (by decide)) rfl rfl rfl ?_
      refine W.rd (.loadB na194 rfl (v9) (getwA _ (by omega))) rfl rfl rfl ?_
      refine W.any (.idxA1 2 Try.underlying196 sz194 rfl rfl rfl (by decide)) rfl rfl rfl ?_
      refine W.rd (.loadB na194 rfl (v9) (getwA _ (by omega))) rfl rfl rfl ?_
      refine W.any (.idxA1 3 Try.underlying196 sz194 rfl rfl rfl (by decide)) rfl rfl rfl ?_
      refine W.rd (.loadB na194 rfl (v9) (getwA _ (by omega))) rfl rfl rfl ?_
      refine W.any (.move rfl) rfl rfl rfl ?_
      refine W.any (.add32 rfl rfl) rfl rfl rfl ?_
      refine W.any (.idxA1 4 Try.underlying196 sz194 rfl rfl rfl (by decide)) rfl rfl rfl ?_
      refine W.rd (.loadB na194 rfl (v9) (getwA _ (by omega))) rfl rfl rfl ?_
      refine W.any (.idxA1 5 Try.underlying196 sz194 rfl rfl rfl (by decide)) rfl rfl rfl ?_
      refine W.rd (.loadB na194 rfl (v9) (getwA _ (by omega))) rfl rfl rfl ?_
      refine W.any (.idxA1 6 Try.underlying196 sz194 rfl rfl rfl (by decide)) rfl rfl rfl ?_
      refine W.rd (.loadB na194 rfl (v9) (getwA _ (by omega))) rfl rfl rfl ?_
      refine W.any (.buildArr [_, _, _, _, _, _, _, _] Try.underlying196 sz194 z196 rfl (one8 _ _ _ _ _ _ _ _) rfl rfl) rfl rfl rfl ?_
      have e2 := C2.le LL
      have e4 := C4.le LL
      have e5 := C5.le LL
      have e6 := C6.le LL
      refine W.ef0 rfl rfl ?_
      refine Ef.storeAll sz196 (rfl) rfl rfl (v9) (by simp [hvl]) (fun v hv => one8 _ _ _ _ _ _ _ _ v (by simpa using hv)) ?_
      intro w10_22 b10_22 h10_22
      have L10_22 : Le w w10_22 := L8_9.then_ h10_22 (fun q hq => by cases hq; exact hgv)
      refine W.nil ?_
      refine E.blkN ?_
      refine E.thenN ?_
      refine WC.region ?_
      refine W.any (.add rfl rfl (by omega)) rfl rfl rfl ?_
      refine W.any (.move rfl) rfl rfl rfl ?_
      refine W.nil ?_
      refine E.again (i + 1) (.cons rfl (.cons rfl (.cons rfl (.cons rfl (.cons rfl (.cons rfl (.nil _))))))) ?_ ?_
      · exact ⟨by omega, L10_22, e2.ch h10_22 (by simp; omega), e4.ch h10_22 (by simp; omega), e5.ch h10_22 (by simp; omega), e6.ch h10_22 (by simp; omega), b10_22.cast (by rw [roundsTo, ← hv]; rfl)⟩
      · first | omega | (simp only []; omega)
    · rw [hv] at bv hvl
      have hi64 : i = 64 := by omega
      subst hi64
      refine WC.exit ?_
      refine E.thenX ?_
      refine E.thenX ?_
      refine E.blkH ?_
      refine E.thenN ?_
      refine WC.seq ?_
      refine WC.seq ?_
      refine WC.region ?_
      refine W.any (.move rfl) rfl rfl rfl ?_
      refine W.nil ?_
      refine E.thenN ?_
      refine WC.block ?_
      refine WC.loop (ι := Nat) (fun j => [(2, .pointer (some ⟨g0_0, 0, none⟩)), (4, .pointer (some ⟨g0_1, 0, none⟩)), (7, .pointer (some ⟨g2_1, 0, none⟩)), (104, .int .i64 (j : Int))]) (fun j wm => j ≤ 8 ∧ Le w wm ∧ Blk wm g0_0 196 (h.map u32v).toArray ∧ Blk wm g0_1 196 zw8 ∧ Blk wm g2_1 196 ((addTo (roundsTo h (sched b) 64) h j).map u32v).toArray) (fun j => 8 - j) 0 ?_ ?_ ?_
      · exact .cons rfl (.cons rfl (.cons rfl (.cons rfl (.nil _))))
      · exact ⟨by omega, Ll, C2, C4, bv.cast (by rw [addTo_zero _ _ hvl])⟩
      · rintro j wm ⟨hj, Lm, C2, C4, bv⟩
        have hal := addTo_length (roundsTo h (sched b) 64) h j
        refine WC.seq ?_
        refine WC.region ?_
        refine W.any (.lss rfl rfl) rfl rfl rfl ?_
        refine W.nil ?_
        refine E.thenN ?_
        refine WC.seq ?_
        refine WC.cond rfl (fun c1 => ?_) (fun c1 => ?_)
        · refine WC.skip ?_
          refine E.thenN ?_
          refine WC.seq ?_
          refine WC.block ?_
          refine WC.seq ?_
          refine WC.region ?_
          refine W.any (.move rfl) rfl rfl rfl ?_
          refine W.any (.assign rfl) rfl rfl rfl ?_
          refine W.nil ?_
          refine E.thenN ?_
          refine WC.draw [0, 1, 2, 3, 4, 5, 6, 7, 8] mixed (by kernel_rfl) ?_
          intro w15 d15
          have L15 := Lm.trans d15
          refine G.any rfl rfl (.move rfl) rfl rfl rfl ?_
          refine G.any rfl rfl (.idxA1 (j) Try.underlying196 sz194 rfl rfl (rfl) (by omega)) rfl rfl rfl ?_
          refine G.rd rfl rfl (.loadB na194 rfl (bv.le d15) ((getwA _ (by omega)).trans (by rw [addTo_at _ _ _ _ (by omega), if_neg (by omega)]))) rfl rfl rfl ?_
          refine G.any rfl rfl (.move rfl) rfl rfl rfl ?_
          refine G.any rfl rfl (.idxA1 (j) Try.underlying196 sz194 rfl rfl (rfl) (by omega)) rfl rfl rfl ?_
          refine G.rd rfl rfl (.loadB na194 rfl (C2.le d15) (getwA _ (by omega))) rfl rfl rfl ?_
          refine G.any rfl rfl (.add32 rfl rfl) rfl rfl rfl ?_
          refine G.any rfl rfl (.idxA1 (j) Try.underlying196 sz194 rfl rfl (rfl) (by omega)) rfl rfl rfl ?_
          refine G.ef0 rfl rfl rfl rfl ?_
          refine Ef.store sz194 rfl rfl (bv.le d15) (by simp; omega) (rfl) ?_
          intro w15_8 b15_8 h15_8
          have L15_8 : Le w w15_8 := L15.then_ h15_8 (fun q hq => by cases hq; exact hgv)
          refine ⟨fun h => absurd h (ne_true_of_eq_false (by kernel_rfl)), ?_⟩
          refine G.nil ?_
          refine E.blkN ?_
          refine E.thenN ?_
          refine WC.region ?_
          refine W.any (.add rfl rfl (by omega)) rfl rfl rfl ?_
          refine W.any (.move rfl) rfl rfl rfl ?_
          refine W.nil ?_
          refine E.again (j + 1) (.cons rfl (.cons rfl (.cons rfl (.cons rfl (.nil _))))) ?_ ?_
          · exact ⟨by omega, L15_8, (C2.le d15).ch h15_8 (by simp; omega), (C4.le d15).ch h15_8 (by simp; omega), b15_8.cast (by rw [← addTo_succ _ _ j (by omega)]; apply Array.ext'; simp)⟩
          · first | omega | (simp only []; omega)
        · have hj8 : j = 8 := by omega
          subst hj8
          refine WC.exit ?_
          refine E.thenX ?_
          refine E.thenX ?_
          refine E.blkH ?_
          refine E.thenN ?_
          refine WC.seq ?_
          refine WC.region ?_
          refine W.rd (.loadAll ag196 (by simp [hal]) rfl (bv)) rfl rfl rfl ?_
          refine W.ef0 rfl rfl ?_
          refine Ef.storeAll sz196 (by simp [hal]) rfl rfl (C4) (by simp [hal]) (fun v hv => all_u32v _ v (by simpa using hv)) ?_
          intro w17_1 b17_1 h17_1
          have L17_1 : Le w w17_1 := Lm.then_ h17_1 (fun q hq => by cases hq; exact Nat.le_trans L0_0.size hg0_1)
          refine W.nil ?_
          refine E.thenN ?_
          refine WC.ret ?_
          refine E.retC rfl rfl b17_1 ag196 (by simp [hal]) ?_
          exact ⟨rfl, L17_1⟩
end Go.Proofs.Ytfgakofjkldcjaa
