/- The fault packets: each function of the program's package fault, walked. -/
import Derived.Test.YtpmjdiccekkadaaSeal
import Derived.Test.YtpmjdiccekkadaaFsp
namespace Go.Proofs.Ytpmjdiccekkadaa
open Go Go.Sx Go.Hsp
set_option maxRecDepth 20000
theorem by_ok (key : List Byte) (hk : key.length = 32) (w : World) : Calls Try.prog 46 #[.agg (key.map u8v).toArray] w fun e w' => e = .returned (.agg ((byB key).map u8v).toArray) ∧ Le w w' := by
  refine enter Try.func46 rfl rfl ?_
  have L0 := Le.refl w
  refine WC.seq ?_
  refine WC.region ?_
  refine W.ef rfl rfl rfl ?_
  refine Ef.boxA rfl ?_
  intro g0_0 w0_0 hg0_0 b0_0 h0_0
  have L0_0 := L0.trans h0_0
  refine W.ef rfl rfl rfl ?_
  refine Ef.allocA z23 ?_
  intro g0_1 w0_1 hg0_1 b0_1 h0_1
  have L0_1 := L0_0.trans h0_1
  refine W.nil ?_
  refine E.thenN ?_
  refine WC.seq ?_
  refine WC.region ?_
  refine W.any (.cutArr Try.underlying23 sz5 rfl) rfl rfl rfl ?_
  refine W.ef rfl rfl rfl ?_
  refine Ef.buildSlice1 Try.underlying135 el24 rfl rfl ?_
  intro g1_1 w1_1 hg1_1 b1_1 h1_1
  have L1_1 := L0_1.trans h1_1
  refine W.ef rfl rfl rfl ?_
  refine Ef.call go62 rfl rfl (tag_ok _ nFault w1_1 (ps := [key]) rfl (b1_1.sl (s := 1) (n := 1) rfl) (.cons (((b0_0.le h0_1).le h1_1).sb hk) (.nil _)) (by rw [tagLen1, hk]; decide)) ?_
  rintro _ w1_2 ⟨rfl, h1_2⟩
  refine ⟨_, rfl, ?_⟩
  have L1_2 := L1_1.trans h1_2
  refine W.ef0 rfl rfl ?_
  refine Ef.storeAll sz23 (by simp [tag_length]) rfl rfl ((b0_1.le h1_1).le h1_2) (by simp [tag_length]) (all_u8v _) ?_
  intro w1_3 b1_3 h1_3
  have L1_3 : Le w w1_3 := L1_2.then_ h1_3 (fun q hq => by cases hq; exact Nat.le_trans L0_0.size hg0_1)
  refine W.nil ?_
  refine E.thenN ?_
  refine WC.ret ?_
  refine E.retC rfl rfl b1_3 ag23 (by simp [tag_length]) ?_
  exact ⟨rfl, L1_3⟩

theorem step_a {A : Option Addr} {n c : Nat} (w : World) (hn : n ≤ 9223372036854775807) (hh : n < 64) : Calls Try.prog 48 #[.slice A n c] w fun e w' => e = .returned (.int .i64 (-1)) ∧ Le w w' := by
  refine enter Try.func48 rfl rfl ?_
  have L0 := Le.refl w
  refine WC.seq ?_
  refine WC.region ?_
  refine W.any (.assign rfl) rfl rfl rfl ?_
  refine W.nil ?_
  refine E.thenN ?_
  refine WC.seq ?_
  refine WC.region ?_
  refine W.any (.move rfl) rfl rfl rfl ?_
  refine W.rd (.len Try.underlying24 rfl) rfl rfl rfl ?_
  refine W.any (.sub rfl rfl (by omega)) rfl rfl rfl ?_
  refine W.any (.sub rfl rfl (by omega)) rfl rfl rfl ?_
  refine W.any (.assign rfl) rfl rfl rfl ?_
  refine W.nil ?_
  refine E.thenN ?_
  refine WC.seq ?_
  refine WC.seq ?_
  refine WC.region ?_
  refine W.any (.move rfl) rfl rfl rfl ?_
  refine W.any (.lss rfl rfl) rfl rfl rfl ?_
  refine W.any (.move rfl) rfl rfl rfl ?_
  refine W.skip rfl rfl rfl (decide_eq_true (by omega)) rfl rfl ?_
  refine W.skip rfl rfl rfl (decide_eq_true (by omega)) rfl rfl ?_
  refine W.skip rfl rfl rfl (decide_eq_true (by omega)) rfl rfl ?_
  refine W.any (.pickT rfl (decide_eq_true (by omega)) rfl) rfl rfl rfl ?_
  refine W.any (.move rfl) rfl rfl rfl ?_
  refine W.skip rfl rfl rfl (rfl) rfl rfl ?_
  refine W.skip rfl rfl rfl (rfl) rfl rfl ?_
  refine W.skip rfl rfl rfl (rfl) rfl rfl ?_
  refine W.any (.pickT rfl rfl rfl) rfl rfl rfl ?_
  refine W.nil ?_
  refine E.thenN ?_
  refine WC.condB rfl (fun _ => ?_) (fun h => absurd h (by simp))
  refine WC.seq ?_
  refine WC.region ?_
  refine W.any (.assign rfl) rfl rfl rfl ?_
  refine W.nil ?_
  refine E.thenN ?_
  refine WC.ret ?_
  refine E.thenR ?_
  refine E.ret1 rfl rfl ?_
  exact ⟨rfl, L0⟩

theorem step_b {A : Option Addr} {n c : Nat} (w : World) (hn : n ≤ 9223372036854775807) (hh : 64 ≤ n ∧ (n - 64) % 8 ≠ 0) : Calls Try.prog 48 #[.slice A n c] w fun e w' => e = .returned (.int .i64 (-1)) ∧ Le w w' := by
  refine enter Try.func48 rfl rfl ?_
  have L0 := Le.refl w
  refine WC.seq ?_
  refine WC.region ?_
  refine W.any (.assign rfl) rfl rfl rfl ?_
  refine W.nil ?_
  refine E.thenN ?_
  refine WC.seq ?_
  refine WC.region ?_
  refine W.any (.move rfl) rfl rfl rfl ?_
  refine W.rd (.len Try.underlying24 rfl) rfl rfl rfl ?_
  refine W.any (.sub rfl rfl (by omega)) rfl rfl rfl ?_
  refine W.any (.sub rfl rfl (by omega)) rfl rfl rfl ?_
  refine W.any (.assign rfl) rfl rfl rfl ?_
  refine W.nil ?_
  refine E.thenN ?_
  refine WC.seq ?_
  refine WC.seq ?_
  refine WC.region ?_
  refine W.any (.move rfl) rfl rfl rfl ?_
  refine W.any (.lss rfl rfl) rfl rfl rfl ?_
  refine W.any (.move rfl) rfl rfl rfl ?_
  refine W.rdg (Any.rd (.move rfl) _) rfl rfl rfl (decide_eq_false (by omega)) rfl rfl ?_
  refine W.rdg (Any.rd (.rem rfl rfl (by omega)) _) rfl rfl rfl (decide_eq_false (by omega)) rfl rfl ?_
  refine W.rdg (Any.rd (.neq rfl rfl) _) rfl rfl rfl (decide_eq_false (by omega)) rfl rfl ?_
  refine W.any (.pickF rfl (decide_eq_false (by omega)) rfl) rfl rfl rfl ?_
  refine W.any (.move rfl) rfl rfl rfl ?_
  refine W.skip rfl rfl rfl (decide_eq_true (by omega)) rfl rfl ?_
  refine W.skip rfl rfl rfl (decide_eq_true (by omega)) rfl rfl ?_
  refine W.skip rfl rfl rfl (decide_eq_true (by omega)) rfl rfl ?_
  refine W.any (.pickT rfl (decide_eq_true (by omega)) rfl) rfl rfl rfl ?_
  refine W.nil ?_
  refine E.thenN ?_
  refine WC.condB rfl (fun _ => ?_) (fun h => absurd h (by simp))
  refine WC.seq ?_
  refine WC.region ?_
  refine W.any (.assign rfl) rfl rfl rfl ?_
  refine W.nil ?_
  refine E.thenN ?_
  refine WC.ret ?_
  refine E.thenR ?_
  refine E.ret1 rfl rfl ?_
  exact ⟨rfl, L0⟩

theorem step_c {A : Option Addr} {n c : Nat} (w : World) (hn : n ≤ 9223372036854775807) (hh : 64 ≤ n ∧ (n - 64) % 8 = 0 ∧ 8 ≤ (n - 64) / 8) : Calls Try.prog 48 #[.slice A n c] w fun e w' => e = .returned (.int .i64 (-1)) ∧ Le w w' := by
  refine enter Try.func48 rfl rfl ?_
  have L0 := Le.refl w
  refine WC.seq ?_
  refine WC.region ?_
  refine W.any (.assign rfl) rfl rfl rfl ?_
  refine W.nil ?_
  refine E.thenN ?_
  refine WC.seq ?_
  refine WC.region ?_
  refine W.any (.move rfl) rfl rfl rfl ?_
  refine W.rd (.len Try.underlying24 rfl) rfl rfl rfl ?_
  refine W.any (.sub rfl rfl (by omega)) rfl rfl rfl ?_
  refine W.any (.sub rfl rfl (by omega)) rfl rfl rfl ?_
  refine W.any (.assign rfl) rfl rfl rfl ?_
  refine W.nil ?_
  refine E.thenN ?_
  refine WC.seq ?_
  refine WC.seq ?_
  refine WC.region ?_
  refine W.any (.move rfl) rfl rfl rfl ?_
  refine W.any (.lss rfl rfl) rfl rfl rfl ?_
  refine W.any (.move rfl) rfl rfl rfl ?_
  refine W.rdg (Any.rd (.move rfl) _) rfl rfl rfl (decide_eq_false (by omega)) rfl rfl ?_
  refine W.rdg (Any.rd (.rem rfl rfl (by omega)) _) rfl rfl rfl (decide_eq_false (by omega)) rfl rfl ?_
  refine W.rdg (Any.rd (.neq rfl rfl) _) rfl rfl rfl (decide_eq_false (by omega)) rfl rfl ?_
  refine W.any (.pickF rfl (decide_eq_false (by omega)) rfl) rfl rfl rfl ?_
  refine W.any (.move rfl) rfl rfl rfl ?_
  refine W.rdg (Any.rd (.move rfl) _) rfl rfl rfl (decide_eq_false (by omega)) rfl rfl ?_
  refine W.rdg (Any.rd (.quo rfl rfl (by omega)) _) rfl rfl rfl (decide_eq_false (by omega)) rfl rfl ?_
  refine W.rdg (Any.rd (.geq rfl rfl) _) rfl rfl rfl (decide_eq_false (by omega)) rfl rfl ?_
  refine W.any (.pickF rfl (decide_eq_false (by omega)) rfl) rfl rfl rfl ?_
  refine W.nil ?_
  refine E.thenN ?_
  refine WC.condB rfl (fun _ => ?_) (fun h => absurd h (by simp; omega))
  refine WC.seq ?_
  refine WC.region ?_
  refine W.any (.assign rfl) rfl rfl rfl ?_
  refine W.nil ?_
  refine E.thenN ?_
  refine WC.ret ?_
  refine E.thenR ?_
  refine E.ret1 rfl rfl ?_
  exact ⟨rfl, L0⟩

theorem step_d {A : Option Addr} {n c : Nat} (w : World) (hn : n ≤ 9223372036854775807) (hh : 64 ≤ n ∧ (n - 64) % 8 = 0 ∧ (n - 64) / 8 < 8) : Calls Try.prog 48 #[.slice A n c] w fun e w' => e = .returned (.int .i64 ((((n - 64) / 8 : Nat) : Int))) ∧ Le w w' := by
  refine enter Try.func48 rfl rfl ?_
  have L0 := Le.refl w
  refine WC.seq ?_
  refine WC.region ?_
  refine W.any (.assign rfl) rfl rfl rfl ?_
  refine W.nil ?_
  refine E.thenN ?_
  refine WC.seq ?_
  refine WC.region ?_
  refine W.any (.move rfl) rfl rfl rfl ?_
  refine W.rd (.len Try.underlying24 rfl) rfl rfl rfl ?_
  refine W.any (.sub rfl rfl (by omega)) rfl rfl rfl ?_
  refine W.any (.sub rfl rfl (by omega)) rfl rfl rfl ?_
  refine W.any (.assign rfl) rfl rfl rfl ?_
  refine W.nil ?_
  refine E.thenN ?_
  refine WC.seq ?_
  refine WC.seq ?_
  refine WC.region ?_
  refine W.any (.move rfl) rfl rfl rfl ?_
  refine W.any (.lss rfl rfl) rfl rfl rfl ?_
  refine W.any (.move rfl) rfl rfl rfl ?_
  refine W.rdg (Any.rd (.move rfl) _) rfl rfl rfl (decide_eq_false (by omega)) rfl rfl ?_
  refine W.rdg (Any.rd (.rem rfl rfl (by omega)) _) rfl rfl rfl (decide_eq_false (by omega)) rfl rfl ?_
  refine W.rdg (Any.rd (.neq rfl rfl) _) rfl rfl rfl (decide_eq_false (by omega)) rfl rfl ?_
  refine W.any (.pickF rfl (decide_eq_false (by omega)) rfl) rfl rfl rfl ?_
  refine W.any (.move rfl) rfl rfl rfl ?_
  refine W.rdg (Any.rd (.move rfl) _) rfl rfl rfl (decide_eq_false (by omega)) rfl rfl ?_
  refine W.rdg (Any.rd (.quo rfl rfl (by omega)) _) rfl rfl rfl (decide_eq_false (by omega)) rfl rfl ?_
  refine W.rdg (Any.rd (.geq rfl rfl) _) rfl rfl rfl (decide_eq_false (by omega)) rfl rfl ?_
  refine W.any (.pickF rfl (decide_eq_false (by omega)) rfl) rfl rfl rfl ?_
  refine W.nil ?_
  refine E.thenN ?_
  refine WC.condB rfl (fun h => absurd h (by simp; omega)) (fun _ => ?_)
  refine WC.skip ?_
  refine E.thenN ?_
  refine WC.seq ?_
  refine WC.region ?_
  refine W.any (.move rfl) rfl rfl rfl ?_
  refine W.any (.quo rfl rfl (by omega)) rfl rfl rfl ?_
  refine W.any (.assign rfl) rfl rfl rfl ?_
  refine W.nil ?_
  refine E.thenN ?_
  refine WC.ret ?_
  refine E.ret1 rfl rfl ?_
  exact ⟨by rw [int_eq]; omega, L0⟩

theorem step_ok {A : Option Addr} {n c : Nat} (w : World) (hn : n ≤ 9223372036854775807) : Calls Try.prog 48 #[.slice A n c] w fun e w' => e = .returned (.int .i64 (stepB n)) ∧ Le w w' := by
  by_cases h1 : n < 64
  · rw [stepB, if_pos (by omega)]; exact step_a w hn h1
  by_cases h2 : (n - 64) % 8 = 0
  · by_cases h3 : 8 ≤ (n - 64) / 8
    · rw [stepB, if_pos (by omega)]; exact step_c w hn (by omega)
    · rw [stepB, if_neg (by omega)]; exact step_d w hn (by omega)
  · rw [stepB, if_pos (by omega)]; exact step_b w hn (by omega)

theorem row_cells (r : List Byte) (_h : r.length ≤ 55) : ((((List.replicate 56 (Value.int .u8 0)).toArray.setIfInBounds 0 (u8v (BitVec.ofNat 8 r.length))).toList.take (1 * 1)) ++ r.map u8v ++ (((List.replicate 56 (Value.int .u8 0)).toArray.setIfInBounds 0 (u8v (BitVec.ofNat 8 r.length))).toList.drop (1 * 1 + (r.map u8v).length))).toArray = ((rowB r).map u8v).toArray := by
  congr 1
  rw [Array.toList_setIfInBounds, show (List.replicate 56 (Value.int .u8 0)).toArray.toList = Value.int .u8 0 :: List.replicate 55 (Value.int .u8 0) from rfl, List.set_cons_zero, Nat.mul_one, Nat.add_comm 1, List.drop_succ_cons]
  rw [List.drop_replicate, List.length_map]
  show _ = List.map u8v (BitVec.ofNat 8 r.length :: (r ++ List.replicate (55 - r.length) 0))
  rw [List.map_cons, List.map_append, List.map_replicate]
  rfl

theorem make_long (key r : List Byte) {A : Option Addr} {n c : Nat} (w : World) (hS : Sb w A n r) (hn : 56 ≤ n) : Calls Try.prog 16 #[.agg (key.map u8v).toArray, .slice A n c] w fun e w' => ∃ A' k c', e = .returned (.tuple #[.slice A' k c', .int .i64 (makeB key r).2]) ∧ Sb w' A' k (makeB key r).1 ∧ k ≤ c' ∧ Le w w' := by
  have hl := hS.len
  rw [makeB, if_neg (by omega)]
  refine enter Try.func16 rfl rfl ?_
  have L0 := Le.refl w
  refine WC.seq ?_
  refine WC.region ?_
  refine W.ef rfl rfl rfl ?_
  refine Ef.boxA rfl ?_
  intro g0_0 w0_0 hg0_0 b0_0 h0_0
  have L0_0 := L0.trans h0_0
  refine W.any (.assign rfl) rfl rfl rfl ?_
  refine W.any (.assign rfl) rfl rfl rfl ?_
  refine W.nil ?_
  refine E.thenN ?_
  refine WC.seq ?_
  refine WC.region ?_
  refine W.ef rfl rfl rfl ?_
  refine Ef.allocA z79 ?_
  intro g1_0 w1_0 hg1_0 b1_0 h1_0
  have L1_0 := L0_0.trans h1_0
  refine W.nil ?_
  refine E.thenN ?_
  refine WC.seq ?_
  refine WC.seq ?_
  refine WC.region ?_
  refine W.any (.move rfl) rfl rfl rfl ?_
  refine W.rd (.len Try.underlying24 rfl) rfl rfl rfl ?_
  refine W.any (.geq rfl rfl) rfl rfl rfl ?_
  refine W.nil ?_
  refine E.thenN ?_
  refine WC.condB rfl (fun _ => ?_) (fun h => absurd h (by simp; omega))
  refine WC.seq ?_
  refine WC.region ?_
  refine W.any (.assign rfl) rfl rfl rfl ?_
  refine W.any (.assign rfl) rfl rfl rfl ?_
  refine W.nil ?_
  refine E.thenN ?_
  refine WC.ret ?_
  refine E.thenR ?_
  refine E.ret2 rfl rfl rfl ?_
  exact ⟨none, 0, 0, rfl, Sl.nil _ _ _, Nat.le_refl _, L1_0⟩

theorem make_short (key r : List Byte) (hk : key.length = 32) {A : Option Addr} {n c : Nat} (w : World) (hS : Sb w A n r) (hn : n ≤ 55) : Calls Try.prog 16 #[.agg (key.map u8v).toArray, .slice A n c] w fun e w' => ∃ A' k c', e = .returned (.tuple #[.slice A' k c', .int .i64 (makeB key r).2]) ∧ Sb w' A' k (makeB key r).1 ∧ k ≤ c' ∧ Le w w' := by
  have hl := hS.len
  rw [makeB, if_pos (by omega)]
  refine enter Try.func16 rfl rfl ?_
  have L0 := Le.refl w
  refine WC.seq ?_
  refine WC.region ?_
  refine W.ef rfl rfl rfl ?_
  refine Ef.boxA rfl ?_
  intro g0_0 w0_0 hg0_0 b0_0 h0_0
  have L0_0 := L0.trans h0_0
  refine W.any (.assign rfl) rfl rfl rfl ?_
  refine W.any (.assign rfl) rfl rfl rfl ?_
  refine W.nil ?_
  refine E.thenN ?_
  refine WC.seq ?_
  refine WC.region ?_
  refine W.ef rfl rfl rfl ?_
  refine Ef.allocA z79 ?_
  intro g1_0 w1_0 hg1_0 b1_0 h1_0
  have L1_0 := L0_0.trans h1_0
  refine W.nil ?_
  refine E.thenN ?_
  refine WC.seq ?_
  refine WC.seq ?_
  refine WC.region ?_
  refine W.any (.move rfl) rfl rfl rfl ?_
  refine W.rd (.len Try.underlying24 rfl) rfl rfl rfl ?_
  refine W.any (.geq rfl rfl) rfl rfl rfl ?_
  refine W.nil ?_
  refine E.thenN ?_
  refine WC.condB rfl (fun h => absurd h (by simp; omega)) (fun _ => ?_)
  refine WC.skip ?_
  refine E.thenN ?_
  refine WC.seq ?_
  refine WC.region ?_
  refine W.any (.move rfl) rfl rfl rfl ?_
  refine W.rd (.len Try.underlying24 rfl) rfl rfl rfl ?_
  refine W.rd (.toU8 n (isS Try.underlying3) Try.underlying5 rfl rfl) rfl rfl rfl ?_
  refine W.any (.idxA1 0 Try.underlying79 sz5 rfl rfl rfl (by decide)) rfl rfl rfl ?_
  refine W.ef0 rfl rfl ?_
  refine Ef.store sz5 rfl rfl (b1_0) (by simp) (rfl) ?_
  intro w4_4 b4_4 h4_4
  have L4_4 : Le w w4_4 := L1_0.then_ h4_4 (fun q hq => by cases hq; exact Nat.le_trans L0_0.size hg1_0)
  refine W.nil ?_
  refine E.thenN ?_
  refine WC.seq ?_
  refine WC.region ?_
  refine W.any (.cutArrN 1 Try.underlying79 sz5 rfl rfl rfl (by decide)) rfl rfl rfl ?_
  refine W.any (.move rfl) rfl rfl rfl ?_
  refine W.ef rfl rfl rfl ?_
  refine Ef.copy Try.underlying24 sz5 rfl b4_4 rfl ((hS.le L4_4).src Try.underlying24 _) (by omega) (by simp; omega) ?_
  intro w5_2 b5_2 h5_2
  have L5_2 : Le w w5_2 := L4_4.then_ h5_2 (fun q hq => by cases hq; exact Nat.le_trans L0_0.size hg1_0)
  have bp : Blk w5_2 g1_0 79 ((rowB r).map u8v).toArray := b5_2.cast (by rw [← hl]; exact row_cells r (by omega))
  have bk := ((b0_0.le h1_0).ch h4_4 (by simp; have := b0_0.lt; omega)).ch h5_2 (by simp; have := b0_0.lt; omega)
  refine W.nil ?_
  refine E.thenN ?_
  refine WC.seq ?_
  refine WC.draw [0, 2, 1, 3, 4, 5] mixed (by kernel_rfl) ?_
  intro w6 d6
  have L6 := L5_2.trans d6
  refine G.rd rfl rfl (.loadAll ag23 (by simp [hk]) rfl (bk.le d6)) rfl rfl rfl ?_
  refine G.any rfl rfl (.cutArr Try.underlying79 sz5 rfl) rfl rfl rfl ?_
  refine G.ef rfl rfl rfl rfl rfl ?_
  refine Ef.call go46 rfl rfl (by_ok key hk w6) ?_
  rintro _ w6_1 ⟨rfl, h6_1⟩
  refine ⟨_, rfl, ?_⟩
  have L6_1 := L6.trans h6_1
  refine ⟨fun _ => h6_1, ?_⟩
  refine G.ef rfl rfl rfl rfl rfl ?_
  refine Ef.call go45 rfl rfl (seal_ok (byB key) (byB_length _) w6_1 ((bp.le (d6.trans h6_1)).sb (rowB_length r (by omega))) (by decide)) ?_
  rintro _ w6_3 ⟨A1, c1, rfl, o1, h6_3⟩
  refine ⟨_, rfl, ?_⟩
  have L6_3 := L6_1.trans h6_3
  refine ⟨fun _ => h6_3, ?_⟩
  refine G.any rfl rfl (.assign rfl) rfl rfl rfl ?_
  refine G.any rfl rfl (.assign rfl) rfl rfl rfl ?_
  refine G.nil ?_
  refine E.thenN ?_
  refine WC.ret ?_
  refine E.ret2 rfl rfl rfl ?_
  exact ⟨A1, _, c1, rfl, o1.sb, o1.cap.1, L6_3⟩

theorem make_ok (key r : List Byte) (hk : key.length = 32) {A : Option Addr} {n c : Nat} (w : World) (hS : Sb w A n r) : Calls Try.prog 16 #[.agg (key.map u8v).toArray, .slice A n c] w fun e w' => ∃ A' k c', e = .returned (.tuple #[.slice A' k c', .int .i64 (makeB key r).2]) ∧ Sb w' A' k (makeB key r).1 ∧ k ≤ c' ∧ Le w w' := by
  by_cases h : n ≤ 55
  · exact make_short key r hk w hS h
  · exact make_long key r w hS (by omega)

theorem add_a (key p : List Byte) {A : Option Addr} {n c : Nat} (w : World) (hS : Sb w A n p) (hn : n ≤ 9223372036854775807) (hs : stepB n < 0) : Calls Try.prog 18 #[.agg (key.map u8v).toArray, .slice A n c] w fun e w' => ∃ A' k c', e = .returned (.tuple #[.slice A' k c', .int .i64 (addB key p).2]) ∧ Sb w' A' k (addB key p).1 ∧ k ≤ c' ∧ Le w w' := by
  have hl := hS.len
  rw [addB, hl, if_neg (by omega)]
  refine enter Try.func18 rfl rfl ?_
  have L0 := Le.refl w
  refine WC.seq ?_
  refine WC.region ?_
  refine W.ef rfl rfl rfl ?_
  refine Ef.boxA rfl ?_
  intro g0_0 w0_0 hg0_0 b0_0 h0_0
  have L0_0 := L0.trans h0_0
  refine W.any (.assign rfl) rfl rfl rfl ?_
  refine W.any (.assign rfl) rfl rfl rfl ?_
  refine W.nil ?_
  refine E.thenN ?_
  refine WC.seq ?_
  refine WC.seq ?_
  refine WC.region ?_
  refine W.any (.move rfl) rfl rfl rfl ?_
  refine W.ef rfl rfl rfl ?_
  refine Ef.call go48 rfl rfl (step_ok w0_0 hn) ?_
  rintro _ w1_1 ⟨rfl, h1_1⟩
  refine ⟨_, rfl, ?_⟩
  have L1_1 := L0_0.trans h1_1
  refine W.any (.assign rfl) rfl rfl rfl ?_
  refine W.nil ?_
  refine E.thenN ?_
  refine WC.seq ?_
  refine WC.region ?_
  refine W.any (.move rfl) rfl rfl rfl ?_
  refine W.any (.lss rfl rfl) rfl rfl rfl ?_
  refine W.any (.move rfl) rfl rfl rfl ?_
  refine W.skip rfl rfl rfl (decide_eq_true (by omega)) rfl rfl ?_
  refine W.skip rfl rfl rfl (decide_eq_true (by omega)) rfl rfl ?_
  refine W.any (.pickT rfl (decide_eq_true (by omega)) rfl) rfl rfl rfl ?_
  refine W.nil ?_
  refine E.thenN ?_
  refine WC.condB rfl (fun _ => ?_) (fun h => absurd h (by simp))
  refine WC.seq ?_
  refine WC.region ?_
  refine W.any (.assign rfl) rfl rfl rfl ?_
  refine W.any (.assign rfl) rfl rfl rfl ?_
  refine W.nil ?_
  refine E.thenN ?_
  refine WC.ret ?_
  refine E.thenR ?_
  refine E.ret2 rfl rfl rfl ?_
  exact ⟨none, 0, 0, rfl, Sl.nil _ _ _, Nat.le_refl _, L1_1⟩

theorem add_b (key p : List Byte) {A : Option Addr} {n c : Nat} (w : World) (hS : Sb w A n p) (hn : n ≤ 9223372036854775807) (hs : 7 ≤ stepB n) : Calls Try.prog 18 #[.agg (key.map u8v).toArray, .slice A n c] w fun e w' => ∃ A' k c', e = .returned (.tuple #[.slice A' k c', .int .i64 (addB key p).2]) ∧ Sb w' A' k (addB key p).1 ∧ k ≤ c' ∧ Le w w' := by
  have hl := hS.len
  rw [addB, hl, if_neg (by omega)]
  refine enter Try.func18 rfl rfl ?_
  have L0 := Le.refl w
  refine WC.seq ?_
  refine WC.region ?_
  refine W.ef rfl rfl rfl ?_
  refine Ef.boxA rfl ?_
  intro g0_0 w0_0 hg0_0 b0_0 h0_0
  have L0_0 := L0.trans h0_0
  refine W.any (.assign rfl) rfl rfl rfl ?_
  refine W.any (.assign rfl) rfl rfl rfl ?_
  refine W.nil ?_
  refine E.thenN ?_
  refine WC.seq ?_
  refine WC.seq ?_
  refine WC.region ?_
  refine W.any (.move rfl) rfl rfl rfl ?_
  refine W.ef rfl rfl rfl ?_
  refine Ef.call go48 rfl rfl (step_ok w0_0 hn) ?_
  rintro _ w1_1 ⟨rfl, h1_1⟩
  refine ⟨_, rfl, ?_⟩
  have L1_1 := L0_0.trans h1_1
  refine W.any (.assign rfl) rfl rfl rfl ?_
  refine W.nil ?_
  refine E.thenN ?_
  refine WC.seq ?_
  refine WC.region ?_
  refine W.any (.move rfl) rfl rfl rfl ?_
  refine W.any (.lss rfl rfl) rfl rfl rfl ?_
  refine W.any (.move rfl) rfl rfl rfl ?_
  refine W.rdg (Any.rd (.move rfl) _) rfl rfl rfl (decide_eq_false (by omega)) rfl rfl ?_
  refine W.rdg (Any.rd (.geq rfl rfl) _) rfl rfl rfl (decide_eq_false (by omega)) rfl rfl ?_
  refine W.any (.pickF rfl (decide_eq_false (by omega)) rfl) rfl rfl rfl ?_
  refine W.nil ?_
  refine E.thenN ?_
  refine WC.condB rfl (fun _ => ?_) (fun h => absurd h (by simp; omega))
  refine WC.seq ?_
  refine WC.region ?_
  refine W.any (.assign rfl) rfl rfl rfl ?_
  refine W.any (.assign rfl) rfl rfl rfl ?_
  refine W.nil ?_
  refine E.thenN ?_
  refine WC.ret ?_
  refine E.thenR ?_
  refine E.ret2 rfl rfl rfl ?_
  exact ⟨none, 0, 0, rfl, Sl.nil _ _ _, Nat.le_refl _, L1_1⟩

theorem add_c (key p : List Byte) (hk : key.length = 32) {A : Option Addr} {n c : Nat} (w : World) (hS : Sb w A n p) (hn : n ≤ 9223372036854775807) (hs : 0 ≤ stepB n ∧ stepB n < 7) (hm : n ≤ 128) : Calls Try.prog 18 #[.agg (key.map u8v).toArray, .slice A n c] w fun e w' => ∃ A' k c', e = .returned (.tuple #[.slice A' k c', .int .i64 (addB key p).2]) ∧ Sb w' A' k (addB key p).1 ∧ k ≤ c' ∧ Le w w' := by
  have hl := hS.len
  rw [addB, hl, if_pos (by omega)]
  refine enter Try.func18 rfl rfl ?_
  have L0 := Le.refl w
  refine WC.seq ?_
  refine WC.region ?_
  refine W.ef rfl rfl rfl ?_
  refine Ef.boxA rfl ?_
  intro g0_0 w0_0 hg0_0 b0_0 h0_0
  have L0_0 := L0.trans h0_0
  refine W.any (.assign rfl) rfl rfl rfl ?_
  refine W.any (.assign rfl) rfl rfl rfl ?_
  refine W.nil ?_
  refine E.thenN ?_
  refine WC.seq ?_
  refine WC.seq ?_
  refine WC.region ?_
  refine W.any (.move rfl) rfl rfl rfl ?_
  refine W.ef rfl rfl rfl ?_
  refine Ef.call go48 rfl rfl (step_ok w0_0 hn) ?_
  rintro _ w1_1 ⟨rfl, h1_1⟩
  refine ⟨_, rfl, ?_⟩
  have L1_1 := L0_0.trans h1_1
  refine W.any (.assign rfl) rfl rfl rfl ?_
  refine W.nil ?_
  refine E.thenN ?_
  refine WC.seq ?_
  refine WC.region ?_
  refine W.any (.move rfl) rfl rfl rfl ?_
  refine W.any (.lss rfl rfl) rfl rfl rfl ?_
  refine W.any (.move rfl) rfl rfl rfl ?_
  refine W.rdg (Any.rd (.move rfl) _) rfl rfl rfl (decide_eq_false (by omega)) rfl rfl ?_
  refine W.rdg (Any.rd (.geq rfl rfl) _) rfl rfl rfl (decide_eq_false (by omega)) rfl rfl ?_
  refine W.any (.pickF rfl (decide_eq_false (by omega)) rfl) rfl rfl rfl ?_
  refine W.nil ?_
  refine E.thenN ?_
  refine WC.condB rfl (fun h => absurd h (by simp; omega)) (fun _ => ?_)
  refine WC.skip ?_
  refine E.thenN ?_
  refine WC.seq ?_
  refine WC.region ?_
  refine W.rd (.loadAll ag23 (by simp [hk]) rfl (b0_0.le h1_1)) rfl rfl rfl ?_
  refine W.ef rfl rfl rfl ?_
  refine Ef.call go46 rfl rfl (by_ok key hk w1_1) ?_
  rintro _ w4_1 ⟨rfl, h4_1⟩
  refine ⟨_, rfl, ?_⟩
  have L4_1 := L1_1.trans h4_1
  refine W.any (.move rfl) rfl rfl rfl ?_
  refine W.ef rfl rfl rfl ?_
  refine Ef.call go45 rfl rfl (seal_ok (byB key) (byB_length _) w4_1 (hS.le L4_1) (by omega)) ?_
  rintro _ w4_3 ⟨A1, c1, rfl, o1, h4_3⟩
  refine ⟨_, rfl, ?_⟩
  have L4_3 := L4_1.trans h4_3
  refine W.any (.assign rfl) rfl rfl rfl ?_
  refine W.any (.assign rfl) rfl rfl rfl ?_
  refine W.nil ?_
  refine E.thenN ?_
  refine WC.ret ?_
  refine E.ret2 rfl rfl rfl ?_
  exact ⟨A1, _, c1, rfl, o1.sb, o1.cap.1, L4_3⟩

theorem add_ok (key p : List Byte) (hk : key.length = 32) {A : Option Addr} {n c : Nat} (w : World) (hS : Sb w A n p) (hn : n ≤ 9223372036854775807) : Calls Try.prog 18 #[.agg (key.map u8v).toArray, .slice A n c] w fun e w' => ∃ A' k c', e = .returned (.tuple #[.slice A' k c', .int .i64 (addB key p).2]) ∧ Sb w' A' k (addB key p).1 ∧ k ≤ c' ∧ Le w w' := by
  rcases stepB_cases n with ⟨h, _⟩ | ⟨s, h, h1, h2⟩
  · exact add_a key p w hS hn (by omega)
  · by_cases h3 : s = 7
    · exact add_b key p w hS hn (by omega)
    · exact add_c key p hk w hS hn (by omega) (by omega)
end Go.Proofs.Ytpmjdiccekkadaa
