/- The statement OnionLocks walked: it answers true and leaves old memory as it was. -/
import Derived.Test.YtpmjdiccekkadaaLaw31b
import Derived.Test.YtpmjdiccekkadaaPay
namespace Go.Proofs.Ytpmjdiccekkadaa
open Go Go.Sx Go.Hsp Go.Num Go.Osp
set_option maxRecDepth 20000
theorem lockOk (ks pts bl : List Nat) (amount : Int) (h8 : ks.length ≤ 8) (hpt : ∀ i, i + 1 < ks.length → right (pts.getD (i + 1) 0) = true) (hb : ∀ b ∈ bl, b < q) (ha : 0 ≤ amount ∧ amount ≤ 1125899906842624) : hopsOk (ks.map base) (lockHops pts bl ks.length amount ks.length) = true := by
  refine hopsOk_yes _ _ (by rw [lockHops_length, List.length_map]) (fun i hi => ?_)
  rw [lockHops_length] at hi
  rw [lockHops_at _ _ _ _ _ _ hi, lockHop_may _ _ _ _ _ h8 hpt hb ha, lockHop_end _ _ _ _ _ hi, lockHops_length, Bool.true_and, decide_eq_true rfl]
theorem getD_map_base (l : List Nat) (i : Nat) (h : i < l.length) : (l.map base).getD i 0 = base (l.getD i 0) := by simp [List.getD, h]
set_option maxHeartbeats 4000000 in
theorem OnionLocks_ok {A : Option Addr} {n c : Nat} {ks : List Nat} (s : Nat) (hs64 : s < 18446744073709551616) {seed other : List Byte} (hse : seed.length = 32) (hot : other.length = 32) {amount : Int} (w : World) (hK : Sl w 1 A n (ks.map pv)) (hnk : n ≤ 9223372036854775807) (ham : -9223372036854775808 ≤ amount ∧ amount ≤ 9223372036854775807) : Calls Try.prog 13 #[.slice A n c, .int .u64 ((s : Nat) : Int), .agg (seed.map u8v).toArray, .agg (other.map u8v).toArray, .int .i64 amount] w fun e w' => e = .returned (.bool true) ∧ Le w w' := by
  refine enter Try.func13 rfl rfl ?_
  have L0 := Le.refl w
  refine WC.seq ?_
  refine WC.region ?_
  refine W.ef rfl rfl rfl ?_
  refine Ef.boxA rfl ?_
  intro g0_0 w0_0 hg0_0 b0_0 h0_0
  have L0_0 := L0.trans h0_0
  refine W.ef rfl rfl rfl ?_
  refine Ef.boxA rfl ?_
  intro g0_1 w0_1 hg0_1 b0_1 h0_1
  have L0_1 := L0_0.trans h0_1
  have hL0 := h0_0.trans h0_1
  have bsd := b0_0.le h0_1
  have bot := b0_1
  have LL := Le.refl w0_1
  have hK := hK.le hL0
  have hkl := hK.1
  rw [List.length_map, Nat.mul_one] at hkl
  refine W.any (.assign rfl) rfl rfl rfl ?_
  refine W.nil ?_
  refine E.thenN ?_
  refine WC.seq ?_
  refine WC.region ?_
  refine W.ef rfl rfl rfl ?_
  refine Ef.call go26 rfl rfl (small31_ok w0_1) ?_
  rintro _ w1_0 ⟨rfl, h1_0⟩
  refine ⟨_, rfl, ?_⟩
  have L1_0 := LL.trans h1_0
  refine W.any (.assign rfl) rfl rfl rfl ?_
  refine W.nil ?_
  refine E.thenN ?_
  refine WC.seq ?_
  refine WC.region ?_
  refine W.any (.move rfl) rfl rfl rfl ?_
  refine W.rd (.len Try.underlying55 rfl) rfl rfl rfl ?_
  refine W.any (.assign rfl) rfl rfl rfl ?_
  refine W.nil ?_
  refine E.thenN ?_
  refine WC.seq ?_
  refine WC.seq ?_
  refine WC.region ?_
  refine W.any (.move rfl) rfl rfl rfl ?_
  by_cases q1 : n < 1
  · refine W.any (.dec (.lss rfl rfl) (decide_eq_true (by omega))) rfl rfl rfl ?_
    refine W.any (.move rfl) rfl rfl rfl ?_
    refine W.skip rfl rfl rfl (rfl) rfl rfl ?_
    refine W.skip rfl rfl rfl (rfl) rfl rfl ?_
    refine W.any (.pickT rfl rfl rfl) rfl rfl rfl ?_
    refine W.any (.move rfl) rfl rfl rfl ?_
    refine W.skip rfl rfl rfl (rfl) rfl rfl ?_
    refine W.skip rfl rfl rfl (rfl) rfl rfl ?_
    refine W.any (.pickT rfl rfl rfl) rfl rfl rfl ?_
    refine W.any (.move rfl) rfl rfl rfl ?_
    refine W.skip rfl rfl rfl (rfl) rfl rfl ?_
    refine W.skip rfl rfl rfl (rfl) rfl rfl ?_
    refine W.any (.pickT rfl rfl rfl) rfl rfl rfl ?_
    refine W.any (.move rfl) rfl rfl rfl ?_
    refine W.skip rfl rfl rfl (rfl) rfl rfl ?_
    refine W.skip rfl rfl rfl (rfl) rfl rfl ?_
    refine W.any (.pickT rfl rfl rfl) rfl rfl rfl ?_
    refine W.any (.move rfl) rfl rfl rfl ?_
    refine W.skip rfl rfl rfl (rfl) rfl rfl ?_
    refine W.skip rfl rfl rfl (rfl) rfl rfl ?_
    refine W.any (.pickT rfl rfl rfl) rfl rfl rfl ?_
    refine W.nil ?_
    refine E.thenN ?_
    refine WC.condT rfl ?_
    refine WC.seq ?_
    refine WC.region ?_
    refine W.any (.move rfl) rfl rfl rfl ?_
    refine W.any (.assign rfl) rfl rfl rfl ?_
    refine W.nil ?_
    refine E.thenN ?_
    refine WC.ret ?_
    refine E.thenR ?_
    refine E.ret1 rfl rfl ?_
    exact ⟨rfl, hL0.trans L1_0⟩
  · refine W.any (.dec (.lss rfl rfl) (decide_eq_false (by omega))) rfl rfl rfl ?_
    refine W.any (.move rfl) rfl rfl rfl ?_
    refine W.rdg (Any.rd (.move rfl) _) rfl rfl rfl (rfl) rfl rfl ?_
    by_cases q2 : 8 < n
    · refine W.rdg (Any.rd (.dec (.gtr rfl rfl) (decide_eq_true (by omega))) _) rfl rfl rfl (rfl) rfl rfl ?_
      refine W.any (.pickF rfl rfl rfl) rfl rfl rfl ?_
      refine W.any (.move rfl) rfl rfl rfl ?_
      refine W.skip rfl rfl rfl (rfl) rfl rfl ?_
      refine W.skip rfl rfl rfl (rfl) rfl rfl ?_
      refine W.any (.pickT rfl rfl rfl) rfl rfl rfl ?_
      refine W.any (.move rfl) rfl rfl rfl ?_
      refine W.skip rfl rfl rfl (rfl) rfl rfl ?_
      refine W.skip rfl rfl rfl (rfl) rfl rfl ?_
      refine W.any (.pickT rfl rfl rfl) rfl rfl rfl ?_
      refine W.any (.move rfl) rfl rfl rfl ?_
      refine W.skip rfl rfl rfl (rfl) rfl rfl ?_
      refine W.skip rfl rfl rfl (rfl) rfl rfl ?_
      refine W.any (.pickT rfl rfl rfl) rfl rfl rfl ?_
      refine W.any (.move rfl) rfl rfl rfl ?_
      refine W.skip rfl rfl rfl (rfl) rfl rfl ?_
      refine W.skip rfl rfl rfl (rfl) rfl rfl ?_
      refine W.any (.pickT rfl rfl rfl) rfl rfl rfl ?_
      refine W.nil ?_
      refine E.thenN ?_
      refine WC.condT rfl ?_
      refine WC.seq ?_
      refine WC.region ?_
      refine W.any (.move rfl) rfl rfl rfl ?_
      refine W.any (.assign rfl) rfl rfl rfl ?_
      refine W.nil ?_
      refine E.thenN ?_
      refine WC.ret ?_
      refine E.thenR ?_
      refine E.ret1 rfl rfl ?_
      exact ⟨rfl, hL0.trans L1_0⟩
    · refine W.rdg (Any.rd (.dec (.gtr rfl rfl) (decide_eq_false (by omega))) _) rfl rfl rfl (rfl) rfl rfl ?_
      refine W.any (.pickF rfl rfl rfl) rfl rfl rfl ?_
      refine W.any (.move rfl) rfl rfl rfl ?_
      refine W.rdg (Any.rd (.move rfl) _) rfl rfl rfl (rfl) rfl rfl ?_
      by_cases q3 : s = 0
      · refine W.rdg (Any.rd (.dec (.eql rfl rfl) (decide_eq_true (by omega))) _) rfl rfl rfl (rfl) rfl rfl ?_
        refine W.any (.pickF rfl rfl rfl) rfl rfl rfl ?_
        refine W.any (.move rfl) rfl rfl rfl ?_
        refine W.skip rfl rfl rfl (rfl) rfl rfl ?_
        refine W.skip rfl rfl rfl (rfl) rfl rfl ?_
        refine W.any (.pickT rfl rfl rfl) rfl rfl rfl ?_
        refine W.any (.move rfl) rfl rfl rfl ?_
        refine W.skip rfl rfl rfl (rfl) rfl rfl ?_
        refine W.skip rfl rfl rfl (rfl) rfl rfl ?_
        refine W.any (.pickT rfl rfl rfl) rfl rfl rfl ?_
        refine W.any (.move rfl) rfl rfl rfl ?_
        refine W.skip rfl rfl rfl (rfl) rfl rfl ?_
        refine W.skip rfl rfl rfl (rfl) rfl rfl ?_
        refine W.any (.pickT rfl rfl rfl) rfl rfl rfl ?_
        refine W.nil ?_
        refine E.thenN ?_
        refine WC.condT rfl ?_
        refine WC.seq ?_
        refine WC.region ?_
        refine W.any (.move rfl) rfl rfl rfl ?_
        refine W.any (.assign rfl) rfl rfl rfl ?_
        refine W.nil ?_
        refine E.thenN ?_
        refine WC.ret ?_
        refine E.thenR ?_
        refine E.ret1 rfl rfl ?_
        exact ⟨rfl, hL0.trans L1_0⟩
      · refine W.rdg (Any.rd (.dec (.eql rfl rfl) (decide_eq_false (by omega))) _) rfl rfl rfl (rfl) rfl rfl ?_
        refine W.any (.pickF rfl rfl rfl) rfl rfl rfl ?_
        refine W.any (.move rfl) rfl rfl rfl ?_
        refine W.rdg (Any.rd (.move rfl) _) rfl rfl rfl (rfl) rfl rfl ?_
        by_cases q4 : s < 2305843009213688669
        · refine W.rdg (Any.rd (.dec (.geq rfl rfl) (decide_eq_false (by omega))) _) rfl rfl rfl (rfl) rfl rfl ?_
          refine W.any (.pickF rfl rfl rfl) rfl rfl rfl ?_
          refine W.any (.move rfl) rfl rfl rfl ?_
          refine W.rdg (Any.rd (.move rfl) _) rfl rfl rfl (rfl) rfl rfl ?_
          by_cases q5 : amount < 0
          · refine W.rdg (Any.rd (.dec (.lss rfl rfl) (decide_eq_true (by omega))) _) rfl rfl rfl (rfl) rfl rfl ?_
            refine W.any (.pickF rfl rfl rfl) rfl rfl rfl ?_
            refine W.any (.move rfl) rfl rfl rfl ?_
            refine W.skip rfl rfl rfl (rfl) rfl rfl ?_
            refine W.skip rfl rfl rfl (rfl) rfl rfl ?_
            refine W.any (.pickT rfl rfl rfl) rfl rfl rfl ?_
            refine W.nil ?_
            refine E.thenN ?_
            refine WC.condT rfl ?_
            refine WC.seq ?_
            refine WC.region ?_
            refine W.any (.move rfl) rfl rfl rfl ?_
            refine W.any (.assign rfl) rfl rfl rfl ?_
            refine W.nil ?_
            refine E.thenN ?_
            refine WC.ret ?_
            refine E.thenR ?_
            refine E.ret1 rfl rfl ?_
            exact ⟨rfl, hL0.trans L1_0⟩
          · refine W.rdg (Any.rd (.dec (.lss rfl rfl) (decide_eq_false (by omega))) _) rfl rfl rfl (rfl) rfl rfl ?_
            refine W.any (.pickF rfl rfl rfl) rfl rfl rfl ?_
            refine W.any (.move rfl) rfl rfl rfl ?_
            refine W.rdg (Any.rd (.move rfl) _) rfl rfl rfl (rfl) rfl rfl ?_
            by_cases q6 : 1125899906842624 < amount
            · refine W.rdg (Any.rd (.dec (.gtr rfl rfl) (decide_eq_true (by omega))) _) rfl rfl rfl (rfl) rfl rfl ?_
              refine W.any (.pickF rfl rfl rfl) rfl rfl rfl ?_
              refine W.nil ?_
              refine E.thenN ?_
              refine WC.condT rfl ?_
              refine WC.seq ?_
              refine WC.region ?_
              refine W.any (.move rfl) rfl rfl rfl ?_
              refine W.any (.assign rfl) rfl rfl rfl ?_
              refine W.nil ?_
              refine E.thenN ?_
              refine WC.ret ?_
              refine E.thenR ?_
              refine E.ret1 rfl rfl ?_
              exact ⟨rfl, hL0.trans L1_0⟩
            · refine W.rdg (Any.rd (.dec (.gtr rfl rfl) (decide_eq_false (by omega))) _) rfl rfl rfl (rfl) rfl rfl ?_
              refine W.any (.pickF rfl rfl rfl) rfl rfl rfl ?_
              refine W.nil ?_
              refine E.thenN ?_
              refine WC.condF rfl ?_
              refine WC.skip ?_
              refine E.thenN ?_
              refine WC.cut (ι := Nat × Nat × Option Addr × Nat) (fun ⟨g13, g5, Ab, cb⟩ => [(0, .slice A n c), (1, .int .u64 ((s : Nat) : Int)), (4, .int .i64 amount), (8, .pointer (some ⟨g0_1, 0, none⟩)), (11, .bool true), (12, .int .i64 (n : Int)), (13, .pointer (some ⟨g13, 0, none⟩)), (14, .bool true)]) (fun ⟨g13, g5, Ab, cb⟩ wc => Le w0_1 wc ∧ Blk wc g13 70 #[.slice (some ⟨g5, 0, none⟩) n n, .slice Ab (n - 1) cb] ∧ Blk wc g5 49 ((fromP (base s) (blindsP seed (n - 1))).map pv).toArray ∧ Sl wc 1 Ab (n - 1) ((blindsP seed (n - 1)).map pv)) ?_ ?_
              · refine WC.drawT (fun o => (app o [0, 2, 3] (.br (app o [1] (.br (app o [4, 5, 6, 7, 8, 9, 10] .nil) (app o [8, 4, 5, 6, 7, 9, 10] .nil))) (app o [8, 1, 4, 5, 6, 7, 9, 10] .nil)))) mixed (by kernel_rfl) ?_
                intro w5 d5
                have L5 := L1_0.trans d5
                refine GT.app ?_
                refine G.any rfl rfl (.move rfl) rfl rfl rfl ?_
                refine G.rd rfl rfl (.loadAll ag23 (by simp [hse]) rfl (bsd.le L5)) rfl rfl rfl ?_
                refine G.any rfl rfl (.move rfl) rfl rfl rfl ?_
                refine G.nil ?_
                refine GT.br ?_ ?_
                · refine GT.app ?_
                  refine G.ef rfl rfl rfl rfl rfl ?_
                  refine Ef.call go33 rfl rfl (base_ok s w5) ?_
                  rintro _ w5_1 ⟨rfl, h5_1⟩
                  refine ⟨_, rfl, ?_⟩
                  have L5_1 := L5.trans h5_1
                  refine ⟨fun _ => h5_1, ?_⟩
                  refine G.nil ?_
                  refine GT.br ?_ ?_
                  · refine GT.last ?_
                    refine G.ef rfl rfl rfl rfl rfl ?_
                    refine Ef.call go40 rfl rfl (pnew_ok (base s) (base_lt s) (right_base s) (base_ne_one (by rw [Nat.mod_eq_of_lt (show s < q from q4)]; exact q3)) seed hse n (by omega) (by omega) w5_1) ?_
                    rintro _ w5_4 ⟨g5, Ab, cb, rfl, hg5, bp, ob, h5_4⟩
                    refine ⟨_, rfl, ?_⟩
                    have L5_4 := L5_1.trans h5_4
                    refine ⟨fun _ => h5_4, ?_⟩
                    refine G.any rfl rfl (.move rfl) rfl rfl rfl ?_
                    refine G.any rfl rfl (.extract rfl rfl) rfl rfl rfl ?_
                    refine G.any rfl rfl (.extract rfl rfl) rfl rfl rfl ?_
                    refine G.ef rfl rfl rfl rfl rfl ?_
                    refine Ef.allocA z70 ?_
                    intro g5_8 w5_8 hg5_8 b5_8 h5_8
                    have L5_8 := L5_4.trans h5_8
                    refine ⟨fun _ => h5_8, ?_⟩
                    refine G.ef0 rfl rfl rfl rfl ?_
                    refine Ef.storeAll sz70 (by rfl) rfl rfl ((by first | exact b5_8 | exact b5_8.le h5_4 | exact (b5_8.le h5_1).le h5_4)) (by rfl) (one2s) ?_
                    intro w5_9 b5_9 h5_9
                    have L5_9 : Le w0_1 w5_9 := L5_8.then_ h5_9 (fun q hq => by cases hq; first | exact Nat.le_trans L5.size hg5_8 | exact Nat.le_trans L5_1.size hg5_8 | exact Nat.le_trans L5_4.size hg5_8)
                    refine ⟨fun h => absurd h (ne_true_of_eq_false (by kernel_rfl)), ?_⟩
                    refine G.any rfl rfl (.assign rfl) rfl rfl rfl ?_
                    refine G.nil ?_
                    refine E.meet (g5_8, g5, Ab, cb) (.cons rfl (.cons rfl (.cons rfl (.cons rfl (.cons rfl (.cons rfl (.cons rfl (.cons rfl (.nil _))))))))) ?_
                    refine ⟨L5_9, b5_9, ?_, ?_⟩
                    · first | exact (bp.le h5_8).ch h5_9 (by simp; have := bp.lt; omega) | exact bp.ch h5_9 (by simp; have := b5_8.lt; have := h5_1.size; omega) | exact bp.ch h5_9 (by simp; have := b5_8.lt; omega)
                    · first | exact (((ob.le h5_8).ch h5_9 (fun q hq => by cases hq; exact fun he => by have := (ob.row he).2; omega))).sl | exact (ob.ch h5_9 (fun q hq => by cases hq; exact fun he => by have := (ob.row he).1; have := b5_8.lt; have := h5_1.size; omega)).sl | exact (ob.ch h5_9 (fun q hq => by cases hq; exact fun he => by have := (ob.row he).1; have := b5_8.lt; omega)).sl
                  · refine GT.last ?_
                    refine G.ef rfl rfl rfl rfl rfl ?_
                    refine Ef.allocA z70 ?_
                    intro g5_8 w5_8 hg5_8 b5_8 h5_8
                    have L5_8 := L5_1.trans h5_8
                    refine ⟨fun _ => h5_8, ?_⟩
                    refine G.ef rfl rfl rfl rfl rfl ?_
                    refine Ef.call go40 rfl rfl (pnew_ok (base s) (base_lt s) (right_base s) (base_ne_one (by rw [Nat.mod_eq_of_lt (show s < q from q4)]; exact q3)) seed hse n (by omega) (by omega) w5_8) ?_
                    rintro _ w5_4 ⟨g5, Ab, cb, rfl, hg5, bp, ob, h5_4⟩
                    refine ⟨_, rfl, ?_⟩
                    have L5_4 := L5_8.trans h5_4
                    refine ⟨fun _ => h5_4, ?_⟩
                    refine G.any rfl rfl (.move rfl) rfl rfl rfl ?_
                    refine G.any rfl rfl (.extract rfl rfl) rfl rfl rfl ?_
                    refine G.any rfl rfl (.extract rfl rfl) rfl rfl rfl ?_
                    refine G.ef0 rfl rfl rfl rfl ?_
                    refine Ef.storeAll sz70 (by rfl) rfl rfl ((by first | exact b5_8 | exact b5_8.le h5_4 | exact (b5_8.le h5_1).le h5_4)) (by rfl) (one2s) ?_
                    intro w5_9 b5_9 h5_9
                    have L5_9 : Le w0_1 w5_9 := L5_4.then_ h5_9 (fun q hq => by cases hq; first | exact Nat.le_trans L5.size hg5_8 | exact Nat.le_trans L5_1.size hg5_8 | exact Nat.le_trans L5_4.size hg5_8)
                    refine ⟨fun h => absurd h (ne_true_of_eq_false (by kernel_rfl)), ?_⟩
                    refine G.any rfl rfl (.assign rfl) rfl rfl rfl ?_
                    refine G.nil ?_
                    refine E.meet (g5_8, g5, Ab, cb) (.cons rfl (.cons rfl (.cons rfl (.cons rfl (.cons rfl (.cons rfl (.cons rfl (.cons rfl (.nil _))))))))) ?_
                    refine ⟨L5_9, b5_9, ?_, ?_⟩
                    · first | exact (bp.le h5_8).ch h5_9 (by simp; have := bp.lt; omega) | exact bp.ch h5_9 (by simp; have := b5_8.lt; have := h5_1.size; omega) | exact bp.ch h5_9 (by simp; have := b5_8.lt; omega)
                    · first | exact (((ob.le h5_8).ch h5_9 (fun q hq => by cases hq; exact fun he => by have := (ob.row he).2; omega))).sl | exact (ob.ch h5_9 (fun q hq => by cases hq; exact fun he => by have := (ob.row he).1; have := b5_8.lt; have := h5_1.size; omega)).sl | exact (ob.ch h5_9 (fun q hq => by cases hq; exact fun he => by have := (ob.row he).1; have := b5_8.lt; omega)).sl
                · refine GT.last ?_
                  refine G.ef rfl rfl rfl rfl rfl ?_
                  refine Ef.allocA z70 ?_
                  intro g5_8 w5_8 hg5_8 b5_8 h5_8
                  have L5_8 := L5.trans h5_8
                  refine ⟨fun _ => h5_8, ?_⟩
                  refine G.ef rfl rfl rfl rfl rfl ?_
                  refine Ef.call go33 rfl rfl (base_ok s w5_8) ?_
                  rintro _ w5_1 ⟨rfl, h5_1⟩
                  refine ⟨_, rfl, ?_⟩
                  have L5_1 := L5_8.trans h5_1
                  refine ⟨fun _ => h5_1, ?_⟩
                  refine G.ef rfl rfl rfl rfl rfl ?_
                  refine Ef.call go40 rfl rfl (pnew_ok (base s) (base_lt s) (right_base s) (base_ne_one (by rw [Nat.mod_eq_of_lt (show s < q from q4)]; exact q3)) seed hse n (by omega) (by omega) w5_1) ?_
                  rintro _ w5_4 ⟨g5, Ab, cb, rfl, hg5, bp, ob, h5_4⟩
                  refine ⟨_, rfl, ?_⟩
                  have L5_4 := L5_1.trans h5_4
                  refine ⟨fun _ => h5_4, ?_⟩
                  refine G.any rfl rfl (.move rfl) rfl rfl rfl ?_
                  refine G.any rfl rfl (.extract rfl rfl) rfl rfl rfl ?_
                  refine G.any rfl rfl (.extract rfl rfl) rfl rfl rfl ?_
                  refine G.ef0 rfl rfl rfl rfl ?_
                  refine Ef.storeAll sz70 (by rfl) rfl rfl ((by first | exact b5_8 | exact b5_8.le h5_4 | exact (b5_8.le h5_1).le h5_4)) (by rfl) (one2s) ?_
                  intro w5_9 b5_9 h5_9
                  have L5_9 : Le w0_1 w5_9 := L5_4.then_ h5_9 (fun q hq => by cases hq; first | exact Nat.le_trans L5.size hg5_8 | exact Nat.le_trans L5_1.size hg5_8 | exact Nat.le_trans L5_4.size hg5_8)
                  refine ⟨fun h => absurd h (ne_true_of_eq_false (by kernel_rfl)), ?_⟩
                  refine G.any rfl rfl (.assign rfl) rfl rfl rfl ?_
                  refine G.nil ?_
                  refine E.meet (g5_8, g5, Ab, cb) (.cons rfl (.cons rfl (.cons rfl (.cons rfl (.cons rfl (.cons rfl (.cons rfl (.cons rfl (.nil _))))))))) ?_
                  refine ⟨L5_9, b5_9, ?_, ?_⟩
                  · first | exact (bp.le h5_8).ch h5_9 (by simp; have := bp.lt; omega) | exact bp.ch h5_9 (by simp; have := b5_8.lt; have := h5_1.size; omega) | exact bp.ch h5_9 (by simp; have := b5_8.lt; omega)
                  · first | exact (((ob.le h5_8).ch h5_9 (fun q hq => by cases hq; exact fun he => by have := (ob.row he).2; omega))).sl | exact (ob.ch h5_9 (fun q hq => by cases hq; exact fun he => by have := (ob.row he).1; have := b5_8.lt; have := h5_1.size; omega)).sl | exact (ob.ch h5_9 (fun q hq => by cases hq; exact fun he => by have := (ob.row he).1; have := b5_8.lt; omega)).sl
              · rintro ⟨g13, g5, Ab, cb⟩ wc ⟨Lc, b13, bp, sb⟩
                refine WC.seq ?_
                refine WC.seq ?_
                refine WC.region ?_
                refine W.any (.move rfl) rfl rfl rfl ?_
                refine W.any (.not rfl) rfl rfl rfl ?_
                refine W.any (.move rfl) rfl rfl rfl ?_
                refine W.rdg (Any.rd (.field0 fa70_0 rfl) _) rfl rfl rfl (rfl) rfl rfl ?_
                have hbl := blindsP_length seed (n - 1)
                have hblt := blindsP_lt seed (n - 1)
                generalize blindsP seed (n - 1) = bl at *
                have hpl := fromP_length (base s) bl
                have hpb := fromP_base s bl
                have htl := tP_length s bl
                have hpat := fromP_at (base s) bl
                have hplt := fromP_lt (base s) (base_lt s) bl
                have hprt : ∀ i, i < n → right ((fromP (base s) bl).getD i 0) = true := fun i hi => by rw [hpb, getD_map_base _ _ (by omega)]; exact right_base _
                have hpbt : ∀ i, i < n → base ((tP s bl).getD i 0) = (fromP (base s) bl).getD i 0 := fun i hi => by rw [hpb, getD_map_base _ _ (by omega)]
                generalize fromP (base s) bl = pts at *
                have LB := Le.refl wc
                have hKc := hK.le Lc
                refine W.rdg (.loadB na41 rfl (b13) (rfl)) rfl rfl rfl (rfl) rfl rfl ?_
                refine W.rdg (.len Try.underlying41 rfl) rfl rfl rfl (rfl) rfl rfl ?_
                refine W.rdg (Any.rd (.move rfl) _) rfl rfl rfl (rfl) rfl rfl ?_
                refine W.rdg (Any.rd (.dec (.neq rfl rfl) (decide_eq_false (by omega))) _) rfl rfl rfl (rfl) rfl rfl ?_
                refine W.any (.pickF rfl rfl rfl) rfl rfl rfl ?_
                refine W.any (.move rfl) rfl rfl rfl ?_
                refine W.rdg (Any.rd (.field0 fa70_1 rfl) _) rfl rfl rfl (rfl) rfl rfl ?_
                refine W.rdg (.loadB na55 rfl (b13) (rfl)) rfl rfl rfl (rfl) rfl rfl ?_
                refine W.rdg (.len Try.underlying55 rfl) rfl rfl rfl (rfl) rfl rfl ?_
                refine W.rdg (Any.rd (.move rfl) _) rfl rfl rfl (rfl) rfl rfl ?_
                refine W.rdg (Any.rd (.sub rfl rfl (by omega)) _) rfl rfl rfl (rfl) rfl rfl ?_
                refine W.rdg (Any.rd (.dec (.neq rfl rfl) (decide_eq_false (by omega))) _) rfl rfl rfl (rfl) rfl rfl ?_
                refine W.any (.pickF rfl rfl rfl) rfl rfl rfl ?_
                refine W.nil ?_
                refine E.thenN ?_
                refine WC.condF rfl ?_
                refine WC.skip ?_
                refine E.thenN ?_
                refine WC.seq ?_
                refine WC.region ?_
                refine W.any (.assign rfl) rfl rfl rfl ?_
                refine W.nil ?_
                refine E.thenN ?_
                refine WC.seq ?_
                refine WC.region ?_
                refine W.any (.assign rfl) rfl rfl rfl ?_
                refine W.nil ?_
                refine E.thenN ?_
                refine WC.seq ?_
                refine WC.seq ?_
                refine WC.region ?_
                refine W.any (.assign rfl) rfl rfl rfl ?_
                refine W.nil ?_
                refine E.thenN ?_
                refine WC.block ?_
                refine WC.loop (ι := Nat × (Option Addr × Nat) × Option Addr × Nat) (fun ⟨k, ⟨Ah, ch⟩, Ap, cp⟩ => [(0, .slice A n c), (1, .int .u64 ((s : Nat) : Int)), (4, .int .i64 amount), (8, .pointer (some ⟨g0_1, 0, none⟩)), (11, .bool true), (12, .int .i64 (n : Int)), (13, .pointer (some ⟨g13, 0, none⟩)), (15, .slice Ah k ch), (16, .slice Ap k cp), (17, .int .i64 (k : Int))]) (fun ⟨k, ⟨Ah, ch⟩, Ap, cp⟩ wl => k ≤ n ∧ Le wc wl ∧ Sx.Own wl wc.heap.size 51 6 Ah k ch ((lockHops pts bl n amount k).map hopV).flatten ∧ Sx.Own wl wc.heap.size 49 1 Ap k cp (((ks.take k).map base).map pv) ∧ (∀ g, rowOf Ap cp = some g → rowOf Ah ch ≠ some g) ∧ ∀ x ∈ ks.take k, x ≠ 0 ∧ x < q) (fun ⟨k, ⟨Ah, ch⟩, Ap, cp⟩ => n - k) (0, (none, 0), none, 0) ?_ ?_ ?_
                · exact .cons rfl (.cons rfl (.cons rfl (.cons rfl (.cons rfl (.cons rfl (.cons rfl (.cons rfl (.cons rfl (.cons rfl (.nil _))))))))))
                · exact ⟨Nat.zero_le _, LB, Own.nil _ _ _ _ _, Own.nil _ _ _ _ _, fun g hg => by simp [rowOf_zero] at hg, fun x hx => by simp at hx⟩
                · rintro ⟨k, ⟨Ah, ch⟩, Ap, cp⟩ wl ⟨hk, Ll, oh, op, dj, hall⟩
                  refine WC.seq ?_
                  refine WC.seq ?_
                  refine WC.region ?_
                  refine W.any (.move rfl) rfl rfl rfl ?_
                  refine W.any (.move rfl) rfl rfl rfl ?_
                  refine W.any (.lss rfl rfl) rfl rfl rfl ?_
                  refine W.nil ?_
                  refine E.thenN ?_
                  refine WC.cond rfl (fun c2 => ?_) (fun c2 => ?_)
                  · have hx := getn ks (show k < ks.length by omega)
                    refine WC.skip ?_
                    refine E.thenN ?_
                    refine WC.seq ?_
                    refine WC.block ?_
                    refine WC.seq ?_
                    refine WC.seq ?_
                    refine WC.region ?_
                    refine W.any (.move rfl) rfl rfl rfl ?_
                    refine W.any (.move rfl) rfl rfl rfl ?_
                    refine W.any (.idxS1 (k) Try.underlying55 sz48 rfl rfl (hK.isSome (j := k) (by omega) (by decide)) (rfl) (by omega)) rfl rfl rfl ?_
                    refine W.rd (.loadS na48 rfl (hKc.le Ll) (getp ks (by omega))) rfl rfl rfl ?_
                    by_cases hz : ks.getD k 0 = 0
                    · refine W.any (.dec (.eql rfl rfl) (decide_eq_true (by omega))) rfl rfl rfl ?_
                      refine W.any (.move rfl) rfl rfl rfl ?_
                      refine W.skip rfl rfl rfl (rfl) rfl rfl ?_
                      refine W.skip rfl rfl rfl (rfl) rfl rfl ?_
                      refine W.skip rfl rfl rfl (rfl) rfl rfl ?_
                      refine W.skip rfl rfl rfl (rfl) rfl rfl ?_
                      refine W.skip rfl rfl rfl (rfl) rfl rfl ?_
                      refine W.any (.pickT rfl rfl rfl) rfl rfl rfl ?_
                      refine W.nil ?_
                      refine E.thenN ?_
                      refine WC.condT rfl ?_
                      refine WC.seq ?_
                      refine WC.region ?_
                      refine W.any (.move rfl) rfl rfl rfl ?_
                      refine W.any (.assign rfl) rfl rfl rfl ?_
                      refine W.nil ?_
                      refine E.thenN ?_
                      refine WC.ret ?_
                      refine E.thenR ?_
                      refine E.blkR ?_
                      refine E.thenR ?_
                      refine E.thenR ?_
                      refine E.blkR ?_
                      refine E.thenR ?_
                      refine E.ret1 rfl rfl ?_
                      exact ⟨rfl, hL0.trans (Lc.trans Ll)⟩
                    · refine W.any (.dec (.eql rfl rfl) (decide_eq_false (by omega))) rfl rfl rfl ?_
                      refine W.any (.move rfl) rfl rfl rfl ?_
                      refine W.rdg (Any.rd (.move rfl) _) rfl rfl rfl (rfl) rfl rfl ?_
                      refine W.rdg (Any.rd (.move rfl) _) rfl rfl rfl (rfl) rfl rfl ?_
                      refine W.rdg (Any.rd (.idxS1 (k) Try.underlying55 sz48 rfl rfl (hK.isSome (j := k) (by omega) (by decide)) (rfl) (by omega)) _) rfl rfl rfl (rfl) rfl rfl ?_
                      refine W.rdg (.loadS na48 rfl (hKc.le Ll) (getp ks (by omega))) rfl rfl rfl (rfl) rfl rfl ?_
                      by_cases hlt : ks.getD k 0 < 2305843009213688669
                      · refine W.rdg (Any.rd (.dec (.geq rfl rfl) (decide_eq_false (by omega))) _) rfl rfl rfl (rfl) rfl rfl ?_
                        refine W.any (.pickF rfl rfl rfl) rfl rfl rfl ?_
                        refine W.nil ?_
                        refine E.thenN ?_
                        refine WC.condF rfl ?_
                        refine WC.skip ?_
                        refine E.thenN ?_
                        refine WC.seq ?_
                        refine WC.region ?_
                        refine W.any (.move rfl) rfl rfl rfl ?_
                        refine W.any (.move rfl) rfl rfl rfl ?_
                        refine W.any (.move rfl) rfl rfl rfl ?_
                        refine W.any (.idxS1 (k) Try.underlying55 sz48 rfl rfl (hK.isSome (j := k) (by omega) (by decide)) (rfl) (by omega)) rfl rfl rfl ?_
                        refine W.rd (.loadS na48 rfl (hKc.le Ll) (getp ks (by omega))) rfl rfl rfl ?_
                        refine W.ef rfl rfl rfl ?_
                        refine Ef.call go33 rfl rfl (base_ok _ wl) ?_
                        rintro _ w15_5 ⟨rfl, h15_5⟩
                        refine ⟨_, rfl, ?_⟩
                        have L15_5 := Ll.trans h15_5
                        refine W.ef rfl rfl rfl ?_
                        refine Ef.buildSlice1 Try.underlying41 el49 rfl rfl ?_
                        intro g15_6 w15_6 hg15_6 b15_6 h15_6
                        have L15_6 := L15_5.trans h15_6
                        refine W.ef rfl rfl rfl ?_
                        refine Ef.append Try.underlying41 el49 rfl (op.le (h15_5.trans h15_6)) rfl (b15_6.src1 Try.underlying41 rfl) (by omega) (by unfold maxLen; omega) (L15_6.size) ?_
                        intro A15_7 c15_7 w15_7 o15_7 h15_7 at15_7
                        have L15_7 : Le wc w15_7 := L15_6.then_ h15_7 (fun q hq => (op.row hq).1)
                        have oh0 := oh
                        have oh := (oh.le (h15_5.trans h15_6)).ch h15_7 (fun q hq he => dj q hq he)
                        have dj2 : ∀ g, rowOf A15_7 c15_7 = some g → rowOf Ah ch ≠ some g := fun g hg he => at15_7.off (by have := (oh0.row he).2; have := h15_5.size; have := h15_6.size; omega) (fun h => dj g h he) hg
                        have op := o15_7
                        refine W.any (.assign rfl) rfl rfl rfl ?_
                        refine W.nil ?_
                        refine E.thenN ?_
                        refine WC.seq ?_
                        refine WC.region ?_
                        refine W.any (.move rfl) rfl rfl rfl ?_
                        refine W.any (.buildF pl51 z51 rfl (show Instr.fill _ _ _ = some (hopV (-1, 0, amount, 0, 0, 0)).toArray from rfl)) rfl rfl rfl ?_
                        refine W.ef rfl rfl rfl ?_
                        refine Ef.allocA z51 ?_
                        intro g16_2 w16_2 hg16_2 b16_2 h16_2
                        have L16_2 := L15_7.trans h16_2
                        refine W.ef0 rfl rfl ?_
                        refine Ef.storeAll sz51 (by rfl) rfl rfl (b16_2) (by rfl) (hopV_one _) ?_
                        intro w16_3 b16_3 h16_3
                        have L16_3 : Le wc w16_3 := L16_2.then_ h16_3 (fun q hq => by cases hq; exact Nat.le_trans L15_7.size hg16_2)
                        have nh : rowOf Ah ch ≠ some g16_2 := fun he => by have := (oh.row he).2; omega
                        have npt : rowOf A15_7 c15_7 ≠ some g16_2 := fun he => by have := (op.row he).2; omega
                        have oh := (oh.le h16_2).ch h16_3 (fun q hq => by cases hq; exact nh)
                        have op := (op.le h16_2).ch h16_3 (fun q hq => by cases hq; exact npt)
                        refine W.nil ?_
                        refine E.thenN ?_
                        refine WC.seq ?_
                        refine WC.seq ?_
                        refine WC.region ?_
                        refine W.any (.move rfl) rfl rfl rfl ?_
                        refine W.any (.add rfl rfl (by omega)) rfl rfl rfl ?_
                        refine W.any (.move rfl) rfl rfl rfl ?_
                        refine W.any (.lss rfl rfl) rfl rfl rfl ?_
                        refine W.nil ?_
                        refine E.thenN ?_
                        refine WC.cond rfl (fun c4 => ?_) (fun c4 => ?_)
                        · refine WC.draw [0, 1, 2, 3, 4, 5, 6, 7, 8, 9, 10, 11, 12, 13, 14, 15] mixed (by kernel_rfl) ?_
                          intro w18 d18
                          have L18 := L16_3.trans d18
                          refine G.any rfl rfl (.move rfl) rfl rfl rfl ?_
                          refine G.any rfl rfl (.move rfl) rfl rfl rfl ?_
                          refine G.any rfl rfl (.move rfl) rfl rfl rfl ?_
                          refine G.any rfl rfl (.field0 fa70_0 rfl) rfl rfl rfl ?_
                          refine G.rd rfl rfl (.loadB na41 rfl (b13.le L18) (rfl)) rfl rfl rfl ?_
                          refine G.any rfl rfl (.move rfl) rfl rfl rfl ?_
                          refine G.any rfl rfl (.add rfl rfl (by omega)) rfl rfl rfl ?_
                          refine G.any rfl rfl (.idxB1 (k + 1) Try.underlying41 sz49 rfl rfl (rfl) (by omega)) rfl rfl rfl ?_
                          refine G.rd rfl rfl (.loadB na49 rfl (bp.le L18) (getpB pts (by omega))) rfl rfl rfl ?_
                          refine G.any rfl rfl (.field0 fa70_1 rfl) rfl rfl rfl ?_
                          refine G.rd rfl rfl (.loadB na55 rfl (b13.le L18) (rfl)) rfl rfl rfl ?_
                          refine G.any rfl rfl (.move rfl) rfl rfl rfl ?_
                          refine G.any rfl rfl (.idxS1 (k) Try.underlying55 sz48 rfl rfl (sb.isSome (j := k) (by omega) (by decide)) (rfl) (by omega)) rfl rfl rfl ?_
                          refine G.rd rfl rfl (.loadS na48 rfl (sb.le L18) (getp bl (by omega))) rfl rfl rfl ?_
                          refine G.any rfl rfl (.buildF pl51 z51 rfl (show Instr.fill _ _ _ = some (hopV ((k : Int), (k : Int), amount, 0, pts.getD (k + 1) 0, bl.getD k 0)).toArray from rfl)) rfl rfl rfl ?_
                          refine G.ef0 rfl rfl rfl rfl ?_
                          refine Ef.storeAll sz51 (by rfl) rfl rfl (b16_3.le d18) (by rfl) (hopV_one _) ?_
                          intro w18_15 b18_15 h18_15
                          have L18_15 : Le wc w18_15 := L18.then_ h18_15 (fun q hq => by cases hq; exact Nat.le_trans L15_7.size hg16_2)
                          refine ⟨fun h => absurd h (ne_true_of_eq_false (by kernel_rfl)), ?_⟩
                          have bh : Blk w18_15 g16_2 51 (hopV (lockHop pts bl n amount k)).toArray := b18_15.cast (by rw [lockHop, if_pos (by omega)])
                          have oh := (oh.le d18).ch h18_15 (fun q hq => by cases hq; exact nh)
                          have op := (op.le d18).ch h18_15 (fun q hq => by cases hq; exact npt)
                          refine G.nil ?_
                          refine E.thenN ?_
                          refine WC.region ?_
                          refine W.any (.move rfl) rfl rfl rfl ?_
                          refine W.rd (.loadAll ag51 (by rfl) rfl (bh)) rfl rfl rfl ?_
                          refine W.ef rfl rfl rfl ?_
                          refine Ef.buildSliceA Try.underlying42 el51 (by decide) rfl (by rfl) ?_
                          intro g19_2 w19_2 hg19_2 b19_2 h19_2
                          have L19_2 := L18_15.trans h19_2
                          refine W.ef rfl rfl rfl ?_
                          refine Ef.append Try.underlying42 el51 rfl (oh.le h19_2) rfl (b19_2.srcA Try.underlying42 (by rfl) (by decide) (hopV_one _)) (by omega) (by unfold maxLen; omega) (L19_2.size) ?_
                          intro A19_3 c19_3 w19_3 o19_3 h19_3 at19_3
                          have L19_3 : Le wc w19_3 := L19_2.then_ h19_3 (fun q hq => (oh.row hq).1)
                          have op3 := (op.le h19_2).ch h19_3 (fun q hq he => dj2 q he hq)
                          have dj3 : ∀ g, rowOf A15_7 c15_7 = some g → rowOf A19_3 c19_3 ≠ some g := fun g hg => at19_3.off (by have := (op.row hg).2; have := h19_2.size; omega) (dj2 g hg)
                          refine W.any (.assign rfl) rfl rfl rfl ?_
                          refine W.nil ?_
                          refine E.blkN ?_
                          refine E.thenN ?_
                          refine WC.region ?_
                          refine W.any (.move rfl) rfl rfl rfl ?_
                          refine W.any (.add rfl rfl (by omega)) rfl rfl rfl ?_
                          refine W.any (.assign rfl) rfl rfl rfl ?_
                          refine W.nil ?_
                          refine E.again (k + 1, (A19_3, c19_3), A15_7, c15_7) (.cons rfl (.cons rfl (.cons rfl (.cons rfl (.cons rfl (.cons rfl (.cons rfl (.cons rfl (.cons rfl (.cons rfl (.nil _))))))))))) ?_ ?_
                          · exact ⟨by omega, L19_3, o19_3.cast rfl (by rw [lockHops_succ]; simp), op3.cast rfl (by rw [map_snoc base ks k _ hx, List.map_append]; rfl), dj3, fun x hxm => by
                              rw [List.take_add_one, hx] at hxm
                              rcases List.mem_append.1 hxm with hxm | hxm
                              · exact hall x hxm
                              · simp at hxm; subst hxm; exact ⟨by simpa using hz, by simpa [q_def] using hlt⟩⟩
                          · first | omega | (simp only []; omega)
                        · have bh : Blk w16_3 g16_2 51 (hopV (lockHop pts bl n amount k)).toArray := b16_3.cast (by rw [lockHop, if_neg (by omega)])
                          refine WC.skip ?_
                          refine E.thenN ?_
                          refine WC.region ?_
                          refine W.any (.move rfl) rfl rfl rfl ?_
                          refine W.rd (.loadAll ag51 (by rfl) rfl (bh)) rfl rfl rfl ?_
                          refine W.ef rfl rfl rfl ?_
                          refine Ef.buildSliceA Try.underlying42 el51 (by decide) rfl (by rfl) ?_
                          intro g19_2 w19_2 hg19_2 b19_2 h19_2
                          have L19_2 := L16_3.trans h19_2
                          refine W.ef rfl rfl rfl ?_
                          refine Ef.append Try.underlying42 el51 rfl (oh.le h19_2) rfl (b19_2.srcA Try.underlying42 (by rfl) (by decide) (hopV_one _)) (by omega) (by unfold maxLen; omega) (L19_2.size) ?_
                          intro A19_3 c19_3 w19_3 o19_3 h19_3 at19_3
                          have L19_3 : Le wc w19_3 := L19_2.then_ h19_3 (fun q hq => (oh.row hq).1)
                          have op3 := (op.le h19_2).ch h19_3 (fun q hq he => dj2 q he hq)
                          have dj3 : ∀ g, rowOf A15_7 c15_7 = some g → rowOf A19_3 c19_3 ≠ some g := fun g hg => at19_3.off (by have := (op.row hg).2; have := h19_2.size; omega) (dj2 g hg)
                          refine W.any (.assign rfl) rfl rfl rfl ?_
                          refine W.nil ?_
                          refine E.blkN ?_
                          refine E.thenN ?_
                          refine WC.region ?_
                          refine W.any (.move rfl) rfl rfl rfl ?_
                          refine W.any (.add rfl rfl (by omega)) rfl rfl rfl ?_
                          refine W.any (.assign rfl) rfl rfl rfl ?_
                          refine W.nil ?_
                          refine E.again (k + 1, (A19_3, c19_3), A15_7, c15_7) (.cons rfl (.cons rfl (.cons rfl (.cons rfl (.cons rfl (.cons rfl (.cons rfl (.cons rfl (.cons rfl (.cons rfl (.nil _))))))))))) ?_ ?_
                          · exact ⟨by omega, L19_3, o19_3.cast rfl (by rw [lockHops_succ]; simp), op3.cast rfl (by rw [map_snoc base ks k _ hx, List.map_append]; rfl), dj3, fun x hxm => by
                              rw [List.take_add_one, hx] at hxm
                              rcases List.mem_append.1 hxm with hxm | hxm
                              · exact hall x hxm
                              · simp at hxm; subst hxm; exact ⟨by simpa using hz, by simpa [q_def] using hlt⟩⟩
                          · first | omega | (simp only []; omega)
                      · refine W.rdg (Any.rd (.dec (.geq rfl rfl) (decide_eq_true (by omega))) _) rfl rfl rfl (rfl) rfl rfl ?_
                        refine W.any (.pickF rfl rfl rfl) rfl rfl rfl ?_
                        refine W.nil ?_
                        refine E.thenN ?_
                        refine WC.condT rfl ?_
                        refine WC.seq ?_
                        refine WC.region ?_
                        refine W.any (.move rfl) rfl rfl rfl ?_
                        refine W.any (.assign rfl) rfl rfl rfl ?_
                        refine W.nil ?_
                        refine E.thenN ?_
                        refine WC.ret ?_
                        refine E.thenR ?_
                        refine E.blkR ?_
                        refine E.thenR ?_
                        refine E.thenR ?_
                        refine E.blkR ?_
                        refine E.thenR ?_
                        refine E.ret1 rfl rfl ?_
                        exact ⟨rfl, hL0.trans (Lc.trans Ll)⟩
                  · have hkn : n = k := by omega
                    subst hkn
                    rw [List.take_of_length_le (by omega)] at op hall
                    refine WC.exit ?_
                    refine E.thenX ?_
                    refine E.thenX ?_
                    refine E.blkH ?_
                    refine E.thenN ?_
                    refine WC.seq ?_
                    refine WC.region ?_
                    refine W.any (.move rfl) rfl rfl rfl ?_
                    refine W.any (.move rfl) rfl rfl rfl ?_
                    refine W.rd (.loadAll ag23 (by simp [hot]) rfl (bot.le (Lc.trans Ll))) rfl rfl rfl ?_
                    have hpts : ∀ k ∈ ks.map base, k < 18446744073709551616 := fun k hk => by obtain ⟨x, _, rfl⟩ := List.mem_map.1 hk; exact base_lt x
                    have hkok := keysOk_base ks hall (by omega) (by omega)
                    have hhok : hopsOk (ks.map base) (lockHops pts bl n amount n) = true := by
                      have := lockOk ks pts bl amount (by omega) (fun i hi => hprt (i + 1) (by omega)) hblt (by omega)
                      rwa [hkl] at this
                    have hhs : ∀ h ∈ (lockHops pts bl n amount n), HopOk h := fun h hh => by obtain ⟨i, _, rfl⟩ := List.mem_map.1 hh; exact lockHop_ok _ _ _ _ _ (by omega) hplt hblt (by omega)
                    have hlat : ∀ i, i < n → (lockHops pts bl n amount n).getD i noHop = lockHop pts bl n amount i := fun i hi => lockHops_at _ _ _ _ _ _ hi
                    have hhl : (lockHops pts bl n amount n).length = n := lockHops_length _ _ _ _ _
                    generalize (lockHops pts bl n amount n) = hs at *
                    have hH : Rws wl 6 Ah n (hs.map hopV) := oh.rws (by rw [List.length_map, hhl]) (fun r hr => by obtain ⟨h, _, rfl⟩ := List.mem_map.1 hr; rfl)
                    refine W.ef rfl rfl rfl ?_
                    refine Ef.call go27 rfl rfl (wrap_T other hot wl op.sl hpts (by omega) hH hhs (by omega) (by rw [hkok, hhok]; rfl)) ?_
                    rintro _ w20_3 ⟨Aw, cw, rfl, ow, h20_3⟩
                    refine ⟨_, rfl, ?_⟩
                    have L20_3 := Ll.trans h20_3
                    have hpk := fun i hi => peel_at ks hs other hall hhok hhs (by omega) i hi
                    have hpl2 := fun i hi => pkt_length (ks.map base) hs other (by simp; omega) (by simp; omega) i hi
                    have hp0 := pkt_zero (ks.map base) hs other (by simp; omega)
                    rw [← hp0] at ow
                    have hwl : (wayB (startX other) (ks.map base)).length = n := by rw [wayB_length, List.length_map, hkl]
                    have hwsum := wayB_sum (ks.map base) (startX other)
                    have LW := Le.refl w20_3
                    have hLw := hL0.trans (Lc.trans L20_3)
                    have hKw := hKc.le L20_3
                    have b13 := b13.le L20_3
                    have bp := bp.le L20_3
                    have hH := hH.le h20_3
                    refine W.any (.move rfl) rfl rfl rfl ?_
                    refine W.any (.extract rfl rfl) rfl rfl rfl ?_
                    refine W.any (.extract rfl rfl) rfl rfl rfl ?_
                    refine W.any (.assign rfl) rfl rfl rfl ?_
                    refine W.any (.assign rfl) rfl rfl rfl ?_
                    refine W.nil ?_
                    refine E.thenN ?_
                    refine WC.seq ?_
                    refine WC.seq ?_
                    refine WC.region ?_
                    refine W.any (.move rfl) rfl rfl rfl ?_
                    refine W.any (.dec (.neq rfl rfl) (decide_eq_false (by decide))) rfl rfl rfl ?_
                    refine W.nil ?_
                    refine E.thenN ?_
                    refine WC.condF rfl ?_
                    refine WC.skip ?_
                    refine E.thenN ?_
                    refine WC.seq ?_
                    refine WC.region ?_
                    refine W.any (.assign rfl) rfl rfl rfl ?_
                    refine W.nil ?_
                    refine E.thenN ?_
                    refine WC.seq ?_
                    refine WC.seq ?_
                    refine WC.region ?_
                    refine W.any (.assign rfl) rfl rfl rfl ?_
                    refine W.nil ?_
                    refine E.thenN ?_
                    refine WC.block ?_
                    refine WC.loop (ι := Nat × (Option Addr × Nat × Nat) × Option Addr × Nat) (fun ⟨i, ⟨Ak, m, ck⟩, Az, cz⟩ => [(0, .slice A n c), (1, .int .u64 ((s : Nat) : Int)), (11, .bool true), (12, .int .i64 (n : Int)), (13, .pointer (some ⟨g13, 0, none⟩)), (15, .slice Ah n ch), (19, .slice Ak m ck), (21, .slice Az (min i (n - 1)) cz), (22, .int .i64 (i : Int))]) (fun ⟨i, ⟨Ak, m, ck⟩, Az, cz⟩ wm => i ≤ n ∧ Le w20_3 wm ∧ Sb wm Ak m (pkt (ks.map base) hs other i) ∧ m ≤ ck ∧ Sx.Own wm w20_3.heap.size 48 1 Az (min i (n - 1)) cz ((bl.take i).map pv)) (fun ⟨i, ⟨Ak, m, ck⟩, Az, cz⟩ => n - i) (0, (Aw, 680, cw), none, 0) ?_ ?_ ?_
                    · exact .cons rfl (.cons rfl (.cons rfl (.cons rfl (.cons rfl (.cons rfl (.cons rfl (.cons' rfl (slice_eq (by omega)) (.cons rfl (.nil _)))))))))
                    · exact ⟨Nat.zero_le _, LW, ow.sb, ow.cap.1, (Own.nil _ _ _ _ _).cast (by omega) rfl⟩
                    · rintro ⟨i, ⟨Ak, m, ck⟩, Az, cz⟩ wm ⟨hi, Lm, sk, hck, oz⟩
                      refine WC.seq ?_
                      refine WC.seq ?_
                      refine WC.region ?_
                      refine W.any (.move rfl) rfl rfl rfl ?_
                      refine W.any (.move rfl) rfl rfl rfl ?_
                      refine W.any (.lss rfl rfl) rfl rfl rfl ?_
                      refine W.nil ?_
                      refine E.thenN ?_
                      refine WC.cond rfl (fun c6 => ?_) (fun c6 => ?_)
                      · have hin : i < n := by omega
                        have hm680 : m = 680 := by have := sk.len; rw [hpl2 i (by simp; omega)] at this; omega
                        have hoi := getn ks (show i < ks.length by omega)
                        have hpi := hpk i (by omega)
                        have hol2 : ks.getD i 0 < 18446744073709551616 := Nat.lt_trans (hall _ (List.mem_of_getElem? hoi)).2 q_lt
                        have hq32 : (((wayB (startX other) (ks.map base)).getD i (0, [])).2).length = 32 := hwsum _ (List.mem_of_getElem? (getst _ (by omega)))
                        generalize ((wayB (startX other) (ks.map base)).getD i (0, [])).2 = qs at *
                        have hli := hlat i hin
                        refine WC.skip ?_
                        refine E.thenN ?_
                        refine WC.seq ?_
                        refine WC.block ?_
                        refine WC.seq ?_
                        refine WC.region ?_
                        refine W.any (.move rfl) rfl rfl rfl ?_
                        refine W.any (.move rfl) rfl rfl rfl ?_
                        refine W.any (.idxS1 (i) Try.underlying55 sz48 rfl rfl (hK.isSome (j := i) (by omega) (by decide)) (rfl) (by omega)) rfl rfl rfl ?_
                        refine W.rd (.loadS na48 rfl (hKw.le Lm) (getp ks (by omega))) rfl rfl rfl ?_
                        refine W.any (.move rfl) rfl rfl rfl ?_
                        refine W.ef rfl rfl rfl ?_
                        refine Ef.call go31 rfl rfl (peel_ok _ hol2 wm sk hck) ?_
                        rintro _ w27_5 ⟨A27, m27, c27, e, s27, h27_5⟩
                        rw [hpi] at e s27; subst e
                        refine ⟨_, rfl, ?_⟩
                        have L27_5 := Lm.trans h27_5
                        refine W.any (.move rfl) rfl rfl rfl ?_
                        refine W.any (.extract rfl rfl) rfl rfl rfl ?_
                        refine W.any (.extract rfl rfl) rfl rfl rfl ?_
                        refine W.any (.extract rfl rfl) rfl rfl rfl ?_
                        refine W.any (.extract rfl rfl) rfl rfl rfl ?_
                        refine W.ef rfl rfl rfl ?_
                        refine Ef.allocA z51 ?_
                        intro g27_11 w27_11 hg27_11 b27_11 h27_11
                        have L27_11 := L27_5.trans h27_11
                        refine W.ef rfl rfl rfl ?_
                        refine Ef.allocA z23 ?_
                        intro g27_12 w27_12 hg27_12 b27_12 h27_12
                        have L27_12 := L27_11.trans h27_12
                        refine W.ef0 rfl rfl ?_
                        refine Ef.storeAll sz51 (by rfl) rfl rfl (b27_11.le h27_12) (by rfl) (hopV_one _) ?_
                        intro w27_13 b27_13 h27_13
                        have L27_13 : Le w20_3 w27_13 := L27_12.then_ h27_13 (fun q hq => by cases hq; exact Nat.le_trans L27_5.size hg27_11)
                        refine W.any (.assign rfl) rfl rfl rfl ?_
                        refine W.ef0 rfl rfl ?_
                        refine Ef.storeAll sz23 (by simp [hq32]) rfl rfl (b27_12.ch h27_13 (by simp; have := b27_11.lt; omega)) (by simp [hq32]) (all_u8v _) ?_
                        intro w27_15 b27_15 h27_15
                        have L27_15 : Le w20_3 w27_15 := L27_13.then_ h27_15 (fun q hq => by cases hq; exact Nat.le_trans L27_11.size hg27_12)
                        have bh27 := b27_13.ch h27_15 (by simp; have := b27_11.lt; omega)
                        have LP27 : Le w27_5 w27_15 := ((h27_11.trans h27_12).then_ h27_13 (fun q hq => by cases hq; exact hg27_11)).then_ h27_15 (fun q hq => by cases hq; exact Nat.le_trans h27_11.size hg27_12)
                        refine W.any (.assign rfl) rfl rfl rfl ?_
                        refine W.nil ?_
                        refine E.thenN ?_
                        refine WC.seq ?_
                        refine WC.seq ?_
                        refine WC.draw [0, 1, 2, 3, 4, 5, 6, 7, 8, 9] mixed (by kernel_rfl) ?_
                        intro w28 d28
                        have L28 := L27_15.trans d28
                        refine G.any rfl rfl (.move rfl) rfl rfl rfl ?_
                        refine G.any rfl rfl (.dec (.neq rfl rfl) (decide_eq_false (fun h => h rfl))) rfl rfl rfl ?_
                        refine G.any rfl rfl (.move rfl) rfl rfl rfl ?_
                        refine G.rdg rfl rfl (.loadAll ag51 (by rfl) rfl (bh27.le d28)) rfl rfl rfl (rfl) rfl rfl ?_
                        refine G.anyg rfl rfl (.move rfl) rfl rfl rfl (rfl) rfl rfl ?_
                        refine G.anyg rfl rfl (.move rfl) rfl rfl rfl (rfl) rfl rfl ?_
                        refine G.anyg rfl rfl (.idxS (i) Try.underlying42 sz51 rfl rfl (hH.isSome (by omega) (by decide)) (rfl) (by omega)) rfl rfl rfl (rfl) rfl rfl ?_
                        refine G.rdg rfl rfl (.loadR ag51 rfl (hH.le L28) (hopRows_at hs i (by omega)) (by decide)) rfl rfl rfl (rfl) rfl rfl ?_
                        refine G.anyg rfl rfl (.dec (.neA eg51 rfl rfl (eqv_hop (d := 9998) _ _)) (show _ = false from by rw [decide_eq_true rfl]; rfl)) rfl rfl rfl (rfl) rfl rfl ?_
                        refine G.any rfl rfl (.pickF rfl rfl rfl) rfl rfl rfl ?_
                        refine G.nil ?_
                        refine E.thenN ?_
                        refine WC.condF rfl ?_
                        refine WC.skip ?_
                        refine E.thenN ?_
                        refine WC.seq ?_
                        refine WC.seq ?_
                        refine WC.region ?_
                        refine W.any (.move rfl) rfl rfl rfl ?_
                        refine W.any (.add rfl rfl (by omega)) rfl rfl rfl ?_
                        refine W.any (.move rfl) rfl rfl rfl ?_
                        refine W.any (.lss rfl rfl) rfl rfl rfl ?_
                        refine W.nil ?_
                        refine E.thenN ?_
                        refine WC.cond rfl (fun c8 => ?_) (fun c8 => ?_)
                        · have hb4 : (hs.getD i noHop).2.2.2.2.1 = pts.getD (i + 1) 0 := by rw [hli, lockHop, if_pos (by omega)]
                          have hb5 : (hs.getD i noHop).2.2.2.2.2 = bl.getD i 0 := by rw [hli, lockHop, if_pos (by omega)]
                          have hbi := getn bl (show i < bl.length by omega)
                          have hp4 : (hs.getD i noHop).2.2.2.2.1 < 18446744073709551616 := by rw [hb4]; exact getD_lt hplt (by decide) _
                          have hadd : addP (hs.getD i noHop).2.2.2.2.1 (base (hs.getD i noHop).2.2.2.2.2) = pts.getD i 0 := by rw [hb4, hb5, hpat i (by omega)]
                          refine WC.seq ?_
                          refine WC.seq ?_
                          refine WC.draw [0, 1, 2, 3, 6, 7, 8, 9, 10, 4, 5, 11] mixed (by kernel_rfl) ?_
                          intro w31 d31
                          have L31 := L28.trans d31
                          have bh31 := (bh27.le d28).le d31
                          refine G.any rfl rfl (.field0 fa51_4 rfl) rfl rfl rfl ?_
                          refine G.rd rfl rfl (.loadB na49 rfl (bh31) (rfl)) rfl rfl rfl ?_
                          refine G.any rfl rfl (.field0 fa51_5 rfl) rfl rfl rfl ?_
                          refine G.rd rfl rfl (.loadB na48 rfl (bh31) (rfl)) rfl rfl rfl ?_
                          refine G.any rfl rfl (.field0 fa70_0 rfl) rfl rfl rfl ?_
                          refine G.rd rfl rfl (.loadB na41 rfl (b13.le L31) (rfl)) rfl rfl rfl ?_
                          refine G.any rfl rfl (.move rfl) rfl rfl rfl ?_
                          refine G.any rfl rfl (.idxB1 (i) Try.underlying41 sz49 rfl rfl (rfl) (by omega)) rfl rfl rfl ?_
                          refine G.rd rfl rfl (.loadB na49 rfl (bp.le L31) (getpB pts (by omega))) rfl rfl rfl ?_
                          refine G.ef rfl rfl rfl rfl rfl ?_
                          refine Ef.call go33 rfl rfl (base_ok _ w31) ?_
                          rintro _ w31_4 ⟨rfl, h31_4⟩
                          refine ⟨_, rfl, ?_⟩
                          have L31_4 := L31.trans h31_4
                          refine ⟨fun _ => h31_4, ?_⟩
                          refine G.ef rfl rfl rfl rfl rfl ?_
                          refine Ef.call go41 rfl rfl (padd_ok _ _ hp4 (base_lt _) w31_4) ?_
                          rintro _ w31_5 ⟨rfl, h31_5⟩
                          refine ⟨_, rfl, ?_⟩
                          have L31_5 := L31_4.trans h31_5
                          refine ⟨fun _ => h31_5, ?_⟩
                          refine G.any rfl rfl (.dec (.neq rfl rfl) (decide_eq_false (by rw [hadd]; simp))) rfl rfl rfl ?_
                          refine G.nil ?_
                          refine E.thenN ?_
                          refine WC.condF rfl ?_
                          refine WC.skip ?_
                          refine E.thenN ?_
                          refine WC.region ?_
                          refine W.any (.move rfl) rfl rfl rfl ?_
                          refine W.any (.field0 fa51_5 rfl) rfl rfl rfl ?_
                          refine W.rd (.loadB na48 rfl (bh31.le (h31_4.trans h31_5)) (rfl)) rfl rfl rfl ?_
                          refine W.ef rfl rfl rfl ?_
                          refine Ef.buildSlice1 Try.underlying55 el48 rfl rfl ?_
                          intro g33_3 w33_3 hg33_3 b33_3 h33_3
                          have L33_3 := L31_5.trans h33_3
                          have e33 : Le wm w33_3 := h27_5.trans (LP27.trans (d28.trans (d31.trans (h31_4.trans (h31_5.trans h33_3)))))
                          have sn0 := (s27.le LP27).le (d28.trans (d31.trans (h31_4.trans (h31_5.trans h33_3))))
                          refine W.ef rfl rfl rfl ?_
                          refine Ef.append Try.underlying55 el48 rfl (oz.le e33) rfl (b33_3.src1 Try.underlying55 rfl) (by omega) (by unfold maxLen; omega) (L33_3.size) ?_
                          intro A33_4 c33_4 w33_4 o33_4 h33_4 at33_4
                          have L33_4 : Le w20_3 w33_4 := L33_3.then_ h33_4 (fun q hq => (oz.row hq).1)
                          have sn := sn0.ch h33_4 (fun q hq he => by have := (oz.row hq).2; have := (s27.row he).1; omega)
                          refine W.any (.assign rfl) rfl rfl rfl ?_
                          refine W.nil ?_
                          refine E.thenN ?_
                          refine WC.region ?_
                          refine W.any (.move rfl) rfl rfl rfl ?_
                          refine W.any (.assign rfl) rfl rfl rfl ?_
                          refine W.nil ?_
                          refine E.blkN ?_
                          refine E.thenN ?_
                          refine WC.region ?_
                          refine W.any (.move rfl) rfl rfl rfl ?_
                          refine W.any (.add rfl rfl (by omega)) rfl rfl rfl ?_
                          refine W.any (.assign rfl) rfl rfl rfl ?_
                          refine W.nil ?_
                          refine E.again (i + 1, (A27, m27, c27), A33_4, c33_4) (.cons rfl (.cons rfl (.cons rfl (.cons rfl (.cons rfl (.cons rfl (.cons rfl (.cons' rfl (slice_eq (by omega)) (.cons rfl (.nil _)))))))))) ?_ ?_
                          · exact ⟨by omega, L33_4, sn.sb, s27.cap.1, o33_4.cast (by omega) (by rw [map_snoc pv bl i _ hbi, ← hb5]; rfl)⟩
                          · first | omega | (simp only []; omega)
                        · refine WC.skip ?_
                          refine E.thenN ?_
                          refine WC.region ?_
                          refine W.any (.move rfl) rfl rfl rfl ?_
                          refine W.any (.assign rfl) rfl rfl rfl ?_
                          refine W.nil ?_
                          refine E.blkN ?_
                          refine E.thenN ?_
                          refine WC.region ?_
                          refine W.any (.move rfl) rfl rfl rfl ?_
                          refine W.any (.add rfl rfl (by omega)) rfl rfl rfl ?_
                          refine W.any (.assign rfl) rfl rfl rfl ?_
                          refine W.nil ?_
                          refine E.again (i + 1, (A27, m27, c27), Az, cz) (.cons rfl (.cons rfl (.cons rfl (.cons rfl (.cons rfl (.cons rfl (.cons rfl (.cons' rfl (slice_eq (by omega)) (.cons rfl (.nil _)))))))))) ?_ ?_
                          · exact ⟨by omega, L28, ((s27.le LP27).le d28).sb, s27.cap.1, ((oz.le (h27_5.trans LP27)).le d28).cast (by omega) (by rw [List.take_of_length_le (by omega), List.take_of_length_le (by omega)])⟩
                          · first | omega | (simp only []; omega)
                      · have hih : n = i := by omega
                        subst hih
                        rw [List.take_of_length_le (by omega)] at oz
                        have b13 := b13.le Lm
                        have bp := bp.le Lm
                        have hLe := hLw.trans Lm
                        have LE := Le.refl wm
                        refine WC.exit ?_
                        refine E.thenX ?_
                        refine E.thenX ?_
                        refine E.blkH ?_
                        refine E.thenN ?_
                        refine WC.seq ?_
                        refine WC.region ?_
                        refine W.any (.move rfl) rfl rfl rfl ?_
                        refine W.any (.assign rfl) rfl rfl rfl ?_
                        refine W.nil ?_
                        refine E.thenN ?_
                        refine WC.seq ?_
                        refine WC.seq ?_
                        refine WC.region ?_
                        refine W.any (.move rfl) rfl rfl rfl ?_
                        refine W.any (.sub rfl rfl (by omega)) rfl rfl rfl ?_
                        refine W.any (.assign rfl) rfl rfl rfl ?_
                        refine W.nil ?_
                        refine E.thenN ?_
                        refine WC.block ?_
                        refine WC.loop (ι := Nat) (fun m => [(1, .int .u64 ((s : Nat) : Int)), (11, .bool true), (13, .pointer (some ⟨g13, 0, none⟩)), (21, .slice Az (min n (n - 1)) cz), (27, .int .u64 (((tP s bl).getD (m - 1) 0 : Nat) : Int)), (28, .int .i64 ((m : Int) - 1))]) (fun m wn => m ≤ n ∧ Le wm wn) (fun m => m) n ?_ ?_ ?_
                        · exact .cons rfl (.cons rfl (.cons rfl (.cons rfl (.cons' rfl (int_eq (congrArg Nat.cast (by have := tP_last s bl; rw [hbl] at this; exact this.symm))) (.cons rfl (.nil _))))))
                        · exact ⟨Nat.le_refl _, LE⟩
                        · rintro m wn ⟨hm, Ln⟩
                          refine WC.seq ?_
                          refine WC.seq ?_
                          refine WC.region ?_
                          refine W.any (.move rfl) rfl rfl rfl ?_
                          refine W.any (.geq rfl rfl) rfl rfl rfl ?_
                          refine W.nil ?_
                          refine E.thenN ?_
                          refine WC.cond rfl (fun c10 => ?_) (fun c10 => ?_)
                          · have hm1 : 0 < m := by omega
                            refine WC.skip ?_
                            refine E.thenN ?_
                            refine WC.seq ?_
                            refine WC.block ?_
                            refine WC.seq ?_
                            refine WC.seq ?_
                            refine WC.region ?_
                            refine W.any (.field0 fa70_0 rfl) rfl rfl rfl ?_
                            refine W.rd (.loadB na41 rfl (b13.le Ln) (rfl)) rfl rfl rfl ?_
                            refine W.any (.move rfl) rfl rfl rfl ?_
                            refine W.any (.idxB1 (m - 1) Try.underlying41 sz49 rfl rfl (by omega) (by omega)) rfl rfl rfl ?_
                            refine W.rd (.loadB na49 rfl (bp.le Ln) (getpB pts (by omega))) rfl rfl rfl ?_
                            refine W.any (.move rfl) rfl rfl rfl ?_
                            refine W.ef rfl rfl rfl ?_
                            refine Ef.call go42 rfl rfl (shows_ok _ _ (getD_lt hplt (by decide) _) (hprt (m - 1) (by omega)) (hpbt (m - 1) (by omega)) wn) ?_
                            rintro _ w39_6 ⟨rfl, h39_6⟩
                            refine ⟨_, rfl, ?_⟩
                            have L39_6 := Ln.trans h39_6
                            refine W.any (.not rfl) rfl rfl rfl ?_
                            refine W.nil ?_
                            refine E.thenN ?_
                            refine WC.condF rfl ?_
                            refine WC.skip ?_
                            refine E.thenN ?_
                            refine WC.seq ?_
                            refine WC.region ?_
                            refine W.any (.move rfl) rfl rfl rfl ?_
                            refine W.any (.gtr rfl rfl) rfl rfl rfl ?_
                            refine W.nil ?_
                            refine E.thenN ?_
                            refine WC.cond rfl (fun c12 => ?_) (fun c12 => ?_)
                            · refine WC.region ?_
                              refine W.any (.move rfl) rfl rfl rfl ?_
                              refine W.any (.move rfl) rfl rfl rfl ?_
                              refine W.any (.move rfl) rfl rfl rfl ?_
                              refine W.any (.sub rfl rfl (by omega)) rfl rfl rfl ?_
                              refine W.any (.idxS1 (m - 2) Try.underlying55 sz48 rfl rfl (oz.sl.isSome (j := m - 2) (by omega) (by decide)) (by omega) (by omega)) rfl rfl rfl ?_
                              refine W.rd (.loadS na48 rfl (oz.sl.le L39_6) (getp bl (by omega))) rfl rfl rfl ?_
                              refine W.ef rfl rfl rfl ?_
                              refine Ef.call go43 rfl rfl (pback_ok _ _ w39_6) ?_
                              rintro _ w42_6 ⟨rfl, h42_6⟩
                              refine ⟨_, rfl, ?_⟩
                              have L42_6 := L39_6.trans h42_6
                              refine W.any (.assign rfl) rfl rfl rfl ?_
                              refine W.nil ?_
                              refine E.blkN ?_
                              refine E.thenN ?_
                              refine WC.region ?_
                              refine W.any (.move rfl) rfl rfl rfl ?_
                              refine W.any (.sub rfl rfl (by omega)) rfl rfl rfl ?_
                              refine W.any (.assign rfl) rfl rfl rfl ?_
                              refine W.nil ?_
                              refine E.again (m - 1) (.cons rfl (.cons rfl (.cons rfl (.cons rfl (.cons' rfl (int_eq (congrArg Nat.cast (by rw [tP_at s bl (m - 1 - 1) (by omega), show m - 1 - 1 + 1 = m - 1 by omega, show m - 2 = m - 1 - 1 by omega]))) (.cons' rfl (int_eq (by omega)) (.nil _))))))) ?_ ?_
                              · exact ⟨by omega, L42_6⟩
                              · first | omega | (simp only []; omega)
                            · refine WC.skip ?_
                              refine E.blkN ?_
                              refine E.thenN ?_
                              refine WC.region ?_
                              refine W.any (.move rfl) rfl rfl rfl ?_
                              refine W.any (.sub rfl rfl (by omega)) rfl rfl rfl ?_
                              refine W.any (.assign rfl) rfl rfl rfl ?_
                              refine W.nil ?_
                              refine E.again (m - 1) (.cons rfl (.cons rfl (.cons rfl (.cons rfl (.cons' rfl (int_eq (congrArg Nat.cast (by rw [show m - 1 - 1 = m - 1 by omega]))) (.cons' rfl (int_eq (by omega)) (.nil _))))))) ?_ ?_
                              · exact ⟨by omega, L39_6⟩
                              · first | omega | (simp only []; omega)
                          · have hm0 : m = 0 := by omega
                            subst hm0
                            refine WC.exit ?_
                            refine E.thenX ?_
                            refine E.thenX ?_
                            refine E.blkH ?_
                            refine E.thenN ?_
                            refine WC.seq ?_
                            refine WC.region ?_
                            refine W.any (.move rfl) rfl rfl rfl ?_
                            refine W.any (.move rfl) rfl rfl rfl ?_
                            refine W.rdg (Any.rd (.move rfl) _) rfl rfl rfl (rfl) rfl rfl ?_
                            refine W.rdg (Any.rd (.move rfl) _) rfl rfl rfl (rfl) rfl rfl ?_
                            refine W.efg rfl rfl rfl (rfl) rfl rfl ?_
                            refine Ef.call go44 rfl rfl (proof_ok _ wn (oz.sl.le Ln) (by omega)) ?_
                            rintro _ w43_4 ⟨rfl, h43_4⟩
                            refine ⟨_, rfl, ?_⟩
                            have L43_4 := Ln.trans h43_4
                            refine W.rdg (Any.rd (.move rfl) _) rfl rfl rfl (rfl) rfl rfl ?_
                            refine W.rdg (Any.rd (.dec (.eql rfl rfl) (decide_eq_true (congrArg Nat.cast (proof_back s bl q4)))) _) rfl rfl rfl (rfl) rfl rfl ?_
                            refine W.any (.pickT rfl rfl rfl) rfl rfl rfl ?_
                            refine W.any (.assign rfl) rfl rfl rfl ?_
                            refine W.nil ?_
                            refine E.thenN ?_
                            refine WC.ret ?_
                            refine E.ret1 rfl rfl ?_
                            exact ⟨rfl, hLe.trans L43_4⟩
        · refine W.rdg (Any.rd (.dec (.geq rfl rfl) (decide_eq_true (by omega))) _) rfl rfl rfl (rfl) rfl rfl ?_
          refine W.any (.pickF rfl rfl rfl) rfl rfl rfl ?_
          refine W.any (.move rfl) rfl rfl rfl ?_
          refine W.skip rfl rfl rfl (rfl) rfl rfl ?_
          refine W.skip rfl rfl rfl (rfl) rfl rfl ?_
          refine W.any (.pickT rfl rfl rfl) rfl rfl rfl ?_
          refine W.any (.move rfl) rfl rfl rfl ?_
          refine W.skip rfl rfl rfl (rfl) rfl rfl ?_
          refine W.skip rfl rfl rfl (rfl) rfl rfl ?_
          refine W.any (.pickT rfl rfl rfl) rfl rfl rfl ?_
          refine W.nil ?_
          refine E.thenN ?_
          refine WC.condT rfl ?_
          refine WC.seq ?_
          refine WC.region ?_
          refine W.any (.move rfl) rfl rfl rfl ?_
          refine W.any (.assign rfl) rfl rfl rfl ?_
          refine W.nil ?_
          refine E.thenN ?_
          refine WC.ret ?_
          refine E.thenR ?_
          refine E.ret1 rfl rfl ?_
          exact ⟨rfl, hL0.trans L1_0⟩
end Go.Proofs.Ytpmjdiccekkadaa
