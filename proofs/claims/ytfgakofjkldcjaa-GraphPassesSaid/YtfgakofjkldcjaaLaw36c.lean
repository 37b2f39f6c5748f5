/- The statement GraphProofs walked: it answers true and leaves old memory as it was. -/
import Derived.Test.YtfgakofjkldcjaaSmall36
import Derived.Test.YtfgakofjkldcjaaGsp2
import Derived.Test.YtfgakofjkldcjaaGsp2
namespace Go.Proofs.Ytfgakofjkldcjaa
open Go Go.Sx Go.Hsp Go.Num Go.Osp Go.Gsp
set_option maxRecDepth 20000
set_option linter.unusedSimpArgs false
set_option linter.unusedVariables false

theorem hopsL_at (w : List Gsp.Edge) (s t : List Int) (p b : List Nat) (a x : Int) (i : Nat) : (hopsL w s t p b a x).getD i noHop = if i < w.length - 1 then hopAt w s t p b i else if i = w.length - 1 then (-1, 0, a, x, p.getD (w.length - 1) 0, 0) else noHop := by
  unfold hopsL
  by_cases h : i < w.length - 1
  · rw [if_pos h]; simp [List.getD, List.getElem?_append_left, h]
  · rw [if_neg h]
    by_cases h2 : i = w.length - 1
    · rw [if_pos h2, h2]; simp [List.getD]
    · rw [if_neg h2, List.getD_eq_getElem?_getD, List.getElem?_eq_none (by simp; omega)]; rfl
theorem hopsG_ok {w : List Gsp.Edge} {a x : Int} {p b : List Nat} (h : (hopsG w a x p b).2 = 0) : (costG w a x).2.2 = 0 ∧ p.length = w.length ∧ b.length = w.length - 1 ∧ (hopsG w a x p b).1 = hopsL w (costG w a x).1 (costG w a x).2.1 p b a x ∧ (hopsG w a x p b).1.length = w.length := by
  by_cases h1 : (costG w a x).2.2 = 0
  · by_cases h2 : p.length ≠ w.length ∨ b.length ≠ w.length - 1
    · rw [hopsG, if_neg (by simpa using h1), if_pos h2] at h; simp at h
    · have e : hopsG w a x p b = (hopsL w (costG w a x).1 (costG w a x).2.1 p b a x, 0) := by rw [hopsG, if_neg (by simpa using h1), if_neg h2]
      rw [e]
      have := (costs_of h1).len
      refine ⟨h1, by omega, by omega, rfl, by simp [hopsL]; omega⟩
  · rw [hopsG, if_pos h1] at h; exact absurd h h1
theorem hopsG_bad {w : List Gsp.Edge} {a x : Int} {p b : List Nat} (h : (hopsG w a x p b).2 ≠ 0) : (hopsG w a x p b).1 = [] := by
  unfold hopsG at *
  split
  · rfl
  · split
    · rfl
    · rename_i h1 h2; rw [if_neg h1, if_neg h2] at h; exact absurd rfl h
theorem pnewF_ok (p : Nat) (hp : p < 18446744073709551616) (seed : List Byte) (n : Nat) (h : ¬ (right p = true ∧ p ≠ 1 ∧ 1 ≤ n ∧ n ≤ 8)) (w : World) : Calls Try.prog 48 #[.int .u64 (((p : Nat) : Int)), .agg (seed.map u8v).toArray, .int .i64 (((n : Nat) : Int))] w fun r w' => r = .returned (.tuple #[.agg #[.slice none 0 0, .slice none 0 0], .bool false]) ∧ Le w w' := by
  refine enter Try.func48 rfl rfl ?_
  have L0 := Le.refl w
  refine WC.seq ?_
  refine WC.region ?_
  refine W.ef rfl rfl rfl ?_
  refine Ef.boxA rfl ?_
  intro g0_0 w0_0 hg0_0 b0_0 h0_0
  have L1 := L0.trans h0_0
  have b0_0 : Blk w0_0 g0_0 89 (seed.map u8v).toArray := b0_0
  refine W.ef rfl rfl rfl ?_
  refine Ef.allocA z63 ?_
  intro g0_1 w0_1 hg0_1 b0_1 h0_1
  have L2 := L1.trans h0_1
  have b0_1 : Blk w0_1 g0_1 63 #[.slice none 0 0, .slice none 0 0] := b0_1
  refine W.any (.assign rfl) rfl rfl rfl ?_
  refine W.nil ?_
  refine E.thenN ?_
  refine WC.seq ?_
  refine WC.seq ?_
  refine WC.region ?_
  refine W.any (.move rfl) rfl rfl rfl ?_
  refine W.ef rfl rfl rfl ?_
  refine Ef.call go90 rfl rfl (pright_ok p (by omega) w0_1) ?_
  rintro _ w1_1 ⟨rfl, h1_1⟩
  refine ⟨_, rfl, ?_⟩
  have L3 := L2.trans h1_1
  refine W.any (.not rfl) rfl rfl rfl ?_
  by_cases q1_3 : right p = true
  · refine W.any (.dec (.move rfl) (congrArg not (q1_3))) rfl rfl rfl ?_
    refine W.rdg (Any.rd (.move rfl) _) rfl rfl rfl (rfl) rfl rfl ?_
    refine W.rdg (Any.rd (.eql rfl rfl) _) rfl rfl rfl (rfl) rfl rfl ?_
    refine W.any (.pickF rfl rfl rfl) rfl rfl rfl ?_
    by_cases q1_7 : ((p : Nat) : Int) = 1
    · refine W.any (.dec (.move rfl) (decide_eq_true q1_7)) rfl rfl rfl ?_
      refine W.skip rfl rfl rfl (rfl) rfl rfl ?_
      refine W.skip rfl rfl rfl (rfl) rfl rfl ?_
      refine W.any (.pickT rfl rfl rfl) rfl rfl rfl ?_
      refine W.any (.move rfl) rfl rfl rfl ?_
      refine W.skip rfl rfl rfl (rfl) rfl rfl ?_
      refine W.skip rfl rfl rfl (rfl) rfl rfl ?_
      refine W.any (.pickT rfl rfl rfl) rfl rfl rfl ?_
      refine W.nil ?_
      refine E.thenN ?_
      refine WC.condT rfl ?_
      refine WC.seq ?_
      refine WC.region ?_
      refine W.any (.buildP [.slice none 0 0, .slice none 0 0] pl63 z63 rfl rfl) rfl rfl rfl ?_
      have f4 := (b0_1.le h1_1)
      refine W.ef0 rfl rfl ?_
      refine Ef.storeAll sz63 (by rfl) rfl rfl f4 (by rfl) (by simp [Value.oneCell']) ?_
      intro w2_1 b2_1 h2_1
      have b2_1 : Blk w2_1 g0_1 63 #[.slice none 0 0, .slice none 0 0] := b2_1
      have L5 : Le w w2_1 := L3.then_ h2_1 (fun q hq => by cases hq; exact Nat.le_trans L1.size hg0_1)
      refine W.any (.assign rfl) rfl rfl rfl ?_
      refine W.nil ?_
      refine E.thenN ?_
      refine WC.ret ?_
      refine E.thenR ?_
      refine E.retG2 rfl (resA rfl b2_1 ag63 (by rfl)) rfl ?_
      exact ⟨rfl, L5⟩
    · refine W.any (.dec (.move rfl) (decide_eq_false q1_7)) rfl rfl rfl ?_
      refine W.rdg (Any.rd (.move rfl) _) rfl rfl rfl (rfl) rfl rfl ?_
      refine W.rdg (Any.rd (.lss rfl rfl) _) rfl rfl rfl (rfl) rfl rfl ?_
      refine W.any (.pickF rfl rfl rfl) rfl rfl rfl ?_
      by_cases q1_11 : ((n : Nat) : Int) < 1
      · refine W.any (.dec (.move rfl) (decide_eq_true q1_11)) rfl rfl rfl ?_
        refine W.skip rfl rfl rfl (rfl) rfl rfl ?_
        refine W.skip rfl rfl rfl (rfl) rfl rfl ?_
        refine W.any (.pickT rfl rfl rfl) rfl rfl rfl ?_
        refine W.nil ?_
        refine E.thenN ?_
        refine WC.condT rfl ?_
        refine WC.seq ?_
        refine WC.region ?_
        refine W.any (.buildP [.slice none 0 0, .slice none 0 0] pl63 z63 rfl rfl) rfl rfl rfl ?_
        have f6 := (b0_1.le h1_1)
        refine W.ef0 rfl rfl ?_
        refine Ef.storeAll sz63 (by rfl) rfl rfl f6 (by rfl) (by simp [Value.oneCell']) ?_
        intro w2_1_1 b2_1_1 h2_1_1
        have b2_1_1 : Blk w2_1_1 g0_1 63 #[.slice none 0 0, .slice none 0 0] := b2_1_1
        have L7 : Le w w2_1_1 := L3.then_ h2_1_1 (fun q hq => by cases hq; exact Nat.le_trans L1.size hg0_1)
        refine W.any (.assign rfl) rfl rfl rfl ?_
        refine W.nil ?_
        refine E.thenN ?_
        refine WC.ret ?_
        refine E.thenR ?_
        refine E.retG2 rfl (resA rfl b2_1_1 ag63 (by rfl)) rfl ?_
        exact ⟨rfl, L7⟩
      · refine W.any (.dec (.move rfl) (decide_eq_false q1_11)) rfl rfl rfl ?_
        refine W.rdg (Any.rd (.move rfl) _) rfl rfl rfl (rfl) rfl rfl ?_
        refine W.rdg (Any.rd (.gtr rfl rfl) _) rfl rfl rfl (rfl) rfl rfl ?_
        refine W.any (.pickF rfl rfl rfl) rfl rfl rfl ?_
        refine W.nil ?_
        refine E.thenN ?_
        by_cases c0 : 8 < ((n : Nat) : Int)
        · refine WC.condY rfl (decide_eq_true c0) ?_
          refine WC.seq ?_
          refine WC.region ?_
          refine W.any (.buildP [.slice none 0 0, .slice none 0 0] pl63 z63 rfl rfl) rfl rfl rfl ?_
          have f8 := (b0_1.le h1_1)
          refine W.ef0 rfl rfl ?_
          refine Ef.storeAll sz63 (by rfl) rfl rfl f8 (by rfl) (by simp [Value.oneCell']) ?_
          intro w2_1_2 b2_1_2 h2_1_2
          have b2_1_2 : Blk w2_1_2 g0_1 63 #[.slice none 0 0, .slice none 0 0] := b2_1_2
          have L9 : Le w w2_1_2 := L3.then_ h2_1_2 (fun q hq => by cases hq; exact Nat.le_trans L1.size hg0_1)
          refine W.any (.assign rfl) rfl rfl rfl ?_
          refine W.nil ?_
          refine E.thenN ?_
          refine WC.ret ?_
          refine E.thenR ?_
          refine E.retG2 rfl (resA rfl b2_1_2 ag63 (by rfl)) rfl ?_
          exact ⟨rfl, L9⟩
        · refine WC.condN rfl (decide_eq_false c0) ?_
          exact absurd ⟨by assumption, by omega, by omega, by omega⟩ h
  · refine W.any (.dec (.move rfl) (congrArg not ((Bool.eq_false_iff.2 q1_3)))) rfl rfl rfl ?_
    refine W.skip rfl rfl rfl (rfl) rfl rfl ?_
    refine W.skip rfl rfl rfl (rfl) rfl rfl ?_
    refine W.any (.pickT rfl rfl rfl) rfl rfl rfl ?_
    refine W.any (.move rfl) rfl rfl rfl ?_
    refine W.skip rfl rfl rfl (rfl) rfl rfl ?_
    refine W.skip rfl rfl rfl (rfl) rfl rfl ?_
    refine W.any (.pickT rfl rfl rfl) rfl rfl rfl ?_
    refine W.any (.move rfl) rfl rfl rfl ?_
    refine W.skip rfl rfl rfl (rfl) rfl rfl ?_
    refine W.skip rfl rfl rfl (rfl) rfl rfl ?_
    refine W.any (.pickT rfl rfl rfl) rfl rfl rfl ?_
    refine W.nil ?_
    refine E.thenN ?_
    refine WC.condT rfl ?_
    refine WC.seq ?_
    refine WC.region ?_
    refine W.any (.buildP [.slice none 0 0, .slice none 0 0] pl63 z63 rfl rfl) rfl rfl rfl ?_
    have f10 := (b0_1.le h1_1)
    refine W.ef0 rfl rfl ?_
    refine Ef.storeAll sz63 (by rfl) rfl rfl f10 (by rfl) (by simp [Value.oneCell']) ?_
    intro w2_1_3 b2_1_3 h2_1_3
    have b2_1_3 : Blk w2_1_3 g0_1 63 #[.slice none 0 0, .slice none 0 0] := b2_1_3
    have L11 : Le w w2_1_3 := L3.then_ h2_1_3 (fun q hq => by cases hq; exact Nat.le_trans L1.size hg0_1)
    refine W.any (.assign rfl) rfl rfl rfl ?_
    refine W.nil ?_
    refine E.thenN ?_
    refine WC.ret ?_
    refine E.thenR ?_
    refine E.retG2 rfl (resA rfl b2_1_3 ag63 (by rfl)) rfl ?_
    exact ⟨rfl, L11⟩

theorem GraphProofs_F (a x : Int) (s : Nat) {seed : List Byte} (hse : seed.length = 32) {A : Option Addr} {n c : Nat} {xs : List Gsp.Edge} (w : World) (hV : Vec w edgeV 9 A n xs) (hnc : n ≤ c) (hn0 : n ≤ 9223372036854775807) (hT : ¬ (base s ≠ 1 ∧ 1 ≤ n ∧ n ≤ 8)) : Calls Try.prog 10 #[.slice A n c, .int .i64 (a), .int .i64 (x), .int .u64 (((s : Nat) : Int)), .agg (seed.map u8v).toArray] w fun r w' => r = .returned (.bool true) ∧ Le w w' := by
  have hl := hV.1
  refine enter Try.func10 rfl rfl ?_
  have L0 := Le.refl w
  refine WC.seq ?_
  refine WC.region ?_
  refine W.ef rfl rfl rfl ?_
  refine Ef.boxA rfl ?_
  intro g0_0 w0_0 hg0_0 b0_0 h0_0
  have L1 := L0.trans h0_0
  have b0_0 : Blk w0_0 g0_0 89 (seed.map u8v).toArray := b0_0
  refine W.any (.assign rfl) rfl rfl rfl ?_
  refine W.nil ?_
  refine E.thenN ?_
  refine WC.seq ?_
  refine WC.region ?_
  refine W.ef rfl rfl rfl ?_
  refine Ef.call go32 rfl rfl (small36_ok w0_0) ?_
  rintro _ w1_0 ⟨rfl, h1_0⟩
  refine ⟨_, rfl, ?_⟩
  have L2 := L1.trans h1_0
  refine W.any (.assign rfl) rfl rfl rfl ?_
  refine W.nil ?_
  refine E.thenN ?_
  refine WC.seq ?_
  refine WC.seq ?_
  refine WC.region ?_
  refine W.any (.move rfl) rfl rfl rfl ?_
  refine W.rd (.len Try.underlying59 rfl) rfl rfl rfl ?_
  refine W.any (.gtr rfl rfl) rfl rfl rfl ?_
  refine W.nil ?_
  refine E.thenN ?_
  by_cases c0 : 20 < ((n : Nat) : Int)
  · refine WC.condY rfl (decide_eq_true c0) ?_
    refine WC.seq ?_
    refine WC.region ?_
    refine W.any (.move rfl) rfl rfl rfl ?_
    refine W.any (.assign rfl) rfl rfl rfl ?_
    refine W.nil ?_
    refine E.thenN ?_
    refine WC.ret ?_
    refine E.thenR ?_
    refine E.retG1 rfl rfl ?_
    exact ⟨rfl, L2⟩
  · refine WC.condN rfl (decide_eq_false c0) ?_
    refine WC.skip ?_
    refine E.thenN ?_
    refine WC.seq ?_
    refine WC.drawT (fun o => (app o [0, 2, 3, 4] (.br (app o [1] (.br (app o [5, 6, 7, 8, 9, 10, 11] .nil) (app o [9, 5, 6, 7, 8, 10, 11] .nil))) (app o [9, 1, 5, 6, 7, 8, 10, 11] .nil)))) mixed (by kernel_rfl) ?_
    intro w4 d4
    have L3 := L2.trans d4
    refine GT.app ?_
    refine G.any rfl rfl (.move rfl) rfl rfl rfl ?_
    have f4 := (b0_0.le (h1_0.trans d4))
    refine G.rd rfl rfl (.loadAll ag89 (by simp [hse]) rfl f4) rfl rfl rfl ?_
    refine G.any rfl rfl (.move rfl) rfl rfl rfl ?_
    refine G.rd rfl rfl (.len Try.underlying59 rfl) rfl rfl rfl ?_
    refine G.nil ?_
    refine GT.br ?_ ?_
    · refine GT.app ?_
      refine G.ef rfl rfl rfl rfl rfl ?_
      refine Ef.call go49 rfl rfl (base_ok s w4) ?_
      rintro _ w4_1 ⟨rfl, h4_1⟩
      refine ⟨_, rfl, ?_⟩
      refine ⟨fun _ => h4_1, ?_⟩
      have L5 := L3.trans h4_1
      refine G.nil ?_
      refine GT.br ?_ ?_
      · refine GT.last ?_
        refine G.ef rfl rfl rfl rfl rfl ?_
        refine Ef.call go48 rfl rfl (pnewF_ok (base s) (base_lt s) seed n (fun h => hT h.2) w4_1) ?_
        rintro _ w4_5 ⟨rfl, h4_5⟩
        refine ⟨_, rfl, ?_⟩
        refine ⟨fun _ => h4_5, ?_⟩
        have L6 := L5.trans h4_5
        refine G.any rfl rfl (.move rfl) rfl rfl rfl ?_
        refine G.any rfl rfl (.extract (v := .agg #[.slice none 0 0, .slice none 0 0]) rfl rfl) rfl rfl rfl ?_
        refine G.any rfl rfl (.extract (v := .bool false) rfl rfl) rfl rfl rfl ?_
        refine G.ef rfl rfl rfl rfl rfl ?_
        refine Ef.allocA z63 ?_
        intro g4_9 w4_9 hg4_9 b4_9 h4_9
        refine ⟨fun _ => h4_9, ?_⟩
        have L7 := L6.trans h4_9
        have b4_9 : Blk w4_9 g4_9 63 #[.slice none 0 0, .slice none 0 0] := b4_9
        refine G.ef0 rfl rfl rfl rfl ?_
        refine Ef.storeAll sz63 (by rfl) rfl rfl b4_9 (by rfl) (by simp [Value.oneCell']) ?_
        intro w4_10 b4_10 h4_10
        refine ⟨fun h => absurd h (ne_true_of_eq_false (by kernel_rfl)), ?_⟩
        have b4_10 : Blk w4_10 g4_9 63 #[.slice none 0 0, .slice none 0 0] := b4_10
        have L8 : Le w w4_10 := L7.then_ h4_10 (fun q hq => by cases hq; exact Nat.le_trans L6.size hg4_9)
        refine G.any rfl rfl (.assign rfl) rfl rfl rfl ?_
        refine G.nil ?_
        refine E.thenN ?_
        refine WC.seq ?_
        refine WC.region ?_
        refine W.any (.move rfl) rfl rfl rfl ?_
        refine W.any (.move rfl) rfl rfl rfl ?_
        refine W.any (.move rfl) rfl rfl rfl ?_
        refine W.rd (.loadAll ag63 (by rfl) rfl b4_10) rfl rfl rfl ?_
        refine W.ef rfl rfl rfl ?_
        refine Ef.call go35 rfl rfl (hops_ok a x w4_10 (hV.le L8) (by omega) (Vec.nil _ _ _ _) (by omega) (Vec.nil _ _ _ _) (by omega) (by omega)) ?_
        rintro _ w5_4 ⟨Ah5_4, ch5_4, rfl, oh5_4, h5_4⟩
        refine ⟨_, rfl, ?_⟩
        have L9 := L8.trans h5_4
        have hokG := @hopsG_ok xs a x ([]) ([])
        have hbadG := @hopsG_bad xs a x ([]) ([])
        have hshG := hopsG_short xs a x ([]) ([])
        generalize hgenG : hopsG xs a x ([]) ([]) = G at *
        refine W.any (.move rfl) rfl rfl rfl ?_
        refine W.any (.extract (v := .slice Ah5_4 G.1.length ch5_4) rfl rfl) rfl rfl rfl ?_
        refine W.any (.extract (v := .int .i64 (G.2)) rfl rfl) rfl rfl rfl ?_
        refine W.any (.assign rfl) rfl rfl rfl ?_
        refine W.any (.assign rfl) rfl rfl rfl ?_
        refine W.nil ?_
        refine E.thenN ?_
        refine WC.seq ?_
        refine WC.seq ?_
        refine WC.region ?_
        refine W.any (.move rfl) rfl rfl rfl ?_
        refine W.any (.not rfl) rfl rfl rfl ?_
        refine W.any (.move rfl) rfl rfl rfl ?_
        refine W.skip rfl rfl rfl (rfl) rfl rfl ?_
        refine W.skip rfl rfl rfl (rfl) rfl rfl ?_
        refine W.any (.pickT rfl rfl rfl) rfl rfl rfl ?_
        refine W.nil ?_
        refine E.thenN ?_
        refine WC.condT rfl ?_
        refine WC.seq ?_
        refine WC.region ?_
        refine W.any (.move rfl) rfl rfl rfl ?_
        refine W.any (.assign rfl) rfl rfl rfl ?_
        refine W.nil ?_
        refine E.thenN ?_
        refine WC.ret ?_
        refine E.thenR ?_
        refine E.retG1 rfl rfl ?_
        exact ⟨rfl, L9⟩
      · refine GT.last ?_
        refine G.ef rfl rfl rfl rfl rfl ?_
        refine Ef.allocA z63 ?_
        intro g4_9_1 w4_9_1 hg4_9_1 b4_9_1 h4_9_1
        refine ⟨fun _ => h4_9_1, ?_⟩
        have L10 := L5.trans h4_9_1
        have b4_9_1 : Blk w4_9_1 g4_9_1 63 #[.slice none 0 0, .slice none 0 0] := b4_9_1
        refine G.ef rfl rfl rfl rfl rfl ?_
        refine Ef.call go48 rfl rfl (pnewF_ok (base s) (base_lt s) seed n (fun h => hT h.2) w4_9_1) ?_
        rintro _ w4_5_1 ⟨rfl, h4_5_1⟩
        refine ⟨_, rfl, ?_⟩
        refine ⟨fun _ => h4_5_1, ?_⟩
        have L11 := L10.trans h4_5_1
        refine G.any rfl rfl (.move rfl) rfl rfl rfl ?_
        refine G.any rfl rfl (.extract (v := .agg #[.slice none 0 0, .slice none 0 0]) rfl rfl) rfl rfl rfl ?_
        refine G.any rfl rfl (.extract (v := .bool false) rfl rfl) rfl rfl rfl ?_
        have f12 := (b4_9_1.le h4_5_1)
        refine G.ef0 rfl rfl rfl rfl ?_
        refine Ef.storeAll sz63 (by rfl) rfl rfl f12 (by rfl) (by simp [Value.oneCell']) ?_
        intro w4_10_1 b4_10_1 h4_10_1
        refine ⟨fun h => absurd h (ne_true_of_eq_false (by kernel_rfl)), ?_⟩
        have b4_10_1 : Blk w4_10_1 g4_9_1 63 #[.slice none 0 0, .slice none 0 0] := b4_10_1
        have L13 : Le w w4_10_1 := L11.then_ h4_10_1 (fun q hq => by cases hq; exact Nat.le_trans L5.size hg4_9_1)
        refine G.any rfl rfl (.assign rfl) rfl rfl rfl ?_
        refine G.nil ?_
        refine E.thenN ?_
        refine WC.seq ?_
        refine WC.region ?_
        refine W.any (.move rfl) rfl rfl rfl ?_
        refine W.any (.move rfl) rfl rfl rfl ?_
        refine W.any (.move rfl) rfl rfl rfl ?_
        refine W.rd (.loadAll ag63 (by rfl) rfl b4_10_1) rfl rfl rfl ?_
        refine W.ef rfl rfl rfl ?_
        refine Ef.call go35 rfl rfl (hops_ok a x w4_10_1 (hV.le L13) (by omega) (Vec.nil _ _ _ _) (by omega) (Vec.nil _ _ _ _) (by omega) (by omega)) ?_
        rintro _ w5_4_1 ⟨Ah5_4_1, ch5_4_1, rfl, oh5_4_1, h5_4_1⟩
        refine ⟨_, rfl, ?_⟩
        have L14 := L13.trans h5_4_1
        have hokG := @hopsG_ok xs a x ([]) ([])
        have hbadG := @hopsG_bad xs a x ([]) ([])
        have hshG := hopsG_short xs a x ([]) ([])
        generalize hgenG : hopsG xs a x ([]) ([]) = G at *
        refine W.any (.move rfl) rfl rfl rfl ?_
        refine W.any (.extract (v := .slice Ah5_4_1 G.1.length ch5_4_1) rfl rfl) rfl rfl rfl ?_
        refine W.any (.extract (v := .int .i64 (G.2)) rfl rfl) rfl rfl rfl ?_
        refine W.any (.assign rfl) rfl rfl rfl ?_
        refine W.any (.assign rfl) rfl rfl rfl ?_
        refine W.nil ?_
        refine E.thenN ?_
        refine WC.seq ?_
        refine WC.seq ?_
        refine WC.region ?_
        refine W.any (.move rfl) rfl rfl rfl ?_
        refine W.any (.not rfl) rfl rfl rfl ?_
        refine W.any (.move rfl) rfl rfl rfl ?_
        refine W.skip rfl rfl rfl (rfl) rfl rfl ?_
        refine W.skip rfl rfl rfl (rfl) rfl rfl ?_
        refine W.any (.pickT rfl rfl rfl) rfl rfl rfl ?_
        refine W.nil ?_
        refine E.thenN ?_
        refine WC.condT rfl ?_
        refine WC.seq ?_
        refine WC.region ?_
        refine W.any (.move rfl) rfl rfl rfl ?_
        refine W.any (.assign rfl) rfl rfl rfl ?_
        refine W.nil ?_
        refine E.thenN ?_
        refine WC.ret ?_
        refine E.thenR ?_
        refine E.retG1 rfl rfl ?_
        exact ⟨rfl, L14⟩
    · refine GT.last ?_
      refine G.ef rfl rfl rfl rfl rfl ?_
      refine Ef.allocA z63 ?_
      intro g4_9_2 w4_9_2 hg4_9_2 b4_9_2 h4_9_2
      refine ⟨fun _ => h4_9_2, ?_⟩
      have L15 := L3.trans h4_9_2
      have b4_9_2 : Blk w4_9_2 g4_9_2 63 #[.slice none 0 0, .slice none 0 0] := b4_9_2
      refine G.ef rfl rfl rfl rfl rfl ?_
      refine Ef.call go49 rfl rfl (base_ok s w4_9_2) ?_
      rintro _ w4_1_1 ⟨rfl, h4_1_1⟩
      refine ⟨_, rfl, ?_⟩
      refine ⟨fun _ => h4_1_1, ?_⟩
      have L16 := L15.trans h4_1_1
      refine G.ef rfl rfl rfl rfl rfl ?_
      refine Ef.call go48 rfl rfl (pnewF_ok (base s) (base_lt s) seed n (fun h => hT h.2) w4_1_1) ?_
      rintro _ w4_5_2 ⟨rfl, h4_5_2⟩
      refine ⟨_, rfl, ?_⟩
      refine ⟨fun _ => h4_5_2, ?_⟩
      have L17 := L16.trans h4_5_2
      refine G.any rfl rfl (.move rfl) rfl rfl rfl ?_
      refine G.any rfl rfl (.extract (v := .agg #[.slice none 0 0, .slice none 0 0]) rfl rfl) rfl rfl rfl ?_
      refine G.any rfl rfl (.extract (v := .bool false) rfl rfl) rfl rfl rfl ?_
      have f18 := (b4_9_2.le (h4_1_1.trans h4_5_2))
      refine G.ef0 rfl rfl rfl rfl ?_
      refine Ef.storeAll sz63 (by rfl) rfl rfl f18 (by rfl) (by simp [Value.oneCell']) ?_
      intro w4_10_2 b4_10_2 h4_10_2
      refine ⟨fun h => absurd h (ne_true_of_eq_false (by kernel_rfl)), ?_⟩
      have b4_10_2 : Blk w4_10_2 g4_9_2 63 #[.slice none 0 0, .slice none 0 0] := b4_10_2
      have L19 : Le w w4_10_2 := L17.then_ h4_10_2 (fun q hq => by cases hq; exact Nat.le_trans L3.size hg4_9_2)
      refine G.any rfl rfl (.assign rfl) rfl rfl rfl ?_
      refine G.nil ?_
      refine E.thenN ?_
      refine WC.seq ?_
      refine WC.region ?_
      refine W.any (.move rfl) rfl rfl rfl ?_
      refine W.any (.move rfl) rfl rfl rfl ?_
      refine W.any (.move rfl) rfl rfl rfl ?_
      refine W.rd (.loadAll ag63 (by rfl) rfl b4_10_2) rfl rfl rfl ?_
      refine W.ef rfl rfl rfl ?_
      refine Ef.call go35 rfl rfl (hops_ok a x w4_10_2 (hV.le L19) (by omega) (Vec.nil _ _ _ _) (by omega) (Vec.nil _ _ _ _) (by omega) (by omega)) ?_
      rintro _ w5_4_2 ⟨Ah5_4_2, ch5_4_2, rfl, oh5_4_2, h5_4_2⟩
      refine ⟨_, rfl, ?_⟩
      have L20 := L19.trans h5_4_2
      have hokG := @hopsG_ok xs a x ([]) ([])
      have hbadG := @hopsG_bad xs a x ([]) ([])
      have hshG := hopsG_short xs a x ([]) ([])
      generalize hgenG : hopsG xs a x ([]) ([]) = G at *
      refine W.any (.move rfl) rfl rfl rfl ?_
      refine W.any (.extract (v := .slice Ah5_4_2 G.1.length ch5_4_2) rfl rfl) rfl rfl rfl ?_
      refine W.any (.extract (v := .int .i64 (G.2)) rfl rfl) rfl rfl rfl ?_
      refine W.any (.assign rfl) rfl rfl rfl ?_
      refine W.any (.assign rfl) rfl rfl rfl ?_
      refine W.nil ?_
      refine E.thenN ?_
      refine WC.seq ?_
      refine WC.seq ?_
      refine WC.region ?_
      refine W.any (.move rfl) rfl rfl rfl ?_
      refine W.any (.not rfl) rfl rfl rfl ?_
      refine W.any (.move rfl) rfl rfl rfl ?_
      refine W.skip rfl rfl rfl (rfl) rfl rfl ?_
      refine W.skip rfl rfl rfl (rfl) rfl rfl ?_
      refine W.any (.pickT rfl rfl rfl) rfl rfl rfl ?_
      refine W.nil ?_
      refine E.thenN ?_
      refine WC.condT rfl ?_
      refine WC.seq ?_
      refine WC.region ?_
      refine W.any (.move rfl) rfl rfl rfl ?_
      refine W.any (.assign rfl) rfl rfl rfl ?_
      refine W.nil ?_
      refine E.thenN ?_
      refine WC.ret ?_
      refine E.thenR ?_
      refine E.retG1 rfl rfl ?_
      exact ⟨rfl, L20⟩

theorem GraphProofs_T (a x : Int) (s : Nat) {seed : List Byte} (hse : seed.length = 32) {A : Option Addr} {n c : Nat} {xs : List Gsp.Edge} (w : World) (hV : Vec w edgeV 9 A n xs) (hnc : n ≤ c) (hn0 : n ≤ 9223372036854775807) (hT : (base s ≠ 1 ∧ 1 ≤ n ∧ n ≤ 8)) : Calls Try.prog 10 #[.slice A n c, .int .i64 (a), .int .i64 (x), .int .u64 (((s : Nat) : Int)), .agg (seed.map u8v).toArray] w fun r w' => r = .returned (.bool true) ∧ Le w w' := by
  have hl := hV.1
  refine enter Try.func10 rfl rfl ?_
  have L0 := Le.refl w
  refine WC.seq ?_
  refine WC.region ?_
  refine W.ef rfl rfl rfl ?_
  refine Ef.boxA rfl ?_
  intro g0_0 w0_0 hg0_0 b0_0 h0_0
  have L1 := L0.trans h0_0
  have b0_0 : Blk w0_0 g0_0 89 (seed.map u8v).toArray := b0_0
  refine W.any (.assign rfl) rfl rfl rfl ?_
  refine W.nil ?_
  refine E.thenN ?_
  refine WC.seq ?_
  refine WC.region ?_
  refine W.ef rfl rfl rfl ?_
  refine Ef.call go32 rfl rfl (small36_ok w0_0) ?_
  rintro _ w1_0 ⟨rfl, h1_0⟩
  refine ⟨_, rfl, ?_⟩
  have L2 := L1.trans h1_0
  refine W.any (.assign rfl) rfl rfl rfl ?_
  refine W.nil ?_
  refine E.thenN ?_
  refine WC.seq ?_
  refine WC.seq ?_
  refine WC.region ?_
  refine W.any (.move rfl) rfl rfl rfl ?_
  refine W.rd (.len Try.underlying59 rfl) rfl rfl rfl ?_
  refine W.any (.gtr rfl rfl) rfl rfl rfl ?_
  refine W.nil ?_
  refine E.thenN ?_
  by_cases c0 : 20 < ((n : Nat) : Int)
  · refine WC.condY rfl (decide_eq_true c0) ?_
    refine WC.seq ?_
    refine WC.region ?_
    refine W.any (.move rfl) rfl rfl rfl ?_
    refine W.any (.assign rfl) rfl rfl rfl ?_
    refine W.nil ?_
    refine E.thenN ?_
    refine WC.ret ?_
    refine E.thenR ?_
    refine E.retG1 rfl rfl ?_
    exact ⟨rfl, L2⟩
  · refine WC.condN rfl (decide_eq_false c0) ?_
    refine WC.skip ?_
    refine E.thenN ?_
    refine WC.seq ?_
    refine WC.drawT (fun o => (app o [0, 2, 3, 4] (.br (app o [1] (.br (app o [5, 6, 7, 8, 9, 10, 11] .nil) (app o [9, 5, 6, 7, 8, 10, 11] .nil))) (app o [9, 1, 5, 6, 7, 8, 10, 11] .nil)))) mixed (by kernel_rfl) ?_
    intro w4 d4
    have L3 := L2.trans d4
    refine GT.app ?_
    refine G.any rfl rfl (.move rfl) rfl rfl rfl ?_
    have f4 := (b0_0.le (h1_0.trans d4))
    refine G.rd rfl rfl (.loadAll ag89 (by simp [hse]) rfl f4) rfl rfl rfl ?_
    refine G.any rfl rfl (.move rfl) rfl rfl rfl ?_
    refine G.rd rfl rfl (.len Try.underlying59 rfl) rfl rfl rfl ?_
    refine G.nil ?_
    refine GT.br ?_ ?_
    · refine GT.app ?_
      refine G.ef rfl rfl rfl rfl rfl ?_
      refine Ef.call go49 rfl rfl (base_ok s w4) ?_
      rintro _ w4_1 ⟨rfl, h4_1⟩
      refine ⟨_, rfl, ?_⟩
      refine ⟨fun _ => h4_1, ?_⟩
      have L5 := L3.trans h4_1
      refine G.nil ?_
      refine GT.br ?_ ?_
      · refine GT.last ?_
        refine G.ef rfl rfl rfl rfl rfl ?_
        refine Ef.call go48 rfl rfl (pnew_ok (base s) (base_lt s) (right_base s) hT.1 seed hse n (by omega) (by omega) w4_1) ?_
        rintro _ w4_5 ⟨gp, Abl, cbl, rfl, hgp, bp, obl, h4_5⟩
        refine ⟨_, rfl, ?_⟩
        refine ⟨fun _ => h4_5, ?_⟩
        have L6 := L5.trans h4_5
        obtain ⟨bl, hbl⟩ : ∃ bl, bl = blindsP seed (n - 1) := ⟨_, rfl⟩
        rw [← hbl] at bp obl
        have hbll : bl.length = n - 1 := by rw [hbl, blindsP_length]
        obtain ⟨pts, hpts⟩ : ∃ p0, p0 = fromP (base s) bl := ⟨_, rfl⟩
        rw [← hpts] at bp
        have hptl : pts.length = n := by rw [hpts, fromP_length, hbll]; omega
        have op : OVec w4_5 w4_1.heap.size 31 pv1 1 (some ⟨gp, 0, none⟩) n n pts := bp.ovec hgp pv1_row (flat_sing (g1 := pv) pts).symm hptl (by unfold maxLen; omega)
        have obl : OVec w4_5 w4_1.heap.size 30 pv1 1 Abl (n - 1) cbl bl := Own.ovec (g1 := pv) obl
        refine G.any rfl rfl (.move rfl) rfl rfl rfl ?_
        refine G.any rfl rfl (.extract (v := .agg #[.slice (some ⟨gp, 0, none⟩) n n, .slice Abl (n - 1) cbl]) rfl rfl) rfl rfl rfl ?_
        refine G.any rfl rfl (.extract (v := .bool true) rfl rfl) rfl rfl rfl ?_
        refine G.ef rfl rfl rfl rfl rfl ?_
        refine Ef.allocA z63 ?_
        intro g4_9 w4_9 hg4_9 b4_9 h4_9
        refine ⟨fun _ => h4_9, ?_⟩
        have L7 := L6.trans h4_9
        have b4_9 : Blk w4_9 g4_9 63 #[.slice none 0 0, .slice none 0 0] := b4_9
        refine G.ef0 rfl rfl rfl rfl ?_
        refine Ef.storeAll sz63 (by rfl) rfl rfl b4_9 (by rfl) (by simp [Value.oneCell']) ?_
        intro w4_10 b4_10 h4_10
        refine ⟨fun h => absurd h (ne_true_of_eq_false (by kernel_rfl)), ?_⟩
        have b4_10 : Blk w4_10 g4_9 63 #[.slice (some ⟨gp, 0, none⟩) n n, .slice Abl (n - 1) cbl] := b4_10
        have L8 : Le w w4_10 := L7.then_ h4_10 (fun q hq => by cases hq; exact Nat.le_trans L6.size hg4_9)
        refine G.any rfl rfl (.assign rfl) rfl rfl rfl ?_
        refine G.nil ?_
        refine E.thenN ?_
        refine WC.seq ?_
        refine WC.region ?_
        refine W.any (.move rfl) rfl rfl rfl ?_
        refine W.any (.move rfl) rfl rfl rfl ?_
        refine W.any (.move rfl) rfl rfl rfl ?_
        refine W.rd (.loadAll ag63 (by rfl) rfl b4_10) rfl rfl rfl ?_
        have f9 := ((op.le h4_9).ch h4_10 (fun q hq => by cases hq; exact (fun he => by have := (op.row he).2; omega)))
        have f10 := ((obl.le h4_9).ch h4_10 (fun q hq => by cases hq; exact (fun he => by have := (obl.row he).2; omega)))
        refine W.ef rfl rfl rfl ?_
        refine Ef.call go35 rfl rfl (hops_ok a x w4_10 (hV.le L8) (by omega) f9.vec (by omega) f10.vec (by omega) (by omega)) ?_
        rintro _ w5_4 ⟨Ah5_4, ch5_4, rfl, oh5_4, h5_4⟩
        refine ⟨_, rfl, ?_⟩
        have L11 := L8.trans h5_4
        have hokG := @hopsG_ok xs a x pts bl
        have hbadG := @hopsG_bad xs a x pts bl
        have hshG := hopsG_short xs a x pts bl
        generalize hgenG : hopsG xs a x pts bl = G at *
        refine W.any (.move rfl) rfl rfl rfl ?_
        refine W.any (.extract (v := .slice Ah5_4 G.1.length ch5_4) rfl rfl) rfl rfl rfl ?_
        refine W.any (.extract (v := .int .i64 (G.2)) rfl rfl) rfl rfl rfl ?_
        refine W.any (.assign rfl) rfl rfl rfl ?_
        refine W.any (.assign rfl) rfl rfl rfl ?_
        refine W.nil ?_
        refine E.thenN ?_
        refine WC.seq ?_
        refine WC.seq ?_
        refine WC.region ?_
        refine W.any (.move rfl) rfl rfl rfl ?_
        refine W.any (.not rfl) rfl rfl rfl ?_
        refine W.any (.move rfl) rfl rfl rfl ?_
        refine W.rdg (Any.rd (.move rfl) _) rfl rfl rfl (rfl) rfl rfl ?_
        refine W.rdg (Any.rd (.neq rfl rfl) _) rfl rfl rfl (rfl) rfl rfl ?_
        refine W.any (.pickF rfl rfl rfl) rfl rfl rfl ?_
        refine W.nil ?_
        refine E.thenN ?_
        by_cases c1 : G.2 ≠ 0
        · refine WC.condY rfl (decide_eq_true c1) ?_
          refine WC.seq ?_
          refine WC.region ?_
          refine W.any (.move rfl) rfl rfl rfl ?_
          refine W.any (.assign rfl) rfl rfl rfl ?_
          refine W.nil ?_
          refine E.thenN ?_
          refine WC.ret ?_
          refine E.thenR ?_
          refine E.retG1 rfl rfl ?_
          exact ⟨rfl, L11⟩
        · refine WC.condN rfl (decide_eq_false c1) ?_
          obtain ⟨hc0, hp0, hb0, hG, hGl⟩ := hokG (Decidable.not_not.1 (by assumption))
          have hat := hopsL_at xs (costG xs a x).1 (costG xs a x).2.1 pts bl a x
          rw [← hG] at hat
          have hmb : pts = (tP (s % q) bl).map base := by rw [hpts, ← fromP_base]; congr 1; rw [base, base, scale_mod]
          have htl := tP_length (s % q) bl
          have hpat : ∀ i, i < n → pts.getD i 0 = base ((tP (s % q) bl).getD i 0) := fun i hi => by rw [hmb]; simp [List.getD, show i < (tP (s % q) bl).length by omega]
          refine WC.skip ?_
          refine E.thenN ?_
          refine WC.seq ?_
          refine WC.region ?_
          refine W.any (.move rfl) rfl rfl rfl ?_
          refine W.any (.assign rfl) rfl rfl rfl ?_
          refine W.nil ?_
          refine E.thenN ?_
          refine WC.seq ?_
          refine WC.seq ?_
          refine WC.region ?_
          refine W.any (.move rfl) rfl rfl rfl ?_
          refine W.rd (.len Try.underlying66 rfl) rfl rfl rfl ?_
          refine W.any (.sub rfl rfl (by omega)) rfl rfl rfl ?_
          refine W.any (.assign rfl) rfl rfl rfl ?_
          refine W.nil ?_
          refine E.thenN ?_
          refine WC.block ?_
          have f12 := (b4_10.le h5_4)
          have f13 := (f9.le h5_4)
          have f14 := (f10.le h5_4)
          refine WC.loop (ι := Nat × Nat) (fun ⟨j, t⟩ => [(3, .int .u64 (((s : Nat) : Int))), (11, .bool true), (12, .pointer (some ⟨g4_9, 0, none⟩)), (14, .slice Ah5_4 G.1.length ch5_4), (16, .int .u64 (((t : Nat) : Int))), (17, .int .i64 (((j : Nat) : Int) - 1))]) (fun ⟨j, t⟩ wl0 => (j ≤ n) ∧ ((j = n ∧ t = s) ∨ (j < n ∧ t = (tP (s % q) bl).getD j 0)) ∧ Le w wl0 ∧ w5_4.heap.size ≤ wl0.heap.size ∧ Blk wl0 g4_9 63 #[.slice (some ⟨gp, 0, none⟩) n n, .slice Abl (n - 1) cbl] ∧ OVec wl0 w4_1.heap.size 31 pv1 1 (some ⟨gp, 0, none⟩) n n pts ∧ OVec wl0 w4_1.heap.size 30 pv1 1 Abl (n - 1) cbl bl ∧ OVec wl0 w4_10.heap.size 95 hopV 6 Ah5_4 G.1.length ch5_4 G.1) (fun ⟨j, t⟩ => j) (n, s) ?_ ?_ ?_
          · exact .cons rfl (.cons rfl (.cons rfl (.cons rfl (.cons rfl (.cons' rfl (int_eq (by omega)) (.nil _))))))
          · exact ⟨Nat.le_refl _, .inl ⟨rfl, rfl⟩, L11, Nat.le_refl _, f12, f13, f14, oh5_4⟩
          · rintro ⟨j, t⟩ wl0 ⟨hj, ht, Ll0, sz0, f0_0, f0_1, f0_2, f0_3⟩
            have lb0_3 : w4_1.heap.size ≤ wl0.heap.size := by have := h4_5.size; have := h4_9.size; have := h4_10.size; have := h5_4.size; omega
            have lb0_4 : w4_1.heap.size ≤ wl0.heap.size := by have := h4_5.size; have := h4_9.size; have := h4_10.size; have := h5_4.size; omega
            have lb0_6 : w4_10.heap.size ≤ wl0.heap.size := by have := h5_4.size; omega
            refine WC.seq ?_
            refine WC.seq ?_
            refine WC.region ?_
            refine W.any (.move rfl) rfl rfl rfl ?_
            refine W.any (.geq rfl rfl) rfl rfl rfl ?_
            refine W.nil ?_
            refine E.thenN ?_
            by_cases c2 : 0 ≤ (((j : Nat) : Int) - 1)
            · refine WC.condY rfl (decide_eq_true c2) ?_
              have hpt : (G.1.getD (j - 1) noHop).2.2.2.2.1 = base t := by
                rcases ht with ⟨h1, h2⟩ | ⟨h1, h2⟩
                · rw [hat, if_neg (by omega), if_pos (by omega), h2]
                  show pts.getD (xs.length - 1) 0 = _
                  have := tP_last (s % q) bl
                  rw [hbll] at this
                  rw [hl, hpat _ (by omega), this, base, base, scale_mod]
                · rw [hat, if_pos (by omega), h2]
                  show pts.getD (j - 1 + 1) 0 = _
                  rw [show j - 1 + 1 = j by omega]
                  exact hpat j h1
              refine WC.skip ?_
              refine E.thenN ?_
              refine WC.seq ?_
              refine WC.block ?_
              refine WC.seq ?_
              refine WC.seq ?_
              refine WC.region ?_
              refine W.any (.move rfl) rfl rfl rfl ?_
              refine W.any (.move rfl) rfl rfl rfl ?_
              refine W.any (.idxS ((j - 1)) Try.underlying66 sz95 rfl rfl (oh5_4.vec.isSome hopV_row (by omega)) (by omega) (by omega)) rfl rfl rfl ?_
              refine W.any (.vfield fa95_4 (oh5_4.vec.isSome hopV_row (by omega)) rfl) rfl rfl rfl ?_
              refine W.rd (.vcell (j := (j - 1)) (o := 4) (v := .int .u64 ((((G.1.getD (j - 1) noHop).2.2.2.2.1 : Nat) : Int))) na31 rfl f0_3.vec hopV_row (getS G.1 noHop (by first | omega | (simp only [List.length_cons, List.length_nil]; omega))) rfl) rfl rfl rfl ?_
              refine W.any (.move rfl) rfl rfl rfl ?_
              refine W.ef rfl rfl rfl ?_
              refine Ef.call go50 rfl rfl (shows_ok _ t (by rw [hpt]; exact base_lt t) (by rw [hpt]; exact right_base t) hpt.symm wl0) ?_
              rintro _ w12_6 ⟨rfl, h12_6⟩
              refine ⟨_, rfl, ?_⟩
              have L15 := Ll0.trans h12_6
              refine W.any (.not rfl) rfl rfl rfl ?_
              refine W.nil ?_
              refine E.thenN ?_
              refine WC.condF rfl ?_
              refine WC.skip ?_
              refine E.thenN ?_
              refine WC.region ?_
              refine W.any (.move rfl) rfl rfl rfl ?_
              refine W.any (.move rfl) rfl rfl rfl ?_
              refine W.any (.move rfl) rfl rfl rfl ?_
              refine W.any (.idxS ((j - 1)) Try.underlying66 sz95 rfl rfl (oh5_4.vec.isSome hopV_row (by omega)) (by omega) (by omega)) rfl rfl rfl ?_
              refine W.any (.vfield fa95_5 (oh5_4.vec.isSome hopV_row (by omega)) rfl) rfl rfl rfl ?_
              have f16 := (f0_3.le h12_6)
              refine W.rd (.vcell (j := (j - 1)) (o := 5) (v := .int .u64 ((((G.1.getD (j - 1) noHop).2.2.2.2.2 : Nat) : Int))) na30 rfl f16.vec hopV_row (getS G.1 noHop (by first | omega | (simp only [List.length_cons, List.length_nil]; omega))) rfl) rfl rfl rfl ?_
              refine W.ef rfl rfl rfl ?_
              refine Ef.call go51 rfl rfl (pback_ok t ((G.1.getD (j - 1) noHop).2.2.2.2.2) w12_6) ?_
              rintro _ w14_6 ⟨rfl, h14_6⟩
              refine ⟨_, rfl, ?_⟩
              have L17 := L15.trans h14_6
              refine W.any (.assign rfl) rfl rfl rfl ?_
              refine W.nil ?_
              refine E.blkN ?_
              refine E.thenN ?_
              refine WC.region ?_
              refine W.any (.move rfl) rfl rfl rfl ?_
              refine W.any (.sub rfl rfl (by omega)) rfl rfl rfl ?_
              refine W.any (.assign rfl) rfl rfl rfl ?_
              refine W.nil ?_
              have f18 := (f0_0.le (h12_6.trans h14_6))
              have f19 := (f0_1.le (h12_6.trans h14_6))
              have f20 := (f0_2.le (h12_6.trans h14_6))
              have f21 := (f16.le h14_6)
              refine E.again (j - 1, addS t (G.1.getD (j - 1) noHop).2.2.2.2.2) (.cons rfl (.cons rfl (.cons rfl (.cons rfl (.cons rfl (.cons' rfl (int_eq (by omega)) (.nil _))))))) ?_ ?_
              · exact ⟨by omega, .inr ⟨by omega, by
                rcases ht with ⟨h1, h2⟩ | ⟨h1, h2⟩
                · rw [hat, if_neg (by omega), if_pos (by omega), h2]
                  show addS s 0 = _
                  have := tP_last (s % q) bl
                  rw [hbll, show n - 1 = j - 1 by omega] at this
                  rw [this, addS_eq, Nat.add_zero]
                · rw [hat, if_pos (by omega), h2]
                  have := tP_at (s % q) bl (j - 1) (by omega)
                  rw [show j - 1 + 1 = j by omega] at this
                  exact this.symm⟩, L17, by have := sz0; have := h12_6.size; have := h14_6.size; omega, f18, f19, f20, f21⟩
              · show j - 1 < j; omega
            · refine WC.condN rfl (decide_eq_false c2) ?_
              have hj0 : j = 0 := by omega
              subst hj0
              have ht0 : t = (tP (s % q) bl).getD 0 0 := by rcases ht with ⟨h1, h2⟩ | ⟨h1, h2⟩; omega; exact h2
              refine WC.exit ?_
              refine E.thenX ?_
              refine E.thenX ?_
              refine E.blkH ?_
              refine E.thenN ?_
              refine WC.seq ?_
              refine WC.region ?_
              refine W.any (.move rfl) rfl rfl rfl ?_
              refine W.any (.move rfl) rfl rfl rfl ?_
              refine W.rdg (Any.rd (.field0 fa63_0 rfl) _) rfl rfl rfl (rfl) rfl rfl ?_
              refine W.rdg (.loadB (v := .slice (some ⟨gp, 0, none⟩) n n) na60 rfl f0_0 rfl) rfl rfl rfl (rfl) rfl rfl ?_
              refine W.rdg (Any.rd (.idxS (0) Try.underlying60 sz31 rfl rfl (op.vec.isSome pv1_row (by omega)) (rfl) (by omega)) _) rfl rfl rfl (rfl) rfl rfl ?_
              refine W.rdg (.vone (v := .int .u64 ((((pts.getD 0 0) : Nat) : Int))) na31 rfl f0_1.vec pv1_row (getS pts 0 (by first | omega | (simp only [List.length_cons, List.length_nil]; omega))) rfl) rfl rfl rfl (rfl) rfl rfl ?_
              refine W.rdg (Any.rd (.move rfl) _) rfl rfl rfl (rfl) rfl rfl ?_
              refine W.efg rfl rfl rfl (rfl) rfl rfl ?_
              refine Ef.call go50 rfl rfl (shows_ok _ t (by rw [hpat 0 (by omega)]; exact base_lt _) (by rw [hpat 0 (by omega)]; exact right_base _) (by rw [hpat 0 (by omega), ht0]) wl0) ?_
              rintro _ w15_7 ⟨rfl, h15_7⟩
              refine ⟨_, rfl, ?_⟩
              have L22 := Ll0.trans h15_7
              refine W.any (.pickT rfl rfl rfl) rfl rfl rfl ?_
              refine W.any (.move rfl) rfl rfl rfl ?_
              refine W.rdg (Any.rd (.move rfl) _) rfl rfl rfl (rfl) rfl rfl ?_
              refine W.rdg (Any.rd (.field0 fa63_1 rfl) _) rfl rfl rfl (rfl) rfl rfl ?_
              have f23 := (f0_0.le h15_7)
              refine W.rdg (.loadB (v := .slice Abl (n - 1) cbl) na61 rfl f23 rfl) rfl rfl rfl (rfl) rfl rfl ?_
              have f24 := (f0_2.le h15_7)
              refine W.efg rfl rfl rfl (rfl) rfl rfl ?_
              refine Ef.call go52 rfl rfl (proof_ok t w15_7 (Vec.sl (g1 := pv) f24.vec) (by omega)) ?_
              rintro _ w15_13 ⟨rfl, h15_13⟩
              refine ⟨_, rfl, ?_⟩
              have L25 := L22.trans h15_13
              refine W.rdg (Any.rd (.move rfl) _) rfl rfl rfl (rfl) rfl rfl ?_
              refine W.rdg (Any.rd (.remN s 2305843009213688669 (s % 2305843009213688669) rfl rfl rfl rfl (by decide) (rfl)) _) rfl rfl rfl (rfl) rfl rfl ?_
              refine W.rdg (Any.rd (.eql rfl rfl) _) rfl rfl rfl (rfl) rfl rfl ?_
              refine W.any (.pickT rfl rfl rfl) rfl rfl rfl ?_
              refine W.any (.assign rfl) rfl rfl rfl ?_
              refine W.nil ?_
              refine E.thenN ?_
              refine WC.ret ?_
              refine E.retG1 rfl rfl ?_
              exact ⟨congrArg (fun b => Ending.returned (Value.bool b)) (decide_eq_true (congrArg Nat.cast (show addS t (negS (sumS bl)) = s % q by rw [ht0]; exact proof_back (s % q) bl (Nat.mod_lt _ q_pos)))), L25⟩
      · refine GT.last ?_
        refine G.ef rfl rfl rfl rfl rfl ?_
        refine Ef.allocA z63 ?_
        intro g4_9_1 w4_9_1 hg4_9_1 b4_9_1 h4_9_1
        refine ⟨fun _ => h4_9_1, ?_⟩
        have L26 := L5.trans h4_9_1
        have b4_9_1 : Blk w4_9_1 g4_9_1 63 #[.slice none 0 0, .slice none 0 0] := b4_9_1
        refine G.ef rfl rfl rfl rfl rfl ?_
        refine Ef.call go48 rfl rfl (pnew_ok (base s) (base_lt s) (right_base s) hT.1 seed hse n (by omega) (by omega) w4_9_1) ?_
        rintro _ w4_5_1 ⟨gp, Abl, cbl, rfl, hgp, bp, obl, h4_5_1⟩
        refine ⟨_, rfl, ?_⟩
        refine ⟨fun _ => h4_5_1, ?_⟩
        have L27 := L26.trans h4_5_1
        obtain ⟨bl, hbl⟩ : ∃ bl, bl = blindsP seed (n - 1) := ⟨_, rfl⟩
        rw [← hbl] at bp obl
        have hbll : bl.length = n - 1 := by rw [hbl, blindsP_length]
        obtain ⟨pts, hpts⟩ : ∃ p0, p0 = fromP (base s) bl := ⟨_, rfl⟩
        rw [← hpts] at bp
        have hptl : pts.length = n := by rw [hpts, fromP_length, hbll]; omega
        have op : OVec w4_5_1 w4_9_1.heap.size 31 pv1 1 (some ⟨gp, 0, none⟩) n n pts := bp.ovec hgp pv1_row (flat_sing (g1 := pv) pts).symm hptl (by unfold maxLen; omega)
        have obl : OVec w4_5_1 w4_9_1.heap.size 30 pv1 1 Abl (n - 1) cbl bl := Own.ovec (g1 := pv) obl
        refine G.any rfl rfl (.move rfl) rfl rfl rfl ?_
        refine G.any rfl rfl (.extract (v := .agg #[.slice (some ⟨gp, 0, none⟩) n n, .slice Abl (n - 1) cbl]) rfl rfl) rfl rfl rfl ?_
        refine G.any rfl rfl (.extract (v := .bool true) rfl rfl) rfl rfl rfl ?_
        have f28 := (b4_9_1.le h4_5_1)
        refine G.ef0 rfl rfl rfl rfl ?_
        refine Ef.storeAll sz63 (by rfl) rfl rfl f28 (by rfl) (by simp [Value.oneCell']) ?_
        intro w4_10_1 b4_10_1 h4_10_1
        refine ⟨fun h => absurd h (ne_true_of_eq_false (by kernel_rfl)), ?_⟩
        have b4_10_1 : Blk w4_10_1 g4_9_1 63 #[.slice (some ⟨gp, 0, none⟩) n n, .slice Abl (n - 1) cbl] := b4_10_1
        have L29 : Le w w4_10_1 := L27.then_ h4_10_1 (fun q hq => by cases hq; exact Nat.le_trans L5.size hg4_9_1)
        refine G.any rfl rfl (.assign rfl) rfl rfl rfl ?_
        refine G.nil ?_
        refine E.thenN ?_
        refine WC.seq ?_
        refine WC.region ?_
        refine W.any (.move rfl) rfl rfl rfl ?_
        refine W.any (.move rfl) rfl rfl rfl ?_
        refine W.any (.move rfl) rfl rfl rfl ?_
        refine W.rd (.loadAll ag63 (by rfl) rfl b4_10_1) rfl rfl rfl ?_
        have f30 := (op.ch h4_10_1 (fun q hq => by cases hq; exact (fun he => by have := (op.row he).1; have := b4_9_1.lt; omega)))
        have f31 := (obl.ch h4_10_1 (fun q hq => by cases hq; exact (fun he => by have := (obl.row he).1; have := b4_9_1.lt; omega)))
        refine W.ef rfl rfl rfl ?_
        refine Ef.call go35 rfl rfl (hops_ok a x w4_10_1 (hV.le L29) (by omega) f30.vec (by omega) f31.vec (by omega) (by omega)) ?_
        rintro _ w5_4_1 ⟨Ah5_4_1, ch5_4_1, rfl, oh5_4_1, h5_4_1⟩
        refine ⟨_, rfl, ?_⟩
        have L32 := L29.trans h5_4_1
        have hokG := @hopsG_ok xs a x pts bl
        have hbadG := @hopsG_bad xs a x pts bl
        have hshG := hopsG_short xs a x pts bl
        generalize hgenG : hopsG xs a x pts bl = G at *
        refine W.any (.move rfl) rfl rfl rfl ?_
        refine W.any (.extract (v := .slice Ah5_4_1 G.1.length ch5_4_1) rfl rfl) rfl rfl rfl ?_
        refine W.any (.extract (v := .int .i64 (G.2)) rfl rfl) rfl rfl rfl ?_
        refine W.any (.assign rfl) rfl rfl rfl ?_
        refine W.any (.assign rfl) rfl rfl rfl ?_
        refine W.nil ?_
        refine E.thenN ?_
        refine WC.seq ?_
        refine WC.seq ?_
        refine WC.region ?_
        refine W.any (.move rfl) rfl rfl rfl ?_
        refine W.any (.not rfl) rfl rfl rfl ?_
        refine W.any (.move rfl) rfl rfl rfl ?_
        refine W.rdg (Any.rd (.move rfl) _) rfl rfl rfl (rfl) rfl rfl ?_
        refine W.rdg (Any.rd (.neq rfl rfl) _) rfl rfl rfl (rfl) rfl rfl ?_
        refine W.any (.pickF rfl rfl rfl) rfl rfl rfl ?_
        refine W.nil ?_
        refine E.thenN ?_
        by_cases c1 : G.2 ≠ 0
        · refine WC.condY rfl (decide_eq_true c1) ?_
          refine WC.seq ?_
          refine WC.region ?_
          refine W.any (.move rfl) rfl rfl rfl ?_
          refine W.any (.assign rfl) rfl rfl rfl ?_
          refine W.nil ?_
          refine E.thenN ?_
          refine WC.ret ?_
          refine E.thenR ?_
          refine E.retG1 rfl rfl ?_
          exact ⟨rfl, L32⟩
        · refine WC.condN rfl (decide_eq_false c1) ?_
          obtain ⟨hc0, hp0, hb0, hG, hGl⟩ := hokG (Decidable.not_not.1 (by assumption))
          have hat := hopsL_at xs (costG xs a x).1 (costG xs a x).2.1 pts bl a x
          rw [← hG] at hat
          have hmb : pts = (tP (s % q) bl).map base := by rw [hpts, ← fromP_base]; congr 1; rw [base, base, scale_mod]
          have htl := tP_length (s % q) bl
          have hpat : ∀ i, i < n → pts.getD i 0 = base ((tP (s % q) bl).getD i 0) := fun i hi => by rw [hmb]; simp [List.getD, show i < (tP (s % q) bl).length by omega]
          refine WC.skip ?_
          refine E.thenN ?_
          refine WC.seq ?_
          refine WC.region ?_
          refine W.any (.move rfl) rfl rfl rfl ?_
          refine W.any (.assign rfl) rfl rfl rfl ?_
          refine W.nil ?_
          refine E.thenN ?_
          refine WC.seq ?_
          refine WC.seq ?_
          refine WC.region ?_
          refine W.any (.move rfl) rfl rfl rfl ?_
          refine W.rd (.len Try.underlying66 rfl) rfl rfl rfl ?_
          refine W.any (.sub rfl rfl (by omega)) rfl rfl rfl ?_
          refine W.any (.assign rfl) rfl rfl rfl ?_
          refine W.nil ?_
          refine E.thenN ?_
          refine WC.block ?_
          have f33 := (b4_10_1.le h5_4_1)
          have f34 := (f30.le h5_4_1)
          have f35 := (f31.le h5_4_1)
          refine WC.loop (ι := Nat × Nat) (fun ⟨j, t⟩ => [(3, .int .u64 (((s : Nat) : Int))), (11, .bool true), (12, .pointer (some ⟨g4_9_1, 0, none⟩)), (14, .slice Ah5_4_1 G.1.length ch5_4_1), (16, .int .u64 (((t : Nat) : Int))), (17, .int .i64 (((j : Nat) : Int) - 1))]) (fun ⟨j, t⟩ wl0 => (j ≤ n) ∧ ((j = n ∧ t = s) ∨ (j < n ∧ t = (tP (s % q) bl).getD j 0)) ∧ Le w wl0 ∧ w5_4_1.heap.size ≤ wl0.heap.size ∧ Blk wl0 g4_9_1 63 #[.slice (some ⟨gp, 0, none⟩) n n, .slice Abl (n - 1) cbl] ∧ OVec wl0 w4_9_1.heap.size 31 pv1 1 (some ⟨gp, 0, none⟩) n n pts ∧ OVec wl0 w4_9_1.heap.size 30 pv1 1 Abl (n - 1) cbl bl ∧ OVec wl0 w4_10_1.heap.size 95 hopV 6 Ah5_4_1 G.1.length ch5_4_1 G.1) (fun ⟨j, t⟩ => j) (n, s) ?_ ?_ ?_
          · exact .cons rfl (.cons rfl (.cons rfl (.cons rfl (.cons rfl (.cons' rfl (int_eq (by omega)) (.nil _))))))
          · exact ⟨Nat.le_refl _, .inl ⟨rfl, rfl⟩, L32, Nat.le_refl _, f33, f34, f35, oh5_4_1⟩
          · rintro ⟨j, t⟩ wl0 ⟨hj, ht, Ll0, sz0, f0_0, f0_1, f0_2, f0_3⟩
            have lb0_8 : w4_9_1.heap.size ≤ wl0.heap.size := by have := h4_5_1.size; have := h4_10_1.size; have := h5_4_1.size; omega
            have lb0_9 : w4_9_1.heap.size ≤ wl0.heap.size := by have := h4_5_1.size; have := h4_10_1.size; have := h5_4_1.size; omega
            have lb0_10 : w4_10_1.heap.size ≤ wl0.heap.size := by have := h5_4_1.size; omega
            refine WC.seq ?_
            refine WC.seq ?_
            refine WC.region ?_
            refine W.any (.move rfl) rfl rfl rfl ?_
            refine W.any (.geq rfl rfl) rfl rfl rfl ?_
            refine W.nil ?_
            refine E.thenN ?_
            by_cases c2 : 0 ≤ (((j : Nat) : Int) - 1)
            · refine WC.condY rfl (decide_eq_true c2) ?_
              have hpt : (G.1.getD (j - 1) noHop).2.2.2.2.1 = base t := by
                rcases ht with ⟨h1, h2⟩ | ⟨h1, h2⟩
                · rw [hat, if_neg (by omega), if_pos (by omega), h2]
                  show pts.getD (xs.length - 1) 0 = _
                  have := tP_last (s % q) bl
                  rw [hbll] at this
                  rw [hl, hpat _ (by omega), this, base, base, scale_mod]
                · rw [hat, if_pos (by omega), h2]
                  show pts.getD (j - 1 + 1) 0 = _
                  rw [show j - 1 + 1 = j by omega]
                  exact hpat j h1
              refine WC.skip ?_
              refine E.thenN ?_
              refine WC.seq ?_
              refine WC.block ?_
              refine WC.seq ?_
              refine WC.seq ?_
              refine WC.region ?_
              refine W.any (.move rfl) rfl rfl rfl ?_
              refine W.any (.move rfl) rfl rfl rfl ?_
              refine W.any (.idxS ((j - 1)) Try.underlying66 sz95 rfl rfl (oh5_4_1.vec.isSome hopV_row (by omega)) (by omega) (by omega)) rfl rfl rfl ?_
              refine W.any (.vfield fa95_4 (oh5_4_1.vec.isSome hopV_row (by omega)) rfl) rfl rfl rfl ?_
              refine W.rd (.vcell (j := (j - 1)) (o := 4) (v := .int .u64 ((((G.1.getD (j - 1) noHop).2.2.2.2.1 : Nat) : Int))) na31 rfl f0_3.vec hopV_row (getS G.1 noHop (by first | omega | (simp only [List.length_cons, List.length_nil]; omega))) rfl) rfl rfl rfl ?_
              refine W.any (.move rfl) rfl rfl rfl ?_
              refine W.ef rfl rfl rfl ?_
              refine Ef.call go50 rfl rfl (shows_ok _ t (by rw [hpt]; exact base_lt t) (by rw [hpt]; exact right_base t) hpt.symm wl0) ?_
              rintro _ w12_6_1 ⟨rfl, h12_6_1⟩
              refine ⟨_, rfl, ?_⟩
              have L36 := Ll0.trans h12_6_1
              refine W.any (.not rfl) rfl rfl rfl ?_
              refine W.nil ?_
              refine E.thenN ?_
              refine WC.condF rfl ?_
              refine WC.skip ?_
              refine E.thenN ?_
              refine WC.region ?_
              refine W.any (.move rfl) rfl rfl rfl ?_
              refine W.any (.move rfl) rfl rfl rfl ?_
              refine W.any (.move rfl) rfl rfl rfl ?_
              refine W.any (.idxS ((j - 1)) Try.underlying66 sz95 rfl rfl (oh5_4_1.vec.isSome hopV_row (by omega)) (by omega) (by omega)) rfl rfl rfl ?_
              refine W.any (.vfield fa95_5 (oh5_4_1.vec.isSome hopV_row (by omega)) rfl) rfl rfl rfl ?_
              have f37 := (f0_3.le h12_6_1)
              refine W.rd (.vcell (j := (j - 1)) (o := 5) (v := .int .u64 ((((G.1.getD (j - 1) noHop).2.2.2.2.2 : Nat) : Int))) na30 rfl f37.vec hopV_row (getS G.1 noHop (by first | omega | (simp only [List.length_cons, List.length_nil]; omega))) rfl) rfl rfl rfl ?_
              refine W.ef rfl rfl rfl ?_
              refine Ef.call go51 rfl rfl (pback_ok t ((G.1.getD (j - 1) noHop).2.2.2.2.2) w12_6_1) ?_
              rintro _ w14_6_1 ⟨rfl, h14_6_1⟩
              refine ⟨_, rfl, ?_⟩
              have L38 := L36.trans h14_6_1
              refine W.any (.assign rfl) rfl rfl rfl ?_
              refine W.nil ?_
              refine E.blkN ?_
              refine E.thenN ?_
              refine WC.region ?_
              refine W.any (.move rfl) rfl rfl rfl ?_
              refine W.any (.sub rfl rfl (by omega)) rfl rfl rfl ?_
              refine W.any (.assign rfl) rfl rfl rfl ?_
              refine W.nil ?_
              have f39 := (f0_0.le (h12_6_1.trans h14_6_1))
              have f40 := (f0_1.le (h12_6_1.trans h14_6_1))
              have f41 := (f0_2.le (h12_6_1.trans h14_6_1))
              have f42 := (f37.le h14_6_1)
              refine E.again (j - 1, addS t (G.1.getD (j - 1) noHop).2.2.2.2.2) (.cons rfl (.cons rfl (.cons rfl (.cons rfl (.cons rfl (.cons' rfl (int_eq (by omega)) (.nil _))))))) ?_ ?_
              · exact ⟨by omega, .inr ⟨by omega, by
                rcases ht with ⟨h1, h2⟩ | ⟨h1, h2⟩
                · rw [hat, if_neg (by omega), if_pos (by omega), h2]
                  show addS s 0 = _
                  have := tP_last (s % q) bl
                  rw [hbll, show n - 1 = j - 1 by omega] at this
                  rw [this, addS_eq, Nat.add_zero]
                · rw [hat, if_pos (by omega), h2]
                  have := tP_at (s % q) bl (j - 1) (by omega)
                  rw [show j - 1 + 1 = j by omega] at this
                  exact this.symm⟩, L38, by have := sz0; have := h12_6_1.size; have := h14_6_1.size; omega, f39, f40, f41, f42⟩
              · show j - 1 < j; omega
            · refine WC.condN rfl (decide_eq_false c2) ?_
              have hj0 : j = 0 := by omega
              subst hj0
              have ht0 : t = (tP (s % q) bl).getD 0 0 := by rcases ht with ⟨h1, h2⟩ | ⟨h1, h2⟩; omega; exact h2
              refine WC.exit ?_
              refine E.thenX ?_
              refine E.thenX ?_
              refine E.blkH ?_
              refine E.thenN ?_
              refine WC.seq ?_
              refine WC.region ?_
              refine W.any (.move rfl) rfl rfl rfl ?_
              refine W.any (.move rfl) rfl rfl rfl ?_
              refine W.rdg (Any.rd (.field0 fa63_0 rfl) _) rfl rfl rfl (rfl) rfl rfl ?_
              refine W.rdg (.loadB (v := .slice (some ⟨gp, 0, none⟩) n n) na60 rfl f0_0 rfl) rfl rfl rfl (rfl) rfl rfl ?_
              refine W.rdg (Any.rd (.idxS (0) Try.underlying60 sz31 rfl rfl (op.vec.isSome pv1_row (by omega)) (rfl) (by omega)) _) rfl rfl rfl (rfl) rfl rfl ?_
              refine W.rdg (.vone (v := .int .u64 ((((pts.getD 0 0) : Nat) : Int))) na31 rfl f0_1.vec pv1_row (getS pts 0 (by first | omega | (simp only [List.length_cons, List.length_nil]; omega))) rfl) rfl rfl rfl (rfl) rfl rfl ?_
              refine W.rdg (Any.rd (.move rfl) _) rfl rfl rfl (rfl) rfl rfl ?_
              refine W.efg rfl rfl rfl (rfl) rfl rfl ?_
              refine Ef.call go50 rfl rfl (shows_ok _ t (by rw [hpat 0 (by omega)]; exact base_lt _) (by rw [hpat 0 (by omega)]; exact right_base _) (by rw [hpat 0 (by omega), ht0]) wl0) ?_
              rintro _ w15_7_1 ⟨rfl, h15_7_1⟩
              refine ⟨_, rfl, ?_⟩
              have L43 := Ll0.trans h15_7_1
              refine W.any (.pickT rfl rfl rfl) rfl rfl rfl ?_
              refine W.any (.move rfl) rfl rfl rfl ?_
              refine W.rdg (Any.rd (.move rfl) _) rfl rfl rfl (rfl) rfl rfl ?_
              refine W.rdg (Any.rd (.field0 fa63_1 rfl) _) rfl rfl rfl (rfl) rfl rfl ?_
              have f44 := (f0_0.le h15_7_1)
              refine W.rdg (.loadB (v := .slice Abl (n - 1) cbl) na61 rfl f44 rfl) rfl rfl rfl (rfl) rfl rfl ?_
              have f45 := (f0_2.le h15_7_1)
              refine W.efg rfl rfl rfl (rfl) rfl rfl ?_
              refine Ef.call go52 rfl rfl (proof_ok t w15_7_1 (Vec.sl (g1 := pv) f45.vec) (by omega)) ?_
              rintro _ w15_13_1 ⟨rfl, h15_13_1⟩
              refine ⟨_, rfl, ?_⟩
              have L46 := L43.trans h15_13_1
              refine W.rdg (Any.rd (.move rfl) _) rfl rfl rfl (rfl) rfl rfl ?_
              refine W.rdg (Any.rd (.remN s 2305843009213688669 (s % 2305843009213688669) rfl rfl rfl rfl (by decide) (rfl)) _) rfl rfl rfl (rfl) rfl rfl ?_
              refine W.rdg (Any.rd (.eql rfl rfl) _) rfl rfl rfl (rfl) rfl rfl ?_
              refine W.any (.pickT rfl rfl rfl) rfl rfl rfl ?_
              refine W.any (.assign rfl) rfl rfl rfl ?_
              refine W.nil ?_
              refine E.thenN ?_
              refine WC.ret ?_
              refine E.retG1 rfl rfl ?_
              exact ⟨congrArg (fun b => Ending.returned (Value.bool b)) (decide_eq_true (congrArg Nat.cast (show addS t (negS (sumS bl)) = s % q by rw [ht0]; exact proof_back (s % q) bl (Nat.mod_lt _ q_pos)))), L46⟩
    · refine GT.last ?_
      refine G.ef rfl rfl rfl rfl rfl ?_
      refine Ef.allocA z63 ?_
      intro g4_9_2 w4_9_2 hg4_9_2 b4_9_2 h4_9_2
      refine ⟨fun _ => h4_9_2, ?_⟩
      have L47 := L3.trans h4_9_2
      have b4_9_2 : Blk w4_9_2 g4_9_2 63 #[.slice none 0 0, .slice none 0 0] := b4_9_2
      refine G.ef rfl rfl rfl rfl rfl ?_
      refine Ef.call go49 rfl rfl (base_ok s w4_9_2) ?_
      rintro _ w4_1_1 ⟨rfl, h4_1_1⟩
      refine ⟨_, rfl, ?_⟩
      refine ⟨fun _ => h4_1_1, ?_⟩
      have L48 := L47.trans h4_1_1
      refine G.ef rfl rfl rfl rfl rfl ?_
      refine Ef.call go48 rfl rfl (pnew_ok (base s) (base_lt s) (right_base s) hT.1 seed hse n (by omega) (by omega) w4_1_1) ?_
      rintro _ w4_5_2 ⟨gp, Abl, cbl, rfl, hgp, bp, obl, h4_5_2⟩
      refine ⟨_, rfl, ?_⟩
      refine ⟨fun _ => h4_5_2, ?_⟩
      have L49 := L48.trans h4_5_2
      obtain ⟨bl, hbl⟩ : ∃ bl, bl = blindsP seed (n - 1) := ⟨_, rfl⟩
      rw [← hbl] at bp obl
      have hbll : bl.length = n - 1 := by rw [hbl, blindsP_length]
      obtain ⟨pts, hpts⟩ : ∃ p0, p0 = fromP (base s) bl := ⟨_, rfl⟩
      rw [← hpts] at bp
      have hptl : pts.length = n := by rw [hpts, fromP_length, hbll]; omega
      have op : OVec w4_5_2 w4_1_1.heap.size 31 pv1 1 (some ⟨gp, 0, none⟩) n n pts := bp.ovec hgp pv1_row (flat_sing (g1 := pv) pts).symm hptl (by unfold maxLen; omega)
      have obl : OVec w4_5_2 w4_1_1.heap.size 30 pv1 1 Abl (n - 1) cbl bl := Own.ovec (g1 := pv) obl
      refine G.any rfl rfl (.move rfl) rfl rfl rfl ?_
      refine G.any rfl rfl (.extract (v := .agg #[.slice (some ⟨gp, 0, none⟩) n n, .slice Abl (n - 1) cbl]) rfl rfl) rfl rfl rfl ?_
      refine G.any rfl rfl (.extract (v := .bool true) rfl rfl) rfl rfl rfl ?_
      have f50 := (b4_9_2.le (h4_1_1.trans h4_5_2))
      refine G.ef0 rfl rfl rfl rfl ?_
      refine Ef.storeAll sz63 (by rfl) rfl rfl f50 (by rfl) (by simp [Value.oneCell']) ?_
      intro w4_10_2 b4_10_2 h4_10_2
      refine ⟨fun h => absurd h (ne_true_of_eq_false (by kernel_rfl)), ?_⟩
      have b4_10_2 : Blk w4_10_2 g4_9_2 63 #[.slice (some ⟨gp, 0, none⟩) n n, .slice Abl (n - 1) cbl] := b4_10_2
      have L51 : Le w w4_10_2 := L49.then_ h4_10_2 (fun q hq => by cases hq; exact Nat.le_trans L3.size hg4_9_2)
      refine G.any rfl rfl (.assign rfl) rfl rfl rfl ?_
      refine G.nil ?_
      refine E.thenN ?_
      refine WC.seq ?_
      refine WC.region ?_
      refine W.any (.move rfl) rfl rfl rfl ?_
      refine W.any (.move rfl) rfl rfl rfl ?_
      refine W.any (.move rfl) rfl rfl rfl ?_
      refine W.rd (.loadAll ag63 (by rfl) rfl b4_10_2) rfl rfl rfl ?_
      have f52 := (op.ch h4_10_2 (fun q hq => by cases hq; exact (fun he => by have := (op.row he).1; have := b4_9_2.lt; have := h4_1_1.size; omega)))
      have f53 := (obl.ch h4_10_2 (fun q hq => by cases hq; exact (fun he => by have := (obl.row he).1; have := b4_9_2.lt; have := h4_1_1.size; omega)))
      refine W.ef rfl rfl rfl ?_
      refine Ef.call go35 rfl rfl (hops_ok a x w4_10_2 (hV.le L51) (by omega) f52.vec (by omega) f53.vec (by omega) (by omega)) ?_
      rintro _ w5_4_2 ⟨Ah5_4_2, ch5_4_2, rfl, oh5_4_2, h5_4_2⟩
      refine ⟨_, rfl, ?_⟩
      have L54 := L51.trans h5_4_2
      have hokG := @hopsG_ok xs a x pts bl
      have hbadG := @hopsG_bad xs a x pts bl
      have hshG := hopsG_short xs a x pts bl
      generalize hgenG : hopsG xs a x pts bl = G at *
      refine W.any (.move rfl) rfl rfl rfl ?_
      refine W.any (.extract (v := .slice Ah5_4_2 G.1.length ch5_4_2) rfl rfl) rfl rfl rfl ?_
      refine W.any (.extract (v := .int .i64 (G.2)) rfl rfl) rfl rfl rfl ?_
      refine W.any (.assign rfl) rfl rfl rfl ?_
      refine W.any (.assign rfl) rfl rfl rfl ?_
      refine W.nil ?_
      refine E.thenN ?_
      refine WC.seq ?_
      refine WC.seq ?_
      refine WC.region ?_
      refine W.any (.move rfl) rfl rfl rfl ?_
      refine W.any (.not rfl) rfl rfl rfl ?_
      refine W.any (.move rfl) rfl rfl rfl ?_
      refine W.rdg (Any.rd (.move rfl) _) rfl rfl rfl (rfl) rfl rfl ?_
      refine W.rdg (Any.rd (.neq rfl rfl) _) rfl rfl rfl (rfl) rfl rfl ?_
      refine W.any (.pickF rfl rfl rfl) rfl rfl rfl ?_
      refine W.nil ?_
      refine E.thenN ?_
      by_cases c1 : G.2 ≠ 0
      · refine WC.condY rfl (decide_eq_true c1) ?_
        refine WC.seq ?_
        refine WC.region ?_
        refine W.any (.move rfl) rfl rfl rfl ?_
        refine W.any (.assign rfl) rfl rfl rfl ?_
        refine W.nil ?_
        refine E.thenN ?_
        refine WC.ret ?_
        refine E.thenR ?_
        refine E.retG1 rfl rfl ?_
        exact ⟨rfl, L54⟩
      · refine WC.condN rfl (decide_eq_false c1) ?_
        obtain ⟨hc0, hp0, hb0, hG, hGl⟩ := hokG (Decidable.not_not.1 (by assumption))
        have hat := hopsL_at xs (costG xs a x).1 (costG xs a x).2.1 pts bl a x
        rw [← hG] at hat
        have hmb : pts = (tP (s % q) bl).map base := by rw [hpts, ← fromP_base]; congr 1; rw [base, base, scale_mod]
        have htl := tP_length (s % q) bl
        have hpat : ∀ i, i < n → pts.getD i 0 = base ((tP (s % q) bl).getD i 0) := fun i hi => by rw [hmb]; simp [List.getD, show i < (tP (s % q) bl).length by omega]
        refine WC.skip ?_
        refine E.thenN ?_
        refine WC.seq ?_
        refine WC.region ?_
        refine W.any (.move rfl) rfl rfl rfl ?_
        refine W.any (.assign rfl) rfl rfl rfl ?_
        refine W.nil ?_
        refine E.thenN ?_
        refine WC.seq ?_
        refine WC.seq ?_
        refine WC.region ?_
        refine W.any (.move rfl) rfl rfl rfl ?_
        refine W.rd (.len Try.underlying66 rfl) rfl rfl rfl ?_
        refine W.any (.sub rfl rfl (by omega)) rfl rfl rfl ?_
        refine W.any (.assign rfl) rfl rfl rfl ?_
        refine W.nil ?_
        refine E.thenN ?_
        refine WC.block ?_
        have f55 := (b4_10_2.le h5_4_2)
        have f56 := (f52.le h5_4_2)
        have f57 := (f53.le h5_4_2)
        refine WC.loop (ι := Nat × Nat) (fun ⟨j, t⟩ => [(3, .int .u64 (((s : Nat) : Int))), (11, .bool true), (12, .pointer (some ⟨g4_9_2, 0, none⟩)), (14, .slice Ah5_4_2 G.1.length ch5_4_2), (16, .int .u64 (((t : Nat) : Int))), (17, .int .i64 (((j : Nat) : Int) - 1))]) (fun ⟨j, t⟩ wl0 => (j ≤ n) ∧ ((j = n ∧ t = s) ∨ (j < n ∧ t = (tP (s % q) bl).getD j 0)) ∧ Le w wl0 ∧ w5_4_2.heap.size ≤ wl0.heap.size ∧ Blk wl0 g4_9_2 63 #[.slice (some ⟨gp, 0, none⟩) n n, .slice Abl (n - 1) cbl] ∧ OVec wl0 w4_1_1.heap.size 31 pv1 1 (some ⟨gp, 0, none⟩) n n pts ∧ OVec wl0 w4_1_1.heap.size 30 pv1 1 Abl (n - 1) cbl bl ∧ OVec wl0 w4_10_2.heap.size 95 hopV 6 Ah5_4_2 G.1.length ch5_4_2 G.1) (fun ⟨j, t⟩ => j) (n, s) ?_ ?_ ?_
        · exact .cons rfl (.cons rfl (.cons rfl (.cons rfl (.cons rfl (.cons' rfl (int_eq (by omega)) (.nil _))))))
        · exact ⟨Nat.le_refl _, .inl ⟨rfl, rfl⟩, L54, Nat.le_refl _, f55, f56, f57, oh5_4_2⟩
        · rintro ⟨j, t⟩ wl0 ⟨hj, ht, Ll0, sz0, f0_0, f0_1, f0_2, f0_3⟩
          have lb0_12 : w4_1_1.heap.size ≤ wl0.heap.size := by have := h4_5_2.size; have := h4_10_2.size; have := h5_4_2.size; omega
          have lb0_13 : w4_1_1.heap.size ≤ wl0.heap.size := by have := h4_5_2.size; have := h4_10_2.size; have := h5_4_2.size; omega
          have lb0_14 : w4_10_2.heap.size ≤ wl0.heap.size := by have := h5_4_2.size; omega
          refine WC.seq ?_
          refine WC.seq ?_
          refine WC.region ?_
          refine W.any (.move rfl) rfl rfl rfl ?_
          refine W.any (.geq rfl rfl) rfl rfl rfl ?_
          refine W.nil ?_
          refine E.thenN ?_
          by_cases c2 : 0 ≤ (((j : Nat) : Int) - 1)
          · refine WC.condY rfl (decide_eq_true c2) ?_
            have hpt : (G.1.getD (j - 1) noHop).2.2.2.2.1 = base t := by
              rcases ht with ⟨h1, h2⟩ | ⟨h1, h2⟩
              · rw [hat, if_neg (by omega), if_pos (by omega), h2]
                show pts.getD (xs.length - 1) 0 = _
                have := tP_last (s % q) bl
                rw [hbll] at this
                rw [hl, hpat _ (by omega), this, base, base, scale_mod]
              · rw [hat, if_pos (by omega), h2]
                show pts.getD (j - 1 + 1) 0 = _
                rw [show j - 1 + 1 = j by omega]
                exact hpat j h1
            refine WC.skip ?_
            refine E.thenN ?_
            refine WC.seq ?_
            refine WC.block ?_
            refine WC.seq ?_
            refine WC.seq ?_
            refine WC.region ?_
            refine W.any (.move rfl) rfl rfl rfl ?_
            refine W.any (.move rfl) rfl rfl rfl ?_
            refine W.any (.idxS ((j - 1)) Try.underlying66 sz95 rfl rfl (oh5_4_2.vec.isSome hopV_row (by omega)) (by omega) (by omega)) rfl rfl rfl ?_
            refine W.any (.vfield fa95_4 (oh5_4_2.vec.isSome hopV_row (by omega)) rfl) rfl rfl rfl ?_
            refine W.rd (.vcell (j := (j - 1)) (o := 4) (v := .int .u64 ((((G.1.getD (j - 1) noHop).2.2.2.2.1 : Nat) : Int))) na31 rfl f0_3.vec hopV_row (getS G.1 noHop (by first | omega | (simp only [List.length_cons, List.length_nil]; omega))) rfl) rfl rfl rfl ?_
            refine W.any (.move rfl) rfl rfl rfl ?_
            refine W.ef rfl rfl rfl ?_
            refine Ef.call go50 rfl rfl (shows_ok _ t (by rw [hpt]; exact base_lt t) (by rw [hpt]; exact right_base t) hpt.symm wl0) ?_
            rintro _ w12_6_2 ⟨rfl, h12_6_2⟩
            refine ⟨_, rfl, ?_⟩
            have L58 := Ll0.trans h12_6_2
            refine W.any (.not rfl) rfl rfl rfl ?_
            refine W.nil ?_
            refine E.thenN ?_
            refine WC.condF rfl ?_
            refine WC.skip ?_
            refine E.thenN ?_
            refine WC.region ?_
            refine W.any (.move rfl) rfl rfl rfl ?_
            refine W.any (.move rfl) rfl rfl rfl ?_
            refine W.any (.move rfl) rfl rfl rfl ?_
            refine W.any (.idxS ((j - 1)) Try.underlying66 sz95 rfl rfl (oh5_4_2.vec.isSome hopV_row (by omega)) (by omega) (by omega)) rfl rfl rfl ?_
            refine W.any (.vfield fa95_5 (oh5_4_2.vec.isSome hopV_row (by omega)) rfl) rfl rfl rfl ?_
            have f59 := (f0_3.le h12_6_2)
            refine W.rd (.vcell (j := (j - 1)) (o := 5) (v := .int .u64 ((((G.1.getD (j - 1) noHop).2.2.2.2.2 : Nat) : Int))) na30 rfl f59.vec hopV_row (getS G.1 noHop (by first | omega | (simp only [List.length_cons, List.length_nil]; omega))) rfl) rfl rfl rfl ?_
            refine W.ef rfl rfl rfl ?_
            refine Ef.call go51 rfl rfl (pback_ok t ((G.1.getD (j - 1) noHop).2.2.2.2.2) w12_6_2) ?_
            rintro _ w14_6_2 ⟨rfl, h14_6_2⟩
            refine ⟨_, rfl, ?_⟩
            have L60 := L58.trans h14_6_2
            refine W.any (.assign rfl) rfl rfl rfl ?_
            refine W.nil ?_
            refine E.blkN ?_
            refine E.thenN ?_
            refine WC.region ?_
            refine W.any (.move rfl) rfl rfl rfl ?_
            refine W.any (.sub rfl rfl (by omega)) rfl rfl rfl ?_
            refine W.any (.assign rfl) rfl rfl rfl ?_
            refine W.nil ?_
            have f61 := (f0_0.le (h12_6_2.trans h14_6_2))
            have f62 := (f0_1.le (h12_6_2.trans h14_6_2))
            have f63 := (f0_2.le (h12_6_2.trans h14_6_2))
            have f64 := (f59.le h14_6_2)
            refine E.again (j - 1, addS t (G.1.getD (j - 1) noHop).2.2.2.2.2) (.cons rfl (.cons rfl (.cons rfl (.cons rfl (.cons rfl (.cons' rfl (int_eq (by omega)) (.nil _))))))) ?_ ?_
            · exact ⟨by omega, .inr ⟨by omega, by
              rcases ht with ⟨h1, h2⟩ | ⟨h1, h2⟩
              · rw [hat, if_neg (by omega), if_pos (by omega), h2]
                show addS s 0 = _
                have := tP_last (s % q) bl
                rw [hbll, show n - 1 = j - 1 by omega] at this
                rw [this, addS_eq, Nat.add_zero]
              · rw [hat, if_pos (by omega), h2]
                have := tP_at (s % q) bl (j - 1) (by omega)
                rw [show j - 1 + 1 = j by omega] at this
                exact this.symm⟩, L60, by have := sz0; have := h12_6_2.size; have := h14_6_2.size; omega, f61, f62, f63, f64⟩
            · show j - 1 < j; omega
          · refine WC.condN rfl (decide_eq_false c2) ?_
            have hj0 : j = 0 := by omega
            subst hj0
            have ht0 : t = (tP (s % q) bl).getD 0 0 := by rcases ht with ⟨h1, h2⟩ | ⟨h1, h2⟩; omega; exact h2
            refine WC.exit ?_
            refine E.thenX ?_
            refine E.thenX ?_
            refine E.blkH ?_
            refine E.thenN ?_
            refine WC.seq ?_
            refine WC.region ?_
            refine W.any (.move rfl) rfl rfl rfl ?_
            refine W.any (.move rfl) rfl rfl rfl ?_
            refine W.rdg (Any.rd (.field0 fa63_0 rfl) _) rfl rfl rfl (rfl) rfl rfl ?_
            refine W.rdg (.loadB (v := .slice (some ⟨gp, 0, none⟩) n n) na60 rfl f0_0 rfl) rfl rfl rfl (rfl) rfl rfl ?_
            refine W.rdg (Any.rd (.idxS (0) Try.underlying60 sz31 rfl rfl (op.vec.isSome pv1_row (by omega)) (rfl) (by omega)) _) rfl rfl rfl (rfl) rfl rfl ?_
            refine W.rdg (.vone (v := .int .u64 ((((pts.getD 0 0) : Nat) : Int))) na31 rfl f0_1.vec pv1_row (getS pts 0 (by first | omega | (simp only [List.length_cons, List.length_nil]; omega))) rfl) rfl rfl rfl (rfl) rfl rfl ?_
            refine W.rdg (Any.rd (.move rfl) _) rfl rfl rfl (rfl) rfl rfl ?_
            refine W.efg rfl rfl rfl (rfl) rfl rfl ?_
            refine Ef.call go50 rfl rfl (shows_ok _ t (by rw [hpat 0 (by omega)]; exact base_lt _) (by rw [hpat 0 (by omega)]; exact right_base _) (by rw [hpat 0 (by omega), ht0]) wl0) ?_
            rintro _ w15_7_2 ⟨rfl, h15_7_2⟩
            refine ⟨_, rfl, ?_⟩
            have L65 := Ll0.trans h15_7_2
            refine W.any (.pickT rfl rfl rfl) rfl rfl rfl ?_
            refine W.any (.move rfl) rfl rfl rfl ?_
            refine W.rdg (Any.rd (.move rfl) _) rfl rfl rfl (rfl) rfl rfl ?_
            refine W.rdg (Any.rd (.field0 fa63_1 rfl) _) rfl rfl rfl (rfl) rfl rfl ?_
            have f66 := (f0_0.le h15_7_2)
            refine W.rdg (.loadB (v := .slice Abl (n - 1) cbl) na61 rfl f66 rfl) rfl rfl rfl (rfl) rfl rfl ?_
            have f67 := (f0_2.le h15_7_2)
            refine W.efg rfl rfl rfl (rfl) rfl rfl ?_
            refine Ef.call go52 rfl rfl (proof_ok t w15_7_2 (Vec.sl (g1 := pv) f67.vec) (by omega)) ?_
            rintro _ w15_13_2 ⟨rfl, h15_13_2⟩
            refine ⟨_, rfl, ?_⟩
            have L68 := L65.trans h15_13_2
            refine W.rdg (Any.rd (.move rfl) _) rfl rfl rfl (rfl) rfl rfl ?_
            refine W.rdg (Any.rd (.remN s 2305843009213688669 (s % 2305843009213688669) rfl rfl rfl rfl (by decide) (rfl)) _) rfl rfl rfl (rfl) rfl rfl ?_
            refine W.rdg (Any.rd (.eql rfl rfl) _) rfl rfl rfl (rfl) rfl rfl ?_
            refine W.any (.pickT rfl rfl rfl) rfl rfl rfl ?_
            refine W.any (.assign rfl) rfl rfl rfl ?_
            refine W.nil ?_
            refine E.thenN ?_
            refine WC.ret ?_
            refine E.retG1 rfl rfl ?_
            exact ⟨congrArg (fun b => Ending.returned (Value.bool b)) (decide_eq_true (congrArg Nat.cast (show addS t (negS (sumS bl)) = s % q by rw [ht0]; exact proof_back (s % q) bl (Nat.mod_lt _ q_pos)))), L68⟩

theorem GraphProofs_ok (a x : Int) (s : Nat) {seed : List Byte} (hse : seed.length = 32) {A : Option Addr} {n c : Nat} {xs : List Gsp.Edge} (w : World) (hV : Vec w edgeV 9 A n xs) (hnc : n ≤ c) (hn0 : n ≤ 9223372036854775807) : Calls Try.prog 10 #[.slice A n c, .int .i64 a, .int .i64 x, .int .u64 ((s : Nat) : Int), .agg (seed.map u8v).toArray] w fun r w' => r = .returned (.bool true) ∧ Le w w' := by
  by_cases hT : base s ≠ 1 ∧ 1 ≤ n ∧ n ≤ 8
  · exact GraphProofs_T a x s hse w hV hnc hn0 hT
  · exact GraphProofs_F a x s hse w hV hnc hn0 hT
end Go.Proofs.Ytfgakofjkldcjaa
