/- LedgerTells: for every input the law answers true and leaves its arguments as they were. -/
import Derived.Test.YtmgfgbplbemklaaGreatLedgerTellsJ
import Derived.OrdersHeld
import Derived.WalkKit
import Derived.Deep.AppendSrc
import Derived.Deep.MidRow
import Derived.Laws.OwnMore
import Derived.WalkSpells
import Derived.Lib.ConvBytes
import Derived.Lib.AppendZerosOnto
import Derived.Laws.StructEq
import Derived.Maps.RangeRun
import Derived.Laws.Pointers
import Derived.Test.YtmgfgbplbemklaaGreatProg
import Derived.KernelRfl
import Derived.Lib.Mul64
namespace Go.Proofs.YtmgfgbplbemklaaGreat
open Go Go.Sx Go.Num Go.Gsp Go.Lsp
set_option maxRecDepth 20000
set_option linter.unusedSimpArgs false
set_option linter.unusedVariables false
theorem coin_iff {n : Int} : coinL n = true ↔ 0 ≤ n ∧ n ≤ 1125899906842624 := by simp [coinL]
theorem lmay_ok {gp gs gh c cs ck : Nat} {A : Option Addr} {own : List Int} {ls : SM} {lh : HM} {lost : Int} (s : Seat) (w : World) (hL : LedL w gp gs gh A c cs ck own ls lh lost) : Calls Tryz.prog 44 #[.pointer (some ⟨gp, 0, none⟩), .agg (seatV s).toArray] w fun r w' => ∃ b : Bool, r = .returned (.bool b) ∧ (b = true ↔ mayL own.length s) ∧ Le w w' := by
 refine enter Tryz.func44 rfl rfl ?_
 have L0 := Le.refl w
 refine WC.seq (WC.region ?_)
 refine W.ef rfl rfl rfl ?_
 refine Ef.boxA rfl ?_
 intro g0_0 w0_0 hg0_0 b0_0 h0_0
 have L1 := L0.trans h0_0
 have b0_0 : Blk w0_0 g0_0 44 (seatV s).toArray := b0_0
 refine W.any (.assign rfl) rfl rfl rfl ?_
 refine W.nil (E.thenN (WC.seq (WC.seq (WC.region ?_))))
 refine W.any (.field0 fa44_1 rfl) rfl rfl rfl ?_
 refine W.rd (.bpart [.int .i64 (s.p0), .int .i64 (s.p1)] ag35 rfl (by decide) rfl b0_0 rfl) rfl rfl rfl ?_
 refine W.any (.move rfl) rfl rfl rfl ?_
 refine W.nil (E.thenN (WC.block ?_))
 refine WC.loop (ι := Nat) (fun k => [(0, .pointer (some ⟨gp, 0, none⟩)), (3, .pointer (some ⟨g0_0, 0, none⟩)), (8, .agg #[.int .i64 (s.p0), .int .i64 (s.p1)]), (9, .int .i64 (((k : Nat) : Int)))]) (fun k wl0 => (k ≤ 2) ∧ (∀ i, i < k → 0 ≤ s.p i ∧ s.p i < own.length ∧ 0 ≤ s.h i ∧ s.h i ≤ 1125899906842624) ∧ Le w wl0 ∧ w0_0.heap.size ≤ wl0.heap.size ∧ MapG wl0 ikf seatf gs ls cs ∧ MapG wl0 plf holdf gh lh ck ∧ Blk wl0 g0_0 44 (seatV s).toArray) (fun k => 2 - k) 0 ?_ ?_ ?_
 ·exact .cons rfl (.cons rfl (.cons rfl (.cons rfl (.nil _))))
 ·exact ⟨Nat.zero_le _, fun i hi => by omega, L1, Nat.le_refl _, (hL.hS.le L1), (hL.hH.le L1), b0_0⟩
 ·rintro k wl0 ⟨hk, hall, Ll0, zl0, f0_0, f0_1, f0_2⟩
  refine WC.seq (WC.region ?_)
  refine W.any (.lss rfl rfl) rfl rfl rfl ?_
  refine W.nil (E.thenN (WC.seq ?_))
  by_cases c0 : ((k : Nat) : Int) < 2
  ·refine WC.condY rfl (decide_eq_true c0) ?_
   refine WC.skip (E.thenN (WC.seq (WC.block (WC.seq (WC.region ?_)))))
   refine W.any (.move rfl) rfl rfl rfl ?_
   refine W.any (.index1 (v := .int .i64 ((s.p k))) (k) Tryz.underlying35 sz3 na3 rfl rfl (rfl) (by omega) (seatP_ix s (by omega))) rfl rfl rfl ?_
   refine W.any (.assign rfl) rfl rfl rfl ?_
   refine W.any (.assign rfl) rfl rfl rfl ?_
   refine W.nil (E.thenN (WC.seq (WC.region ?_)))
   refine W.any (.move rfl) rfl rfl rfl ?_
   refine W.any (.lss rfl rfl) rfl rfl rfl ?_
   by_cases q4_2 : (s.p k) < 0
   ·refine W.any (.dec (.move rfl) (decide_eq_true q4_2)) rfl rfl rfl ?_
    refine W.skip rfl rfl rfl (rfl) rfl rfl ?_
    refine W.skip rfl rfl rfl (rfl) rfl rfl ?_
    refine W.skip rfl rfl rfl (rfl) rfl rfl ?_
    refine W.skip rfl rfl rfl (rfl) rfl rfl ?_
    refine W.skip rfl rfl rfl (rfl) rfl rfl ?_
    refine W.skip rfl rfl rfl (rfl) rfl rfl ?_
    refine W.skip rfl rfl rfl (rfl) rfl rfl ?_
    refine W.any (.pickT rfl rfl rfl) rfl rfl rfl ?_
    refine W.any (.move rfl) rfl rfl rfl ?_
    refine W.skip rfl rfl rfl (rfl) rfl rfl ?_
    refine W.skip rfl rfl rfl (rfl) rfl rfl ?_
    refine W.skip rfl rfl rfl (rfl) rfl rfl ?_
    refine W.skip rfl rfl rfl (rfl) rfl rfl ?_
    refine W.skip rfl rfl rfl (rfl) rfl rfl ?_
    refine W.skip rfl rfl rfl (rfl) rfl rfl ?_
    refine W.any (.pickT rfl rfl rfl) rfl rfl rfl ?_
    refine W.nil (E.thenN ?_)
    refine WC.condT rfl ?_
    refine WC.seq (WC.region ?_)
    refine W.any (.assign rfl) rfl rfl rfl ?_
    refine W.nil (E.thenN (WC.ret (E.blkR (E.thenR (E.thenR (E.blkR (E.thenR ?_)))))))
    refine E.retG1 rfl rfl ?_
    exact ⟨false, rfl, ⟨fun h => (by cases h), fun h => by have hh := (mayL_all.1 h).1 k (by omega); (try simp only [coin_iff] at *); omega⟩, Ll0⟩
   ·refine W.any (.dec (.move rfl) (decide_eq_false q4_2)) rfl rfl rfl ?_
    refine W.rdg (Any.rd (.move rfl) _) rfl rfl rfl (rfl) rfl rfl ?_
    refine W.rdg (Any.rd (.move rfl) _) rfl rfl rfl (rfl) rfl rfl ?_
    refine W.rdg (Any.rd (.nilCheck rfl) _) rfl rfl rfl (rfl) rfl rfl ?_
    refine W.rdg (Any.rd (.field0 fa66_0 rfl) _) rfl rfl rfl (rfl) rfl rfl ?_
    refine W.rdg (.loadB (v := .slice A own.length c) na22 rfl (hL.hp.le Ll0) rfl) rfl rfl rfl (rfl) rfl rfl ?_
    refine W.rdg (.len Tryz.underlying22 rfl) rfl rfl rfl (rfl) rfl rfl ?_
    refine W.rdg (Any.rd (.geq rfl rfl) _) rfl rfl rfl (rfl) rfl rfl ?_
    refine W.any (.pickF rfl rfl rfl) rfl rfl rfl ?_
    by_cases q4_11 : ((own.length : Nat) : Int) ≤ (s.p k)
    ·refine W.any (.dec (.move rfl) (decide_eq_true q4_11)) rfl rfl rfl ?_
     refine W.skip rfl rfl rfl (rfl) rfl rfl ?_
     refine W.skip rfl rfl rfl (rfl) rfl rfl ?_
     refine W.skip rfl rfl rfl (rfl) rfl rfl ?_
     refine W.skip rfl rfl rfl (rfl) rfl rfl ?_
     refine W.skip rfl rfl rfl (rfl) rfl rfl ?_
     refine W.skip rfl rfl rfl (rfl) rfl rfl ?_
     refine W.any (.pickT rfl rfl rfl) rfl rfl rfl ?_
     refine W.nil (E.thenN ?_)
     refine WC.condT rfl ?_
     refine WC.seq (WC.region ?_)
     refine W.any (.assign rfl) rfl rfl rfl ?_
     refine W.nil (E.thenN (WC.ret (E.blkR (E.thenR (E.thenR (E.blkR (E.thenR ?_)))))))
     refine E.retG1 rfl rfl ?_
     exact ⟨false, rfl, ⟨fun h => (by cases h), fun h => by have hh := (mayL_all.1 h).1 k (by omega); (try simp only [coin_iff] at *); omega⟩, Ll0⟩
    ·refine W.any (.dec (.move rfl) (decide_eq_false q4_11)) rfl rfl rfl ?_
     refine W.rdg (Any.rd (.move rfl) _) rfl rfl rfl (rfl) rfl rfl ?_
     refine W.rdg (Any.rd (.field0 fa44_2 rfl) _) rfl rfl rfl (rfl) rfl rfl ?_
     refine W.rdg (Any.rd (.idxAo (k) Tryz.underlying35 sz3 rfl rfl (rfl) (by omega)) _) rfl rfl rfl (rfl) rfl rfl ?_
     refine W.rdg (.loadB (v := .int .i64 ((s.h k))) na3 rfl f0_2 (seatH_at s (by omega))) rfl rfl rfl (rfl) rfl rfl ?_
     refine W.efg rfl rfl rfl (rfl) rfl rfl ?_
     refine Ef.call go45 rfl rfl (coin_ok (s.h k) wl0) ?_
     rintro _ w4_16 ⟨rfl, h4_16⟩
     refine ⟨_, rfl, ?_⟩
     have L2 := Ll0.trans h4_16
     refine W.rdg (Any.rd (.not rfl) _) rfl rfl rfl (rfl) rfl rfl ?_
     refine W.any (.pickF rfl rfl rfl) rfl rfl rfl ?_
     refine W.nil (E.thenN ?_)
     by_cases c1 : (coinL (s.h k)) = true
     ·refine WC.condN rfl (congrArg not (c1)) ?_
      refine WC.skip (E.blkN (E.thenN (WC.region ?_)))
      refine W.any (.add rfl rfl (by omega)) rfl rfl rfl ?_
      refine W.any (.move rfl) rfl rfl rfl ?_
      refine W.nil ?_
      have f3 := (f0_0.le h4_16)
      have f4 := (f0_1.le h4_16)
      have f5 := (f0_2.le h4_16)
      refine E.again (k + 1) (.cons rfl (.cons rfl (.cons rfl (.cons rfl (.nil _))))) ?_ ?_
      ·exact ⟨by omega, fun i hi => (Nat.lt_succ_iff_lt_or_eq.1 hi).elim (hall i) (fun hh => by subst hh; (try simp only [coin_iff] at *); omega), L2, by have := zl0; have := h4_16.size; omega, f3, f4, f5⟩
      ·first | omega | (simp only []; omega)
     ·refine WC.condY rfl (congrArg not ((Bool.eq_false_iff.2 c1))) ?_
      refine WC.seq (WC.region ?_)
      refine W.any (.assign rfl) rfl rfl rfl ?_
      refine W.nil (E.thenN (WC.ret (E.blkR (E.thenR (E.thenR (E.blkR (E.thenR ?_)))))))
      refine E.retG1 rfl rfl ?_
      exact ⟨false, rfl, ⟨fun h => (by cases h), fun h => by have hh := (mayL_all.1 h).1 k (by omega); (try simp only [coin_iff] at *); omega⟩, L2⟩
  ·refine WC.condN rfl (decide_eq_false c0) ?_
   refine WC.exit (E.thenX (E.thenX (E.blkH (E.thenN (WC.seq (WC.region ?_))))))
   refine W.any (.field0 fa44_0 rfl) rfl rfl rfl ?_
   refine W.rd (.loadB (v := .int .i64 (s.ch)) na3 rfl f0_2 rfl) rfl rfl rfl ?_
   refine W.any (.geq rfl rfl) rfl rfl rfl ?_
   by_cases q7_3 : 0 ≤ s.ch
   ·refine W.any (.dec (.move rfl) (decide_eq_true q7_3)) rfl rfl rfl ?_
    refine W.rdg (Any.rd (.field0 fa44_0 rfl) _) rfl rfl rfl (rfl) rfl rfl ?_
    refine W.rdg (.loadB (v := .int .i64 (s.ch)) na3 rfl f0_2 rfl) rfl rfl rfl (rfl) rfl rfl ?_
    refine W.rdg (Any.rd (.lss rfl rfl) _) rfl rfl rfl (rfl) rfl rfl ?_
    refine W.any (.pickT rfl rfl rfl) rfl rfl rfl ?_
    by_cases q7_8 : s.ch < 40
    ·refine W.any (.dec (.move rfl) (decide_eq_true q7_8)) rfl rfl rfl ?_
     refine W.rdg (Any.rd (.field0 fa44_1 rfl) _) rfl rfl rfl (rfl) rfl rfl ?_
     refine W.rdg (Any.rd (.idxAo (0) Tryz.underlying35 sz3 rfl rfl (rfl) (by omega)) _) rfl rfl rfl (rfl) rfl rfl ?_
     refine W.rdg (.loadB (v := .int .i64 (s.p0)) na3 rfl f0_2 rfl) rfl rfl rfl (rfl) rfl rfl ?_
     refine W.rdg (Any.rd (.field0 fa44_1 rfl) _) rfl rfl rfl (rfl) rfl rfl ?_
     refine W.rdg (Any.rd (.idxAo (1) Tryz.underlying35 sz3 rfl rfl (rfl) (by omega)) _) rfl rfl rfl (rfl) rfl rfl ?_
     refine W.rdg (.loadB (v := .int .i64 (s.p1)) na3 rfl f0_2 rfl) rfl rfl rfl (rfl) rfl rfl ?_
     refine W.rdg (Any.rd (.neq rfl rfl) _) rfl rfl rfl (rfl) rfl rfl ?_
     refine W.any (.pickT rfl rfl rfl) rfl rfl rfl ?_
     refine W.any (.assign rfl) rfl rfl rfl ?_
     refine W.nil (E.thenN (WC.ret ?_))
     refine E.retG1 rfl rfl ?_
     refine ⟨_, rfl, ?_, Ll0⟩; rw [mayL_all]; have hs2 : ∀ i, i < 2 → 0 ≤ s.p i ∧ s.p i < own.length ∧ 0 ≤ s.h i ∧ s.h i ≤ 1125899906842624 := (fun i hi => hall i (by omega)); simp only [decide_eq_true_eq, Bool.false_eq_true, false_iff]; first | exact ⟨fun h => ⟨hs2, by omega, by omega, h⟩, fun h => h.2.2.2⟩ | exact fun h => by omega
    ·refine W.any (.dec (.move rfl) (decide_eq_false q7_8)) rfl rfl rfl ?_
     refine W.skip rfl rfl rfl (rfl) rfl rfl ?_
     refine W.skip rfl rfl rfl (rfl) rfl rfl ?_
     refine W.skip rfl rfl rfl (rfl) rfl rfl ?_
     refine W.skip rfl rfl rfl (rfl) rfl rfl ?_
     refine W.skip rfl rfl rfl (rfl) rfl rfl ?_
     refine W.skip rfl rfl rfl (rfl) rfl rfl ?_
     refine W.skip rfl rfl rfl (rfl) rfl rfl ?_
     refine W.any (.pickF rfl rfl rfl) rfl rfl rfl ?_
     refine W.any (.assign rfl) rfl rfl rfl ?_
     refine W.nil (E.thenN (WC.ret ?_))
     refine E.retG1 rfl rfl ?_
     refine ⟨_, rfl, ?_, Ll0⟩; rw [mayL_all]; have hs2 : ∀ i, i < 2 → 0 ≤ s.p i ∧ s.p i < own.length ∧ 0 ≤ s.h i ∧ s.h i ≤ 1125899906842624 := (fun i hi => hall i (by omega)); simp only [decide_eq_true_eq, Bool.false_eq_true, false_iff]; first | exact ⟨fun h => ⟨hs2, by omega, by omega, h⟩, fun h => h.2.2.2⟩ | exact fun h => by omega
   ·refine W.any (.dec (.move rfl) (decide_eq_false q7_3)) rfl rfl rfl ?_
    refine W.skip rfl rfl rfl (rfl) rfl rfl ?_
    refine W.skip rfl rfl rfl (rfl) rfl rfl ?_
    refine W.skip rfl rfl rfl (rfl) rfl rfl ?_
    refine W.any (.pickF rfl rfl rfl) rfl rfl rfl ?_
    refine W.any (.move rfl) rfl rfl rfl ?_
    refine W.skip rfl rfl rfl (rfl) rfl rfl ?_
    refine W.skip rfl rfl rfl (rfl) rfl rfl ?_
    refine W.skip rfl rfl rfl (rfl) rfl rfl ?_
    refine W.skip rfl rfl rfl (rfl) rfl rfl ?_
    refine W.skip rfl rfl rfl (rfl) rfl rfl ?_
    refine W.skip rfl rfl rfl (rfl) rfl rfl ?_
    refine W.skip rfl rfl rfl (rfl) rfl rfl ?_
    refine W.any (.pickF rfl rfl rfl) rfl rfl rfl ?_
    refine W.any (.assign rfl) rfl rfl rfl ?_
    refine W.nil (E.thenN (WC.ret ?_))
    refine E.retG1 rfl rfl ?_
    refine ⟨_, rfl, ?_, Ll0⟩; rw [mayL_all]; have hs2 : ∀ i, i < 2 → 0 ≤ s.p i ∧ s.p i < own.length ∧ 0 ≤ s.h i ∧ s.h i ≤ 1125899906842624 := (fun i hi => hall i (by omega)); simp only [decide_eq_true_eq, Bool.false_eq_true, false_iff]; first | exact ⟨fun h => ⟨hs2, by omega, by omega, h⟩, fun h => h.2.2.2⟩ | exact fun h => by omega

theorem give_ok {gp gs gh c n : Nat} {A : Option Addr} {own : List Int} {lost : Int} (s : Seat) (j : Nat) (amount fee : Int) (w : World) (hp0 : Blk w gp 66 #[.slice A n c, .map (some gs), .map (some gh), .int .i64 (lost)]) (hO0 : OVec w 0 3 iv 1 A n c own) (n4 : rowOf A c ≠ some gp) (hj : j < 2) (hp : 0 ≤ s.p j ∧ s.p j < n) (h1 : -2251799813685248 ≤ amount ∧ amount ≤ 2251799813685248) (h2 : 0 ≤ fee ∧ fee ≤ 1125899906842624) (h3 : -2251799813685248 ≤ own.getD (s.p j).toNat 0 ∧ own.getD (s.p j).toNat 0 ≤ 2251799813685248) (h4 : 0 ≤ lost ∧ lost ≤ 2251799813685248) : Calls Tryz.prog 46 #[.pointer (some ⟨gp, 0, none⟩), .agg (seatV s).toArray, .int .i64 (((j : Nat) : Int)), .int .i64 (amount), .int .i64 (fee)] w fun r w' => r = .returned (.tuple #[]) ∧ Blk w' gp 66 #[.slice A n c, .map (some gs), .map (some gh), .int .i64 (lost + fee)] ∧ OVec w' 0 3 iv 1 A n c (own.set (s.p j).toNat (own.getD (s.p j).toNat 0 - (amount + fee))) ∧ ChP w w' (fun k => k = gp ∨ rowOf A c = some k) := by
 have hon := hO0.1
 refine enter Tryz.func46 rfl rfl ?_
 have L0 := ChP.refl w (fun k => k = gp ∨ rowOf A c = some k)
 refine WC.seq (WC.region ?_)
 refine W.ef rfl rfl rfl ?_
 refine Ef.boxA rfl ?_
 intro g0_0 w0_0 hg0_0 b0_0 h0_0
 have L1 := L0.le h0_0
 have b0_0 : Blk w0_0 g0_0 44 (seatV s).toArray := b0_0
 refine W.nil (E.thenN (WC.seq ?_))
 refine WC.draw [0, 1, 2, 3, 4, 5, 6, 7, 8, 9, 10, 11, 12, 13, 14, 15] mixed (by kernel_rfl) ?_
 intro w1 d1
 have L2 := L1.le d1
 refine G.any rfl rfl (.move rfl) rfl rfl rfl ?_
 refine G.any rfl rfl (.nilCheck rfl) rfl rfl rfl ?_
 refine G.any rfl rfl (.field0 fa66_0 rfl) rfl rfl rfl ?_
 have f3 := (hp0.le (h0_0.trans d1))
 refine G.rd rfl rfl (.loadB (v := .slice A n c) na22 rfl f3 rfl) rfl rfl rfl ?_
 refine G.any rfl rfl (.move rfl) rfl rfl rfl ?_
 refine G.any rfl rfl (.field0 fa44_1 rfl) rfl rfl rfl ?_
 refine G.any rfl rfl (.idxAo (j) Tryz.underlying35 sz3 rfl rfl (rfl) (by omega)) rfl rfl rfl ?_
 have f4 := (b0_0.le d1)
 refine G.rd rfl rfl (.loadB (v := .int .i64 ((s.p j))) na3 rfl f4 (seatP_at s (by omega))) rfl rfl rfl ?_
 refine G.any rfl rfl (.idxS (((s.p j)).toNat) Tryz.underlying22 sz3 rfl rfl (hO0.vec.isSome iv_row (by omega)) (by omega) (by omega)) rfl rfl rfl ?_
 have f5 := (hO0.le (h0_0.trans d1))
 refine G.rd rfl rfl (.vone (v := .int .i64 ((own.getD (((s.p j)).toNat) 0))) na3 rfl f5.vec iv_row (getS own 0 (by first | omega | (simp only [List.length_cons, List.length_nil]; omega))) rfl) rfl rfl rfl ?_
 refine G.any rfl rfl (.move rfl) rfl rfl rfl ?_
 refine G.any rfl rfl (.move rfl) rfl rfl rfl ?_
 refine G.any rfl rfl (.add rfl rfl (by omega)) rfl rfl rfl ?_
 refine G.any rfl rfl (.sub rfl rfl (by omega)) rfl rfl rfl ?_
 refine G.any rfl rfl (.idxS (((s.p j)).toNat) Tryz.underlying22 sz3 rfl rfl (hO0.vec.isSome iv_row (by omega)) (by omega) (by omega)) rfl rfl rfl ?_
 refine G.ef0 rfl rfl rfl rfl ?_
 refine Ef.vset (j := ((s.p j)).toNat) (o := 0) ((own.getD (((s.p j)).toNat) 0) - (amount + fee)) sz3 rfl (by omega) rfl f5 iv_row (getS own 0 (by omega)) (by decide) rfl rfl ?_
 intro w1_15 o1_15 h1_15
 refine ⟨fun h => absurd h (ne_true_of_eq_false (by kernel_rfl)), ?_⟩
 have L6 : ChP w w1_15 (fun k => k = gp ∨ rowOf A c = some k) := L2.ch h1_15 (fun i hi _ => (fun i hi => Or.inr hi) i hi)
 refine G.nil (E.thenN (WC.region ?_))
 refine W.any (.move rfl) rfl rfl rfl ?_
 refine W.any (.nilCheck rfl) rfl rfl rfl ?_
 refine W.any (.field0 fa66_3 rfl) rfl rfl rfl ?_
 have f7 := (f3.ch h1_15 n4)
 refine W.rd (.loadB (v := .int .i64 (lost)) na3 rfl f7 rfl) rfl rfl rfl ?_
 refine W.any (.move rfl) rfl rfl rfl ?_
 refine W.any (.add rfl rfl (by omega)) rfl rfl rfl ?_
 refine W.any (.nilCheck rfl) rfl rfl rfl ?_
 refine W.any (.field0 fa66_3 rfl) rfl rfl rfl ?_
 refine W.ef0 rfl rfl ?_
 refine Ef.store sz3 rfl rfl f7 (by first | decide | (simp; done)) (rfl) ?_
 intro w2_8 b2_8 h2_8
 have b2_8 : Blk w2_8 gp 66 #[.slice A n c, .map (some gs), .map (some gh), .int .i64 ((lost + fee))] := b2_8
 have L8 : ChP w w2_8 (fun k => k = gp ∨ rowOf A c = some k) := L6.ch h2_8 (fun i hi _ => by cases hi; exact Or.inl rfl)
 refine W.nil (E.end_ ?_)
 have f9 := (o1_15.ch h2_8 (fun q hq => by cases hq; exact n4))
 refine E.ret0 rfl ?_
 exact ⟨rfl, b2_8, f9, L8⟩

theorem lopen_ok {gp gs gh c cs ck : Nat} {A : Option Addr} {own : List Int} {ls : SM} {lh : HM} {lost : Int} (s : Seat) (fee : Int) (w : World) (hL : LedL w gp gs gh A c cs ck own ls lh lost) (hw : ∀ i, 0 ≤ own.getD i 0 ∧ own.getD i 0 ≤ 1125899906842624) (hl : 0 ≤ lost ∧ lost ≤ 1125899906842624) : Calls Tryz.prog 11 #[.pointer (some ⟨gp, 0, none⟩), .agg (seatV s).toArray, .int .i64 (fee)] w fun r w' => ChP w w' (LF gp gs gh A c) ∧ ((¬ (mayL own.length s ∧ 0 ≤ fee ∧ fee ≤ 1125899906842624) ∧ r = .returned (.int .i64 1) ∧ LedL w' gp gs gh A c cs ck own ls lh lost) ∨ ((mayL own.length s ∧ 0 ≤ fee ∧ fee ≤ 1125899906842624) ∧ (∃ t, getG s.ch ls = some t) ∧ r = .returned (.int .i64 4) ∧ LedL w' gp gs gh A c cs ck own ls lh lost) ∨ ((mayL own.length s ∧ 0 ≤ fee ∧ fee ≤ 1125899906842624) ∧ getG s.ch ls = none ∧ (own.getD s.p0.toNat 0 < s.h0 + fee ∨ own.getD s.p1.toNat 0 < s.h1) ∧ r = .returned (.int .i64 8) ∧ LedL w' gp gs gh A c cs ck own ls lh lost) ∨ ((mayL own.length s ∧ 0 ≤ fee ∧ fee ≤ 1125899906842624) ∧ getG s.ch ls = none ∧ ¬ (own.getD s.p0.toNat 0 < s.h0 + fee ∨ own.getD s.p1.toNat 0 < s.h1) ∧ r = .returned (.int .i64 0) ∧ LedL w' gp gs gh A c (cs + 1) ck (giveO (giveO own s 0 s.h0 fee) s 1 s.h1 0) (ls ++ [(cs, s.ch, s)]) lh (lost + fee))) := by
 have hp0 := hL.hp
 have hO0 := hL.hO
 have hS0 := hL.hS
 have hH0 := hL.hH
 have n1 := hL.ps
 have n2 := hL.ph
 have n3 := hL.sh
 have n4 := hL.op
 have n5 := hL.os
 have n6 := hL.oh
 have hw0 := hw s.p0.toNat
 have hw1 := hw s.p1.toNat
 have ep0 : s.p 0 = s.p0 := rfl
 have ep1 : s.p 1 = s.p1 := rfl
 refine enter Tryz.func11 rfl rfl ?_
 have L0 := ChP.refl w (LF gp gs gh A c)
 refine WC.seq (WC.region ?_)
 refine W.ef rfl rfl rfl ?_
 refine Ef.boxA rfl ?_
 intro g0_0 w0_0 hg0_0 b0_0 h0_0
 have L1 := L0.le h0_0
 have b0_0 : Blk w0_0 g0_0 44 (seatV s).toArray := b0_0
 refine W.any (.assign rfl) rfl rfl rfl ?_
 refine W.nil (E.thenN (WC.seq (WC.seq (WC.region ?_))))
 refine W.any (.move rfl) rfl rfl rfl ?_
 refine W.rd (.loadAll ag44 (by rfl) rfl b0_0) rfl rfl rfl ?_
 have f2 := (hL.le h0_0)
 refine W.ef rfl rfl rfl ?_
 refine Ef.call go44 rfl rfl (lmay_ok s w0_0 f2) ?_
 rintro _ w1_2 ⟨bm1_2, rfl, hbm1_2, h1_2⟩
 refine ⟨_, rfl, ?_⟩
 have L3 := L1.le h1_2
 refine W.any (.not rfl) rfl rfl rfl ?_
 by_cases q1_4 : bm1_2 = true
 ·refine W.any (.dec (.move rfl) (congrArg not (q1_4))) rfl rfl rfl ?_
  refine W.rdg (Any.rd (.move rfl) _) rfl rfl rfl (rfl) rfl rfl ?_
  refine W.efg rfl rfl rfl (rfl) rfl rfl ?_
  refine Ef.call go45 rfl rfl (coin_ok fee w1_2) ?_
  rintro _ w1_6 ⟨rfl, h1_6⟩
  refine ⟨_, rfl, ?_⟩
  have L4 := L3.le h1_6
  refine W.rdg (Any.rd (.not rfl) _) rfl rfl rfl (rfl) rfl rfl ?_
  refine W.any (.pickF rfl rfl rfl) rfl rfl rfl ?_
  refine W.nil (E.thenN ?_)
  by_cases c0 : (coinL fee) = true
  ·refine WC.condN rfl (congrArg not (c0)) ?_
   have hok : mayL own.length s ∧ 0 ≤ fee ∧ fee ≤ 1125899906842624 := ⟨hbm1_2.1 q1_4, coin_iff.1 c0⟩
   have hm := hok.1
   unfold mayL at hm
   refine WC.skip (E.thenN (WC.seq (WC.seq ?_)))
   refine WC.draw [0, 1, 2, 3, 4, 5, 6, 7, 8, 9, 10, 11, 12] mixed (by kernel_rfl) ?_
   intro w3 d3
   have L5 := L4.le d3
   refine G.any rfl rfl (.move rfl) rfl rfl rfl ?_
   refine G.any rfl rfl (.nilCheck rfl) rfl rfl rfl ?_
   refine G.any rfl rfl (.field0 fa66_1 rfl) rfl rfl rfl ?_
   have f6 := (hp0.le (h0_0.trans (h1_2.trans (h1_6.trans d3))))
   refine G.rd rfl rfl (.loadB (v := .map (some gs)) na63 rfl f6 rfl) rfl rfl rfl ?_
   refine G.any rfl rfl (.field0 fa44_0 rfl) rfl rfl rfl ?_
   have f7 := (b0_0.le (h1_2.trans (h1_6.trans d3)))
   refine G.rd rfl rfl (.loadB (v := .int .i64 (s.ch)) na3 rfl f7 rfl) rfl rfl rfl ?_
   rcases optG (getG s.ch ls) with hk3_6 | ⟨vhk3_6, hk3_6⟩
   ·have f8 := (hS0.le (h0_0.trans (h1_2.trans (h1_6.trans d3))))
    refine G.rd rfl rfl (.as (.lookup2 (key := s.ch) Tryz.underlying63 kint z44 rfl rfl f8) (by rw [hk3_6] <;> rfl)) rfl rfl rfl ?_
    refine G.any rfl rfl (.move rfl) rfl rfl rfl ?_
    refine G.any rfl rfl (.extract (v := .agg (seatV noSeat).toArray) rfl rfl) rfl rfl rfl ?_
    refine G.any rfl rfl (.extract (v := .bool false) rfl rfl) rfl rfl rfl ?_
    refine G.ef rfl rfl rfl rfl rfl ?_
    refine Ef.allocA z44 ?_
    intro g3_10 w3_10 hg3_10 b3_10 h3_10
    refine ⟨fun _ => h3_10, ?_⟩
    have L9 := L5.le h3_10
    have b3_10 : Blk w3_10 g3_10 44 (seatV noSeat).toArray := b3_10
    refine G.ef0 rfl rfl rfl rfl ?_
    refine Ef.storeAll sz44 (by rfl) rfl rfl b3_10 (by simp only [List.size_toArray, seatV_row.len]) (seatV_row.one noSeat) ?_
    intro w3_11 b3_11 h3_11
    refine ⟨fun h => absurd h (ne_true_of_eq_false (by kernel_rfl)), ?_⟩
    have b3_11 : Blk w3_11 g3_10 44 (seatV noSeat).toArray := b3_11
    have L10 : ChP w w3_11 (LF gp gs gh A c) := L9.ch h3_11 (fun i hi hlt => by cases hi; exact absurd hlt (by have := L5.size; have := hg3_10; omega))
    refine G.any rfl rfl (.assign rfl) rfl rfl rfl ?_
    refine G.nil (E.thenN (WC.seq (WC.region ?_)))
    refine W.any (.move rfl) rfl rfl rfl ?_
    refine W.nil (E.thenN ?_)
    refine WC.condF rfl ?_
    refine WC.skip (E.thenN (WC.seq (WC.seq ?_)))
    refine WC.draw [0, 1, 2, 3, 4, 5, 6, 7, 8, 9, 10, 11, 12, 13, 14, 15, 16, 17, 18, 19, 20, 21, 22, 23, 24, 25, 26, 27, 28, 29] mixed (by kernel_rfl) ?_
    intro w6 d6
    have L11 := L10.le d6
    refine G.any rfl rfl (.move rfl) rfl rfl rfl ?_
    refine G.any rfl rfl (.nilCheck rfl) rfl rfl rfl ?_
    refine G.any rfl rfl (.field0 fa66_0 rfl) rfl rfl rfl ?_
    have f12 := (((f6.le h3_10).ch h3_11 (fun h => (show g3_10 ≠ gp from by have := f6.lt; omega) (Option.some.inj h))).le d6)
    refine G.rd rfl rfl (.loadB (v := .slice A own.length c) na22 rfl f12 rfl) rfl rfl rfl ?_
    refine G.any rfl rfl (.field0 fa44_1 rfl) rfl rfl rfl ?_
    refine G.any rfl rfl (.idxAo (0) Tryz.underlying35 sz3 rfl rfl (rfl) (by omega)) rfl rfl rfl ?_
    have f13 := (((f7.le h3_10).ch h3_11 (fun h => (show g3_10 ≠ g0_0 from by have := f7.lt; omega) (Option.some.inj h))).le d6)
    refine G.rd rfl rfl (.loadB (v := .int .i64 (s.p0)) na3 rfl f13 rfl) rfl rfl rfl ?_
    refine G.any rfl rfl (.idxS ((s.p0).toNat) Tryz.underlying22 sz3 rfl rfl (hO0.vec.isSome iv_row (by omega)) (by omega) (by omega)) rfl rfl rfl ?_
    have f14 := (((hO0.le (h0_0.trans (h1_2.trans (h1_6.trans (d3.trans h3_10))))).ch h3_11 (fun q hq => by cases hq; exact (fun he => by have := (hO0.row he).2; have := h0_0.size; have := h1_2.size; have := h1_6.size; have := d3.size; omega))).le d6)
    refine G.rd rfl rfl (.vone (v := .int .i64 ((own.getD ((s.p0).toNat) 0))) na3 rfl f14.vec iv_row (getS own 0 (by first | omega | (simp only [List.length_cons, List.length_nil]; omega))) rfl) rfl rfl rfl ?_
    refine G.any rfl rfl (.field0 fa44_2 rfl) rfl rfl rfl ?_
    refine G.any rfl rfl (.idxAo (0) Tryz.underlying35 sz3 rfl rfl (rfl) (by omega)) rfl rfl rfl ?_
    refine G.rd rfl rfl (.loadB (v := .int .i64 (s.h0)) na3 rfl f13 rfl) rfl rfl rfl ?_
    refine G.any rfl rfl (.move rfl) rfl rfl rfl ?_
    refine G.any rfl rfl (.add rfl rfl (by omega)) rfl rfl rfl ?_
    refine G.any rfl rfl (.lss rfl rfl) rfl rfl rfl ?_
    by_cases q6_15 : (own.getD ((s.p0).toNat) 0) < (s.h0 + fee)
    ·refine G.any rfl rfl (.dec (.move rfl) (decide_eq_true q6_15)) rfl rfl rfl ?_
     refine G.skip rfl rfl rfl rfl (rfl) rfl rfl ?_
     refine G.skip rfl rfl rfl rfl (rfl) rfl rfl ?_
     refine G.skip rfl rfl rfl rfl (rfl) rfl rfl ?_
     refine G.skip rfl rfl rfl rfl (rfl) rfl rfl ?_
     refine G.skip rfl rfl rfl rfl (rfl) rfl rfl ?_
     refine G.skip rfl rfl rfl rfl (rfl) rfl rfl ?_
     refine G.skip rfl rfl rfl rfl (rfl) rfl rfl ?_
     refine G.skip rfl rfl rfl rfl (rfl) rfl rfl ?_
     refine G.skip rfl rfl rfl rfl (rfl) rfl rfl ?_
     refine G.skip rfl rfl rfl rfl (rfl) rfl rfl ?_
     refine G.skip rfl rfl rfl rfl (rfl) rfl rfl ?_
     refine G.skip rfl rfl rfl rfl (rfl) rfl rfl ?_
     refine G.skip rfl rfl rfl rfl (rfl) rfl rfl ?_
     refine G.any rfl rfl (.pickT rfl rfl rfl) rfl rfl rfl ?_
     refine G.nil (E.thenN ?_)
     refine WC.condT rfl ?_
     refine WC.seq (WC.region ?_)
     refine W.any (.assign rfl) rfl rfl rfl ?_
     refine W.nil (E.thenN (WC.ret (E.thenR ?_)))
     have f15 := (((f8.le h3_10).ch h3_11 (fun h => (show g3_10 ≠ gs from by have := f8.lt; omega) (Option.some.inj h))).le d6)
     have f16 := (((hH0.le (h0_0.trans (h1_2.trans (h1_6.trans (d3.trans h3_10))))).ch h3_11 (fun h => (show g3_10 ≠ gh from by have := hH0.lt; have := h0_0.size; have := h1_2.size; have := h1_6.size; have := d3.size; omega) (Option.some.inj h))).le d6)
     refine E.retG1 rfl rfl ?_
     exact ⟨L11, .inr (.inr (.inl ⟨hok, hk3_6, (by omega), rfl, ⟨f12, f14, f15, f16, n1, n2, n3, n4, n5, n6⟩⟩))⟩
    ·refine G.any rfl rfl (.dec (.move rfl) (decide_eq_false q6_15)) rfl rfl rfl ?_
     refine G.anyg rfl rfl (.move rfl) rfl rfl rfl (rfl) rfl rfl ?_
     refine G.anyg rfl rfl (.nilCheck rfl) rfl rfl rfl (rfl) rfl rfl ?_
     refine G.anyg rfl rfl (.field0 fa66_0 rfl) rfl rfl rfl (rfl) rfl rfl ?_
     refine G.rdg rfl rfl (.loadB (v := .slice A own.length c) na22 rfl f12 rfl) rfl rfl rfl (rfl) rfl rfl ?_
     refine G.anyg rfl rfl (.field0 fa44_1 rfl) rfl rfl rfl (rfl) rfl rfl ?_
     refine G.anyg rfl rfl (.idxAo (1) Tryz.underlying35 sz3 rfl rfl (rfl) (by omega)) rfl rfl rfl (rfl) rfl rfl ?_
     refine G.rdg rfl rfl (.loadB (v := .int .i64 (s.p1)) na3 rfl f13 rfl) rfl rfl rfl (rfl) rfl rfl ?_
     refine G.anyg rfl rfl (.idxS ((s.p1).toNat) Tryz.underlying22 sz3 rfl rfl (hO0.vec.isSome iv_row (by omega)) (by omega) (by omega)) rfl rfl rfl (rfl) rfl rfl ?_
     refine G.rdg rfl rfl (.vone (v := .int .i64 ((own.getD ((s.p1).toNat) 0))) na3 rfl f14.vec iv_row (getS own 0 (by first | omega | (simp only [List.length_cons, List.length_nil]; omega))) rfl) rfl rfl rfl (rfl) rfl rfl ?_
     refine G.anyg rfl rfl (.field0 fa44_2 rfl) rfl rfl rfl (rfl) rfl rfl ?_
     refine G.anyg rfl rfl (.idxAo (1) Tryz.underlying35 sz3 rfl rfl (rfl) (by omega)) rfl rfl rfl (rfl) rfl rfl ?_
     refine G.rdg rfl rfl (.loadB (v := .int .i64 (s.h1)) na3 rfl f13 rfl) rfl rfl rfl (rfl) rfl rfl ?_
     refine G.anyg rfl rfl (.lss rfl rfl) rfl rfl rfl (rfl) rfl rfl ?_
     refine G.any rfl rfl (.pickF rfl rfl rfl) rfl rfl rfl ?_
     refine G.nil (E.thenN ?_)
     by_cases c2 : (own.getD ((s.p1).toNat) 0) < s.h1
     ·refine WC.condY rfl (decide_eq_true c2) ?_
      refine WC.seq (WC.region ?_)
      refine W.any (.assign rfl) rfl rfl rfl ?_
      refine W.nil (E.thenN (WC.ret (E.thenR ?_)))
      have f17 := (((f8.le h3_10).ch h3_11 (fun h => (show g3_10 ≠ gs from by have := f8.lt; omega) (Option.some.inj h))).le d6)
      have f18 := (((hH0.le (h0_0.trans (h1_2.trans (h1_6.trans (d3.trans h3_10))))).ch h3_11 (fun h => (show g3_10 ≠ gh from by have := hH0.lt; have := h0_0.size; have := h1_2.size; have := h1_6.size; have := d3.size; omega) (Option.some.inj h))).le d6)
      refine E.retG1 rfl rfl ?_
      exact ⟨L11, .inr (.inr (.inl ⟨hok, hk3_6, (by omega), rfl, ⟨f12, f14, f17, f18, n1, n2, n3, n4, n5, n6⟩⟩))⟩
     ·refine WC.condN rfl (decide_eq_false c2) ?_
      refine WC.skip (E.thenN (WC.seq (WC.region ?_)))
      refine W.any (.move rfl) rfl rfl rfl ?_
      refine W.rd (.loadAll ag44 (by rfl) rfl f13) rfl rfl rfl ?_
      refine W.any (.field0 fa44_2 rfl) rfl rfl rfl ?_
      refine W.any (.idxAo (0) Tryz.underlying35 sz3 rfl rfl (rfl) (by omega)) rfl rfl rfl ?_
      refine W.rd (.loadB (v := .int .i64 (s.h0)) na3 rfl f13 rfl) rfl rfl rfl ?_
      refine W.any (.move rfl) rfl rfl rfl ?_
      refine W.ef rfl rfl rfl ?_
      refine Ef.call go46 rfl rfl (give_ok (own := own) (lost := lost) s 0 s.h0 fee w6 f12 f14 n4 (by decide) (by omega) (by omega) (by omega) (by have := hw (s.p 0).toNat; omega) (by omega)) ?_
      rintro _ w8_6 ⟨rfl, bp8_6, bo8_6, h8_6⟩
      refine ⟨_, rfl, ?_⟩
      have L19 := L11.sub h8_6 (fun i hi hlt => Or.elim hi (fun hi => (by subst hi; exact Or.inl rfl)) (fun hi => ((fun i hi => Or.inr (Or.inr (Or.inr hi))) i hi)))
      refine W.nil (E.thenN (WC.seq (WC.region ?_)))
      refine W.any (.move rfl) rfl rfl rfl ?_
      have f20 := (f13.chP h8_6 (fun hF => Or.elim hF (fun hF => (show g0_0 ≠ gp from by have := hp0.lt; omega) hF) (fun hF => (fun he => by have := (hO0.row he).2; omega) hF)))
      refine W.rd (.loadAll ag44 (by rfl) rfl f20) rfl rfl rfl ?_
      refine W.any (.field0 fa44_2 rfl) rfl rfl rfl ?_
      refine W.any (.idxAo (1) Tryz.underlying35 sz3 rfl rfl (rfl) (by omega)) rfl rfl rfl ?_
      refine W.rd (.loadB (v := .int .i64 (s.h1)) na3 rfl f20 rfl) rfl rfl rfl ?_
      refine W.ef rfl rfl rfl ?_
      refine Ef.call go46 rfl rfl (give_ok (own := (own.set (s.p 0).toNat (own.getD (s.p 0).toNat 0 - (s.h0 + fee)))) (lost := (lost + fee)) s 1 s.h1 0 w8_6 bp8_6 bo8_6 n4 (by decide) (by omega) (by omega) (by omega) (by have e9 := giveO_ne (own := own) (s := s) (j := 0) (k := 1) (am := s.h0) (fee := fee) (by omega) (by omega) (by omega); unfold giveO at e9; rw [e9]; have := hw (s.p 1).toNat; omega) (by omega)) ?_
      rintro _ w9_5 ⟨rfl, bp9_5, bo9_5, h9_5⟩
      refine ⟨_, rfl, ?_⟩
      have L21 := L19.sub h9_5 (fun i hi hlt => Or.elim hi (fun hi => (by subst hi; exact Or.inl rfl)) (fun hi => ((fun i hi => Or.inr (Or.inr (Or.inr hi))) i hi)))
      refine W.nil (E.thenN (WC.seq ?_))
      refine WC.draw [0, 1, 2, 3, 4, 5, 6, 7] mixed (by kernel_rfl) ?_
      intro w10 d10
      have L22 := L21.le d10
      refine G.any rfl rfl (.move rfl) rfl rfl rfl ?_
      refine G.any rfl rfl (.nilCheck rfl) rfl rfl rfl ?_
      refine G.any rfl rfl (.field0 fa66_1 rfl) rfl rfl rfl ?_
      have f23 := (bp9_5.le d10)
      refine G.rd rfl rfl (.loadB (v := .map (some gs)) na63 rfl f23 rfl) rfl rfl rfl ?_
      refine G.any rfl rfl (.field0 fa44_0 rfl) rfl rfl rfl ?_
      have f24 := ((f20.chP h9_5 (fun hF => Or.elim hF (fun hF => (show g0_0 ≠ gp from by have := hp0.lt; omega) hF) (fun hF => (fun he => by have := (hO0.row he).2; omega) hF))).le d10)
      refine G.rd rfl rfl (.loadB (v := .int .i64 (s.ch)) na3 rfl f24 rfl) rfl rfl rfl ?_
      refine G.rd rfl rfl (.loadAll ag44 (by rfl) rfl f24) rfl rfl rfl ?_
      have f25 := ((((((f8.le h3_10).ch h3_11 (fun h => (show g3_10 ≠ gs from by have := f8.lt; omega) (Option.some.inj h))).le d6).chP h8_6 (fun hF => Or.elim hF (fun hF => (Ne.symm n1) hF) (fun hF => n5 hF))).chP h9_5 (fun hF => Or.elim hF (fun hF => (Ne.symm n1) hF) (fun hF => n5 hF))).le d10)
      refine G.ef0 rfl rfl rfl rfl ?_
      refine Ef.insertG (key := s.ch) (u := s) Tryz.underlying63 kint rfl rfl rfl f25 (hk3_6) ?_
      intro w10_7 b10_7 h10_7
      refine ⟨fun h => absurd h (ne_true_of_eq_false (by kernel_rfl)), ?_⟩
      have L26 : ChP w w10_7 (LF gp gs gh A c) := L22.ch h10_7 (fun i hi _ => by cases hi; exact Or.inr (Or.inl rfl))
      refine G.nil (E.thenN (WC.seq (WC.region ?_)))
      refine W.any (.assign rfl) rfl rfl rfl ?_
      refine W.nil (E.thenN (WC.ret ?_))
      have f27 := ((bo9_5.le d10).ch h10_7 (fun q hq => by cases hq; exact n5))
      have f28 := (f23.ch h10_7 (fun h => (Ne.symm n1) (Option.some.inj h)))
      have f29 := (((((((hH0.le (h0_0.trans (h1_2.trans (h1_6.trans (d3.trans h3_10))))).ch h3_11 (fun h => (show g3_10 ≠ gh from by have := hH0.lt; have := h0_0.size; have := h1_2.size; have := h1_6.size; have := d3.size; omega) (Option.some.inj h))).le d6).chP h8_6 (fun hF => Or.elim hF (fun hF => (Ne.symm n2) hF) (fun hF => n6 hF))).chP h9_5 (fun hF => Or.elim hF (fun hF => (Ne.symm n2) hF) (fun hF => n6 hF))).le d10).ch h10_7 (fun h => n3 (Option.some.inj h)))
      refine E.retG1 rfl rfl ?_
      exact ⟨L26, .inr (.inr (.inr ⟨hok, hk3_6, (by omega), rfl, ⟨(by rw [giveO_len, giveO_len]; have hh := f28; rw [Int.add_zero] at hh; exact hh), (by rw [giveO_len, giveO_len]; exact f27), b10_7, f29, n1, n2, n3, n4, n5, n6⟩⟩))⟩
   ·have f30 := (hS0.le (h0_0.trans (h1_2.trans (h1_6.trans d3))))
    refine G.rd rfl rfl (.as (.lookup2 (key := s.ch) Tryz.underlying63 kint z44 rfl rfl f30) (by rw [hk3_6] <;> rfl)) rfl rfl rfl ?_
    refine G.any rfl rfl (.move rfl) rfl rfl rfl ?_
    refine G.any rfl rfl (.extract (v := .agg (seatV vhk3_6).toArray) rfl rfl) rfl rfl rfl ?_
    refine G.any rfl rfl (.extract (v := .bool true) rfl rfl) rfl rfl rfl ?_
    refine G.ef rfl rfl rfl rfl rfl ?_
    refine Ef.allocA z44 ?_
    intro g3_10_1 w3_10_1 hg3_10_1 b3_10_1 h3_10_1
    refine ⟨fun _ => h3_10_1, ?_⟩
    have L31 := L5.le h3_10_1
    have b3_10_1 : Blk w3_10_1 g3_10_1 44 (seatV noSeat).toArray := b3_10_1
    refine G.ef0 rfl rfl rfl rfl ?_
    refine Ef.storeAll sz44 (by rfl) rfl rfl b3_10_1 (by simp only [List.size_toArray, seatV_row.len]) (seatV_row.one vhk3_6) ?_
    intro w3_11_1 b3_11_1 h3_11_1
    refine ⟨fun h => absurd h (ne_true_of_eq_false (by kernel_rfl)), ?_⟩
    have b3_11_1 : Blk w3_11_1 g3_10_1 44 (seatV vhk3_6).toArray := b3_11_1
    have L32 : ChP w w3_11_1 (LF gp gs gh A c) := L31.ch h3_11_1 (fun i hi hlt => by cases hi; exact absurd hlt (by have := L5.size; have := hg3_10_1; omega))
    refine G.any rfl rfl (.assign rfl) rfl rfl rfl ?_
    refine G.nil (E.thenN (WC.seq (WC.region ?_)))
    refine W.any (.move rfl) rfl rfl rfl ?_
    refine W.nil (E.thenN ?_)
    refine WC.condT rfl ?_
    refine WC.seq (WC.region ?_)
    refine W.any (.assign rfl) rfl rfl rfl ?_
    refine W.nil (E.thenN (WC.ret (E.thenR ?_)))
    have f33 := ((hO0.le (h0_0.trans (h1_2.trans (h1_6.trans (d3.trans h3_10_1))))).ch h3_11_1 (fun q hq => by cases hq; exact (fun he => by have := (hO0.row he).2; have := h0_0.size; have := h1_2.size; have := h1_6.size; have := d3.size; omega)))
    have f34 := ((f6.le h3_10_1).ch h3_11_1 (fun h => (show g3_10_1 ≠ gp from by have := f6.lt; omega) (Option.some.inj h)))
    have f35 := ((f30.le h3_10_1).ch h3_11_1 (fun h => (show g3_10_1 ≠ gs from by have := f30.lt; omega) (Option.some.inj h)))
    have f36 := ((hH0.le (h0_0.trans (h1_2.trans (h1_6.trans (d3.trans h3_10_1))))).ch h3_11_1 (fun h => (show g3_10_1 ≠ gh from by have := hH0.lt; have := h0_0.size; have := h1_2.size; have := h1_6.size; have := d3.size; omega) (Option.some.inj h)))
    refine E.retG1 rfl rfl ?_
    exact ⟨L32, .inr (.inl ⟨hok, ⟨_, hk3_6⟩, rfl, ⟨f34, f33, f35, f36, n1, n2, n3, n4, n5, n6⟩⟩)⟩
  ·refine WC.condY rfl (congrArg not ((Bool.eq_false_iff.2 c0))) ?_
   refine WC.seq (WC.region ?_)
   refine W.any (.assign rfl) rfl rfl rfl ?_
   refine W.nil (E.thenN (WC.ret (E.thenR ?_)))
   have f37 := (hO0.le (h0_0.trans (h1_2.trans h1_6)))
   have f38 := (hp0.le (h0_0.trans (h1_2.trans h1_6)))
   have f39 := (hS0.le (h0_0.trans (h1_2.trans h1_6)))
   have f40 := (hH0.le (h0_0.trans (h1_2.trans h1_6)))
   refine E.retG1 rfl rfl ?_
   exact ⟨L4, .inl ⟨(fun h => by first | (exact absurd (hbm1_2.2 h.1) (by assumption)) | (exact absurd (coin_iff.2 h.2) (by assumption))), rfl, ⟨f38, f37, f39, f40, n1, n2, n3, n4, n5, n6⟩⟩⟩
 ·refine W.any (.dec (.move rfl) (congrArg not ((Bool.eq_false_iff.2 q1_4)))) rfl rfl rfl ?_
  refine W.skip rfl rfl rfl (rfl) rfl rfl ?_
  refine W.skip rfl rfl rfl (rfl) rfl rfl ?_
  refine W.skip rfl rfl rfl (rfl) rfl rfl ?_
  refine W.any (.pickT rfl rfl rfl) rfl rfl rfl ?_
  refine W.nil (E.thenN ?_)
  refine WC.condT rfl ?_
  refine WC.seq (WC.region ?_)
  refine W.any (.assign rfl) rfl rfl rfl ?_
  refine W.nil (E.thenN (WC.ret (E.thenR ?_)))
  have f41 := (hO0.le (h0_0.trans h1_2))
  have f42 := (hp0.le (h0_0.trans h1_2))
  have f43 := (hS0.le (h0_0.trans h1_2))
  have f44 := (hH0.le (h0_0.trans h1_2))
  refine E.retG1 rfl rfl ?_
  exact ⟨L3, .inl ⟨(fun h => by first | (exact absurd (hbm1_2.2 h.1) (by assumption)) | (exact absurd (coin_iff.2 h.2) (by assumption))), rfl, ⟨f42, f41, f43, f44, n1, n2, n3, n4, n5, n6⟩⟩⟩
end Go.Proofs.YtmgfgbplbemklaaGreat

namespace Go.Proofs.YtmgfgbplbemklaaGreat
open Go Go.Sx Go.Num Go.Gsp Go.Lsp
set_option maxRecDepth 20000
set_option linter.unusedSimpArgs false
set_option linter.unusedVariables false
theorem stay_i {x : Int} (w : World) : (Instr.keyThatStays (ikf x) (ikf x)).run Tryz.prog w = .ok (ikf x) w := by
  have h : Instr.sameBits 10000 (.int .i64 x) (.int .i64 x) = true := by simp [Instr.sameBits]
  unfold ikf
  simp [Instr.keyThatStays, h]
theorem lfree_ok {gp gs gh c cs ck : Nat} {A : Option Addr} {own : List Int} {ls : SM} {lh : HM} {lost : Int} (ch : Int) (w : World) (hL : LedL w gp gs gh A c cs ck own ls lh lost) (hb : ∀ x ∈ lh, 0 ≤ x.2.2.am) (ht0 : heldL lh ch 0 ≤ 1125899906842624) (ht1 : heldL lh ch 1 ≤ 1125899906842624) : Calls Tryz.prog 48 #[.pointer (some ⟨gp, 0, none⟩), .int .i64 (ch)] w fun r w' => r = .returned (.bool (decide (heldL lh ch 0 + heldL lh ch 1 = 0))) ∧ Le w w' := by
 have e0 : 0 ≤ heldL lh ch 0 := sumF_nonneg (heldF_nn hb)
 have e1 : 0 ≤ heldL lh ch 1 := sumF_nonneg (heldF_nn hb)
 refine enter Tryz.func48 rfl rfl ?_
 have L0 := Le.refl w
 refine WC.seq (WC.region ?_)
 refine W.any (.assign rfl) rfl rfl rfl ?_
 refine W.nil (E.thenN (WC.seq (WC.region ?_)))
 refine W.any (.move rfl) rfl rfl rfl ?_
 refine W.any (.move rfl) rfl rfl rfl ?_
 refine W.ef rfl rfl rfl ?_
 refine Ef.call go15 rfl rfl (lheld_ok ch 0 w (hL.le L0) hb (by omega)) ?_
 rintro _ w1_2 ⟨rfl, h1_2⟩
 refine ⟨_, rfl, ?_⟩
 have L1 := L0.trans h1_2
 refine W.any (.move rfl) rfl rfl rfl ?_
 refine W.any (.move rfl) rfl rfl rfl ?_
 refine W.ef rfl rfl rfl ?_
 refine Ef.call go15 rfl rfl (lheld_ok ch 1 w1_2 (hL.le L1) hb (by omega)) ?_
 rintro _ w1_5 ⟨rfl, h1_5⟩
 refine ⟨_, rfl, ?_⟩
 have L2 := L1.trans h1_5
 refine W.any (.add rfl rfl (by omega)) rfl rfl rfl ?_
 refine W.any (.eql rfl rfl) rfl rfl rfl ?_
 refine W.any (.assign rfl) rfl rfl rfl ?_
 refine W.nil (E.thenN (WC.ret ?_))
 refine E.retG1 rfl rfl ?_
 exact ⟨rfl, L2⟩

theorem loffer_ok {gp gs gh c cs ck : Nat} {A : Option Addr} {own : List Int} {ls : SM} {lh : HM} {lost : Int} (ch side id am : Int) (pt : Nat) (w : World) (hL : LedL w gp gs gh A c cs ck own ls lh lost) (hpt : pt < 18446744073709551616) (hw : ∀ x ∈ ls, ∀ i, 0 ≤ x.2.2.h i ∧ x.2.2.h i ≤ 1125899906842624) : Calls Tryz.prog 14 #[.pointer (some ⟨gp, 0, none⟩), .int .i64 (ch), .int .i64 (side), .int .i64 (id), .int .i64 (am), .int .u64 (((pt : Nat) : Int))] w fun r w' => ChP w w' (LF gp gs gh A c) ∧ ((¬ offerOk side id am pt ∧ r = .returned (.int .i64 1) ∧ LedL w' gp gs gh A c cs ck own ls lh lost) ∨ (offerOk side id am pt ∧ getG ch ls = none ∧ r = .returned (.int .i64 5) ∧ LedL w' gp gs gh A c cs ck own ls lh lost) ∨ (offerOk side id am pt ∧ ∃ s, getG ch ls = some s ∧ ((∃ h, getG (⟨ch, side, id⟩ : Spot) lh = some h ∧ r = .returned (.int .i64 4) ∧ LedL w' gp gs gh A c cs ck own ls lh lost) ∨ (getG (⟨ch, side, id⟩ : Spot) lh = none ∧ ((s.h side.toNat < am ∧ r = .returned (.int .i64 8) ∧ LedL w' gp gs gh A c cs ck own ls lh lost) ∨ (¬ s.h side.toNat < am ∧ r = .returned (.int .i64 0) ∧ LedL w' gp gs gh A c cs (ck + 1) own (updM ch (s.setH side.toNat (s.h side.toNat - am)) ls) (lh ++ [(ck, (⟨ch, side, id⟩ : Spot), ⟨am, pt⟩)]) lost)))))) := by
 have hp0 := hL.hp
 have hO0 := hL.hO
 have hS0 := hL.hS
 have hH0 := hL.hH
 have n1 := hL.ps
 have n2 := hL.ph
 have n3 := hL.sh
 have n4 := hL.op
 have n5 := hL.os
 have n6 := hL.oh
 refine enter Tryz.func14 rfl rfl ?_
 have L0 := ChP.refl w (LF gp gs gh A c)
 refine WC.seq (WC.region ?_)
 refine W.any (.assign rfl) rfl rfl rfl ?_
 refine W.nil (E.thenN (WC.seq (WC.seq (WC.region ?_))))
 refine W.any (.move rfl) rfl rfl rfl ?_
 refine W.any (.lss rfl rfl) rfl rfl rfl ?_
 by_cases q1_2 : side < 0
 ·refine W.any (.dec (.move rfl) (decide_eq_true q1_2)) rfl rfl rfl ?_
  refine W.skip rfl rfl rfl (rfl) rfl rfl ?_
  refine W.skip rfl rfl rfl (rfl) rfl rfl ?_
  refine W.any (.pickT rfl rfl rfl) rfl rfl rfl ?_
  refine W.any (.move rfl) rfl rfl rfl ?_
  refine W.skip rfl rfl rfl (rfl) rfl rfl ?_
  refine W.skip rfl rfl rfl (rfl) rfl rfl ?_
  refine W.any (.pickT rfl rfl rfl) rfl rfl rfl ?_
  refine W.any (.move rfl) rfl rfl rfl ?_
  refine W.skip rfl rfl rfl (rfl) rfl rfl ?_
  refine W.skip rfl rfl rfl (rfl) rfl rfl ?_
  refine W.any (.pickT rfl rfl rfl) rfl rfl rfl ?_
  refine W.any (.move rfl) rfl rfl rfl ?_
  refine W.skip rfl rfl rfl (rfl) rfl rfl ?_
  refine W.skip rfl rfl rfl (rfl) rfl rfl ?_
  refine W.skip rfl rfl rfl (rfl) rfl rfl ?_
  refine W.any (.pickT rfl rfl rfl) rfl rfl rfl ?_
  refine W.any (.move rfl) rfl rfl rfl ?_
  refine W.skip rfl rfl rfl (rfl) rfl rfl ?_
  refine W.skip rfl rfl rfl (rfl) rfl rfl ?_
  refine W.any (.pickT rfl rfl rfl) rfl rfl rfl ?_
  refine W.any (.move rfl) rfl rfl rfl ?_
  refine W.skip rfl rfl rfl (rfl) rfl rfl ?_
  refine W.skip rfl rfl rfl (rfl) rfl rfl ?_
  refine W.skip rfl rfl rfl (rfl) rfl rfl ?_
  refine W.any (.pickT rfl rfl rfl) rfl rfl rfl ?_
  refine W.nil (E.thenN ?_)
  refine WC.condT rfl ?_
  refine WC.seq (WC.region ?_)
  refine W.any (.assign rfl) rfl rfl rfl ?_
  refine W.nil (E.thenN (WC.ret (E.thenR ?_)))
  refine E.retG1 rfl rfl ?_
  exact ⟨L0, .inl ⟨(fun h => by obtain ⟨h1, h2, h3, h4, h5⟩ := h; first | omega | (exact absurd (coin_iff.2 ⟨by omega, h3.2⟩) (by assumption)) | (exact absurd h5 (by assumption)) | (apply h4; omega)), rfl, ⟨hp0, hO0, hS0, hH0, n1, n2, n3, n4, n5, n6⟩⟩⟩
 ·refine W.any (.dec (.move rfl) (decide_eq_false q1_2)) rfl rfl rfl ?_
  refine W.rdg (Any.rd (.move rfl) _) rfl rfl rfl (rfl) rfl rfl ?_
  refine W.rdg (Any.rd (.gtr rfl rfl) _) rfl rfl rfl (rfl) rfl rfl ?_
  refine W.any (.pickF rfl rfl rfl) rfl rfl rfl ?_
  by_cases q1_6 : 1 < side
  ·refine W.any (.dec (.move rfl) (decide_eq_true q1_6)) rfl rfl rfl ?_
   refine W.skip rfl rfl rfl (rfl) rfl rfl ?_
   refine W.skip rfl rfl rfl (rfl) rfl rfl ?_
   refine W.any (.pickT rfl rfl rfl) rfl rfl rfl ?_
   refine W.any (.move rfl) rfl rfl rfl ?_
   refine W.skip rfl rfl rfl (rfl) rfl rfl ?_
   refine W.skip rfl rfl rfl (rfl) rfl rfl ?_
   refine W.any (.pickT rfl rfl rfl) rfl rfl rfl ?_
   refine W.any (.move rfl) rfl rfl rfl ?_
   refine W.skip rfl rfl rfl (rfl) rfl rfl ?_
   refine W.skip rfl rfl rfl (rfl) rfl rfl ?_
   refine W.skip rfl rfl rfl (rfl) rfl rfl ?_
   refine W.any (.pickT rfl rfl rfl) rfl rfl rfl ?_
   refine W.any (.move rfl) rfl rfl rfl ?_
   refine W.skip rfl rfl rfl (rfl) rfl rfl ?_
   refine W.skip rfl rfl rfl (rfl) rfl rfl ?_
   refine W.any (.pickT rfl rfl rfl) rfl rfl rfl ?_
   refine W.any (.move rfl) rfl rfl rfl ?_
   refine W.skip rfl rfl rfl (rfl) rfl rfl ?_
   refine W.skip rfl rfl rfl (rfl) rfl rfl ?_
   refine W.skip rfl rfl rfl (rfl) rfl rfl ?_
   refine W.any (.pickT rfl rfl rfl) rfl rfl rfl ?_
   refine W.nil (E.thenN ?_)
   refine WC.condT rfl ?_
   refine WC.seq (WC.region ?_)
   refine W.any (.assign rfl) rfl rfl rfl ?_
   refine W.nil (E.thenN (WC.ret (E.thenR ?_)))
   refine E.retG1 rfl rfl ?_
   exact ⟨L0, .inl ⟨(fun h => by obtain ⟨h1, h2, h3, h4, h5⟩ := h; first | omega | (exact absurd (coin_iff.2 ⟨by omega, h3.2⟩) (by assumption)) | (exact absurd h5 (by assumption)) | (apply h4; omega)), rfl, ⟨hp0, hO0, hS0, hH0, n1, n2, n3, n4, n5, n6⟩⟩⟩
  ·refine W.any (.dec (.move rfl) (decide_eq_false q1_6)) rfl rfl rfl ?_
   refine W.rdg (Any.rd (.move rfl) _) rfl rfl rfl (rfl) rfl rfl ?_
   refine W.rdg (Any.rd (.lss rfl rfl) _) rfl rfl rfl (rfl) rfl rfl ?_
   refine W.any (.pickF rfl rfl rfl) rfl rfl rfl ?_
   by_cases q1_10 : id < 1
   ·refine W.any (.dec (.move rfl) (decide_eq_true q1_10)) rfl rfl rfl ?_
    refine W.skip rfl rfl rfl (rfl) rfl rfl ?_
    refine W.skip rfl rfl rfl (rfl) rfl rfl ?_
    refine W.any (.pickT rfl rfl rfl) rfl rfl rfl ?_
    refine W.any (.move rfl) rfl rfl rfl ?_
    refine W.skip rfl rfl rfl (rfl) rfl rfl ?_
    refine W.skip rfl rfl rfl (rfl) rfl rfl ?_
    refine W.skip rfl rfl rfl (rfl) rfl rfl ?_
    refine W.any (.pickT rfl rfl rfl) rfl rfl rfl ?_
    refine W.any (.move rfl) rfl rfl rfl ?_
    refine W.skip rfl rfl rfl (rfl) rfl rfl ?_
    refine W.skip rfl rfl rfl (rfl) rfl rfl ?_
    refine W.any (.pickT rfl rfl rfl) rfl rfl rfl ?_
    refine W.any (.move rfl) rfl rfl rfl ?_
    refine W.skip rfl rfl rfl (rfl) rfl rfl ?_
    refine W.skip rfl rfl rfl (rfl) rfl rfl ?_
    refine W.skip rfl rfl rfl (rfl) rfl rfl ?_
    refine W.any (.pickT rfl rfl rfl) rfl rfl rfl ?_
    refine W.nil (E.thenN ?_)
    refine WC.condT rfl ?_
    refine WC.seq (WC.region ?_)
    refine W.any (.assign rfl) rfl rfl rfl ?_
    refine W.nil (E.thenN (WC.ret (E.thenR ?_)))
    refine E.retG1 rfl rfl ?_
    exact ⟨L0, .inl ⟨(fun h => by obtain ⟨h1, h2, h3, h4, h5⟩ := h; first | omega | (exact absurd (coin_iff.2 ⟨by omega, h3.2⟩) (by assumption)) | (exact absurd h5 (by assumption)) | (apply h4; omega)), rfl, ⟨hp0, hO0, hS0, hH0, n1, n2, n3, n4, n5, n6⟩⟩⟩
   ·refine W.any (.dec (.move rfl) (decide_eq_false q1_10)) rfl rfl rfl ?_
    refine W.rdg (Any.rd (.move rfl) _) rfl rfl rfl (rfl) rfl rfl ?_
    refine W.rdg (Any.rd (.lss rfl rfl) _) rfl rfl rfl (rfl) rfl rfl ?_
    refine W.any (.pickF rfl rfl rfl) rfl rfl rfl ?_
    by_cases q1_14 : am < 1
    ·refine W.any (.dec (.move rfl) (decide_eq_true q1_14)) rfl rfl rfl ?_
     refine W.skip rfl rfl rfl (rfl) rfl rfl ?_
     refine W.skip rfl rfl rfl (rfl) rfl rfl ?_
     refine W.skip rfl rfl rfl (rfl) rfl rfl ?_
     refine W.any (.pickT rfl rfl rfl) rfl rfl rfl ?_
     refine W.any (.move rfl) rfl rfl rfl ?_
     refine W.skip rfl rfl rfl (rfl) rfl rfl ?_
     refine W.skip rfl rfl rfl (rfl) rfl rfl ?_
     refine W.any (.pickT rfl rfl rfl) rfl rfl rfl ?_
     refine W.any (.move rfl) rfl rfl rfl ?_
     refine W.skip rfl rfl rfl (rfl) rfl rfl ?_
     refine W.skip rfl rfl rfl (rfl) rfl rfl ?_
     refine W.skip rfl rfl rfl (rfl) rfl rfl ?_
     refine W.any (.pickT rfl rfl rfl) rfl rfl rfl ?_
     refine W.nil (E.thenN ?_)
     refine WC.condT rfl ?_
     refine WC.seq (WC.region ?_)
     refine W.any (.assign rfl) rfl rfl rfl ?_
     refine W.nil (E.thenN (WC.ret (E.thenR ?_)))
     refine E.retG1 rfl rfl ?_
     exact ⟨L0, .inl ⟨(fun h => by obtain ⟨h1, h2, h3, h4, h5⟩ := h; first | omega | (exact absurd (coin_iff.2 ⟨by omega, h3.2⟩) (by assumption)) | (exact absurd h5 (by assumption)) | (apply h4; omega)), rfl, ⟨hp0, hO0, hS0, hH0, n1, n2, n3, n4, n5, n6⟩⟩⟩
    ·refine W.any (.dec (.move rfl) (decide_eq_false q1_14)) rfl rfl rfl ?_
     refine W.rdg (Any.rd (.move rfl) _) rfl rfl rfl (rfl) rfl rfl ?_
     refine W.efg rfl rfl rfl (rfl) rfl rfl ?_
     refine Ef.call go45 rfl rfl (coin_ok am w) ?_
     rintro _ w1_16 ⟨rfl, h1_16⟩
     refine ⟨_, rfl, ?_⟩
     have L1 := L0.le h1_16
     refine W.rdg (Any.rd (.not rfl) _) rfl rfl rfl (rfl) rfl rfl ?_
     refine W.any (.pickF rfl rfl rfl) rfl rfl rfl ?_
     by_cases q1_19 : (coinL am) = true
     ·refine W.any (.dec (.move rfl) (congrArg not (q1_19))) rfl rfl rfl ?_
      refine W.rdg (Any.rd (.move rfl) _) rfl rfl rfl (rfl) rfl rfl ?_
      refine W.rdg (Any.rd (.eql rfl rfl) _) rfl rfl rfl (rfl) rfl rfl ?_
      refine W.any (.pickF rfl rfl rfl) rfl rfl rfl ?_
      by_cases q1_23 : ((pt : Nat) : Int) = 1
      ·refine W.any (.dec (.move rfl) (decide_eq_true q1_23)) rfl rfl rfl ?_
       refine W.skip rfl rfl rfl (rfl) rfl rfl ?_
       refine W.skip rfl rfl rfl (rfl) rfl rfl ?_
       refine W.skip rfl rfl rfl (rfl) rfl rfl ?_
       refine W.any (.pickT rfl rfl rfl) rfl rfl rfl ?_
       refine W.nil (E.thenN ?_)
       refine WC.condT rfl ?_
       refine WC.seq (WC.region ?_)
       refine W.any (.assign rfl) rfl rfl rfl ?_
       refine W.nil (E.thenN (WC.ret (E.thenR ?_)))
       have f2 := (hp0.le h1_16)
       have f3 := (hO0.le h1_16)
       have f4 := (hS0.le h1_16)
       have f5 := (hH0.le h1_16)
       refine E.retG1 rfl rfl ?_
       exact ⟨L1, .inl ⟨(fun h => by obtain ⟨h1, h2, h3, h4, h5⟩ := h; first | omega | (exact absurd (coin_iff.2 ⟨by omega, h3.2⟩) (by assumption)) | (exact absurd h5 (by assumption)) | (apply h4; omega)), rfl, ⟨f2, f3, f4, f5, n1, n2, n3, n4, n5, n6⟩⟩⟩
      ·refine W.any (.dec (.move rfl) (decide_eq_false q1_23)) rfl rfl rfl ?_
       refine W.rdg (Any.rd (.move rfl) _) rfl rfl rfl (rfl) rfl rfl ?_
       refine W.efg rfl rfl rfl (rfl) rfl rfl ?_
       refine Ef.call go47 rfl rfl (pright_ok pt hpt w1_16) ?_
       rintro _ w1_25 ⟨rfl, h1_25⟩
       refine ⟨_, rfl, ?_⟩
       have L6 := L1.le h1_25
       refine W.rdg (Any.rd (.not rfl) _) rfl rfl rfl (rfl) rfl rfl ?_
       refine W.any (.pickF rfl rfl rfl) rfl rfl rfl ?_
       refine W.nil (E.thenN ?_)
       by_cases c0 : (right pt) = true
       ·refine WC.condN rfl (congrArg not (c0)) ?_
        have hok : offerOk side id am pt := ⟨by omega, by omega, ⟨by omega, (coin_iff.1 (by assumption)).2⟩, by omega, by assumption⟩
        have hok2 := hok
        obtain ⟨o1, o2, o3, o4, o5⟩ := hok2
        refine WC.skip (E.thenN (WC.seq (WC.region ?_)))
        refine W.any (.move rfl) rfl rfl rfl ?_
        refine W.any (.nilCheck rfl) rfl rfl rfl ?_
        refine W.any (.field0 fa66_1 rfl) rfl rfl rfl ?_
        have f7 := (hp0.le (h1_16.trans h1_25))
        refine W.rd (.loadB (v := .map (some gs)) na63 rfl f7 rfl) rfl rfl rfl ?_
        refine W.any (.move rfl) rfl rfl rfl ?_
        rcases optG (getG ch ls) with hk3_5 | ⟨vhk3_5, hk3_5⟩
        ·have f8 := (hS0.le (h1_16.trans h1_25))
         refine W.rd (.as (.lookup2 (key := ch) Tryz.underlying63 kint z44 rfl rfl f8) (by rw [hk3_5] <;> rfl)) rfl rfl rfl ?_
         refine W.any (.move rfl) rfl rfl rfl ?_
         refine W.any (.extract (v := .agg (seatV noSeat).toArray) rfl rfl) rfl rfl rfl ?_
         refine W.any (.extract (v := .bool false) rfl rfl) rfl rfl rfl ?_
         refine W.ef rfl rfl rfl ?_
         refine Ef.allocA z44 ?_
         intro g3_9 w3_9 hg3_9 b3_9 h3_9
         have L9 := L6.le h3_9
         have b3_9 : Blk w3_9 g3_9 44 (seatV noSeat).toArray := b3_9
         refine W.ef0 rfl rfl ?_
         refine Ef.storeAll sz44 (by rfl) rfl rfl b3_9 (by simp only [List.size_toArray, seatV_row.len]) (seatV_row.one noSeat) ?_
         intro w3_10 b3_10 h3_10
         have b3_10 : Blk w3_10 g3_9 44 (seatV noSeat).toArray := b3_10
         have L10 : ChP w w3_10 (LF gp gs gh A c) := L9.ch h3_10 (fun i hi hlt => by cases hi; exact absurd hlt (by have := L6.size; have := hg3_9; omega))
         refine W.any (.assign rfl) rfl rfl rfl ?_
         refine W.nil (E.thenN (WC.seq (WC.seq (WC.region ?_))))
         refine W.any (.move rfl) rfl rfl rfl ?_
         refine W.any (.not rfl) rfl rfl rfl ?_
         refine W.nil (E.thenN ?_)
         refine WC.condT rfl ?_
         refine WC.seq (WC.region ?_)
         refine W.any (.assign rfl) rfl rfl rfl ?_
         refine W.nil (E.thenN (WC.ret (E.thenR ?_)))
         have f11 := ((f7.le h3_9).ch h3_10 (fun h => (show g3_9 ≠ gp from by have := f7.lt; omega) (Option.some.inj h)))
         have f12 := ((hO0.le (h1_16.trans (h1_25.trans h3_9))).ch h3_10 (fun q hq => by cases hq; exact (fun he => by have := (hO0.row he).2; have := h1_16.size; have := h1_25.size; omega)))
         have f13 := ((f8.le h3_9).ch h3_10 (fun h => (show g3_9 ≠ gs from by have := f8.lt; omega) (Option.some.inj h)))
         have f14 := ((hH0.le (h1_16.trans (h1_25.trans h3_9))).ch h3_10 (fun h => (show g3_9 ≠ gh from by have := hH0.lt; have := h1_16.size; have := h1_25.size; omega) (Option.some.inj h)))
         refine E.retG1 rfl rfl ?_
         exact ⟨L10, .inr (.inl ⟨hok, hk3_5, rfl, ⟨f11, f12, f13, f14, n1, n2, n3, n4, n5, n6⟩⟩)⟩
        ·obtain ⟨bh, hbh⟩ := getG_mem hk3_5
         have hsw : 0 ≤ vhk3_5.h side.toNat ∧ vhk3_5.h side.toNat ≤ 1125899906842624 := hw _ hbh side.toNat
         have f15 := (hS0.le (h1_16.trans h1_25))
         refine W.rd (.as (.lookup2 (key := ch) Tryz.underlying63 kint z44 rfl rfl f15) (by rw [hk3_5] <;> rfl)) rfl rfl rfl ?_
         refine W.any (.move rfl) rfl rfl rfl ?_
         refine W.any (.extract (v := .agg (seatV vhk3_5).toArray) rfl rfl) rfl rfl rfl ?_
         refine W.any (.extract (v := .bool true) rfl rfl) rfl rfl rfl ?_
         refine W.ef rfl rfl rfl ?_
         refine Ef.allocA z44 ?_
         intro g3_9_1 w3_9_1 hg3_9_1 b3_9_1 h3_9_1
         have L16 := L6.le h3_9_1
         have b3_9_1 : Blk w3_9_1 g3_9_1 44 (seatV noSeat).toArray := b3_9_1
         refine W.ef0 rfl rfl ?_
         refine Ef.storeAll sz44 (by rfl) rfl rfl b3_9_1 (by simp only [List.size_toArray, seatV_row.len]) (seatV_row.one vhk3_5) ?_
         intro w3_10_1 b3_10_1 h3_10_1
         have b3_10_1 : Blk w3_10_1 g3_9_1 44 (seatV vhk3_5).toArray := b3_10_1
         have L17 : ChP w w3_10_1 (LF gp gs gh A c) := L16.ch h3_10_1 (fun i hi hlt => by cases hi; exact absurd hlt (by have := L6.size; have := hg3_9_1; omega))
         refine W.any (.assign rfl) rfl rfl rfl ?_
         refine W.nil (E.thenN (WC.seq (WC.seq (WC.region ?_))))
         refine W.any (.move rfl) rfl rfl rfl ?_
         refine W.any (.not rfl) rfl rfl rfl ?_
         refine W.nil (E.thenN ?_)
         refine WC.condF rfl ?_
         refine WC.skip (E.thenN (WC.seq (WC.region ?_)))
         refine W.any (.move rfl) rfl rfl rfl ?_
         refine W.any (.move rfl) rfl rfl rfl ?_
         refine W.any (.move rfl) rfl rfl rfl ?_
         refine W.any (.buildP (placeV (⟨ch, side, id⟩ : Spot)) pl84 z84 rfl rfl) rfl rfl rfl ?_
         refine W.ef rfl rfl rfl ?_
         refine Ef.allocA z84 ?_
         intro g6_4 w6_4 hg6_4 b6_4 h6_4
         have L18 := L17.le h6_4
         have b6_4 : Blk w6_4 g6_4 84 (placeV noSpot).toArray := b6_4
         refine W.ef0 rfl rfl ?_
         refine Ef.storeAll sz84 (by rfl) rfl rfl b6_4 (by simp only [List.size_toArray, placeV_row.len]) (placeV_row.one (⟨ch, side, id⟩ : Spot)) ?_
         intro w6_5 b6_5 h6_5
         have b6_5 : Blk w6_5 g6_4 84 (placeV (⟨ch, side, id⟩ : Spot)).toArray := b6_5
         have L19 : ChP w w6_5 (LF gp gs gh A c) := L18.ch h6_5 (fun i hi hlt => by cases hi; exact absurd hlt (by have := L17.size; have := hg6_4; omega))
         refine W.nil (E.thenN (WC.seq (WC.seq ?_)))
         refine WC.draw [0, 1, 2, 3, 4, 5, 6, 7, 8, 9, 10, 11] mixed (by kernel_rfl) ?_
         intro w7 d7
         have L20 := L19.le d7
         refine G.any rfl rfl (.move rfl) rfl rfl rfl ?_
         refine G.any rfl rfl (.nilCheck rfl) rfl rfl rfl ?_
         refine G.any rfl rfl (.field0 fa66_2 rfl) rfl rfl rfl ?_
         have f21 := (((((f7.le h3_9_1).ch h3_10_1 (fun h => (show g3_9_1 ≠ gp from by have := f7.lt; omega) (Option.some.inj h))).le h6_4).ch h6_5 (fun h => (show g6_4 ≠ gp from by have := f7.lt; have := h3_9_1.size; have := h3_10_1.size; omega) (Option.some.inj h))).le d7)
         refine G.rd rfl rfl (.loadB (v := .map (some gh)) na64 rfl f21 rfl) rfl rfl rfl ?_
         have f22 := (b6_5.le d7)
         refine G.rd rfl rfl (.loadAll ag84 (by rfl) rfl f22) rfl rfl rfl ?_
         rcases optG (getG (⟨ch, side, id⟩ : Spot) lh) with hk7_5 | ⟨vhk7_5, hk7_5⟩
         ·have f23 := (((((hH0.le (h1_16.trans (h1_25.trans h3_9_1))).ch h3_10_1 (fun h => (show g3_9_1 ≠ gh from by have := hH0.lt; have := h1_16.size; have := h1_25.size; omega) (Option.some.inj h))).le h6_4).ch h6_5 (fun h => (show g6_4 ≠ gh from by have := hH0.lt; have := h1_16.size; have := h1_25.size; have := h3_9_1.size; have := h3_10_1.size; omega) (Option.some.inj h))).le d7)
          refine G.rd rfl rfl (.as (.lookup2 (key := (⟨ch, side, id⟩ : Spot)) Tryz.underlying64 kplace z86 rfl rfl f23) (by rw [hk7_5] <;> rfl)) rfl rfl rfl ?_
          refine G.any rfl rfl (.move rfl) rfl rfl rfl ?_
          refine G.any rfl rfl (.extract (v := .agg (holdV noHold).toArray) rfl rfl) rfl rfl rfl ?_
          refine G.any rfl rfl (.extract (v := .bool false) rfl rfl) rfl rfl rfl ?_
          refine G.ef rfl rfl rfl rfl rfl ?_
          refine Ef.allocA z86 ?_
          intro g7_9 w7_9 hg7_9 b7_9 h7_9
          refine ⟨fun _ => h7_9, ?_⟩
          have L24 := L20.le h7_9
          have b7_9 : Blk w7_9 g7_9 86 (holdV noHold).toArray := b7_9
          refine G.ef0 rfl rfl rfl rfl ?_
          refine Ef.storeAll sz86 (by rfl) rfl rfl b7_9 (by simp only [List.size_toArray, holdV_row.len]) (holdV_row.one noHold) ?_
          intro w7_10 b7_10 h7_10
          refine ⟨fun h => absurd h (ne_true_of_eq_false (by kernel_rfl)), ?_⟩
          have b7_10 : Blk w7_10 g7_9 86 (holdV noHold).toArray := b7_10
          have L25 : ChP w w7_10 (LF gp gs gh A c) := L24.ch h7_10 (fun i hi hlt => by cases hi; exact absurd hlt (by have := L20.size; have := hg7_9; omega))
          refine G.any rfl rfl (.assign rfl) rfl rfl rfl ?_
          refine G.nil (E.thenN (WC.seq (WC.region ?_)))
          refine W.any (.move rfl) rfl rfl rfl ?_
          refine W.nil (E.thenN ?_)
          refine WC.condF rfl ?_
          refine WC.skip (E.thenN (WC.seq (WC.seq (WC.region ?_))))
          refine W.any (.move rfl) rfl rfl rfl ?_
          refine W.any (.field0 fa44_2 rfl) rfl rfl rfl ?_
          refine W.any (.idxAo ((side).toNat) Tryz.underlying35 sz3 rfl rfl (by omega) (by omega)) rfl rfl rfl ?_
          have f26 := ((((b3_10_1.le h6_4).ch h6_5 (fun h => (show g6_4 ≠ g3_9_1 from by have := b3_10_1.lt; omega) (Option.some.inj h))).le (d7.trans h7_9)).ch h7_10 (fun h => (show g7_9 ≠ g3_9_1 from by have := b3_10_1.lt; have := h6_4.size; have := h6_5.size; have := d7.size; omega) (Option.some.inj h)))
          refine W.rd (.loadB (v := .int .i64 ((vhk3_5.h ((side).toNat)))) na3 rfl f26 (seatH_at vhk3_5 (by omega))) rfl rfl rfl ?_
          refine W.any (.move rfl) rfl rfl rfl ?_
          refine W.any (.lss rfl rfl) rfl rfl rfl ?_
          refine W.nil (E.thenN ?_)
          by_cases c3 : (vhk3_5.h ((side).toNat)) < am
          ·refine WC.condY rfl (decide_eq_true c3) ?_
           refine WC.seq (WC.region ?_)
           refine W.any (.assign rfl) rfl rfl rfl ?_
           refine W.nil (E.thenN (WC.ret (E.thenR ?_)))
           have f27 := ((f21.le h7_9).ch h7_10 (fun h => (show g7_9 ≠ gp from by have := f21.lt; omega) (Option.some.inj h)))
           have f28 := ((((((hO0.le (h1_16.trans (h1_25.trans h3_9_1))).ch h3_10_1 (fun q hq => by cases hq; exact (fun he => by have := (hO0.row he).2; have := h1_16.size; have := h1_25.size; omega))).le h6_4).ch h6_5 (fun q hq => by cases hq; exact (fun he => by have := (hO0.row he).2; have := h1_16.size; have := h1_25.size; have := h3_9_1.size; have := h3_10_1.size; omega))).le (d7.trans h7_9)).ch h7_10 (fun q hq => by cases hq; exact (fun he => by have := (hO0.row he).2; have := h1_16.size; have := h1_25.size; have := h3_9_1.size; have := h3_10_1.size; have := h6_4.size; have := h6_5.size; have := d7.size; omega)))
           have f29 := ((((((f15.le h3_9_1).ch h3_10_1 (fun h => (show g3_9_1 ≠ gs from by have := f15.lt; omega) (Option.some.inj h))).le h6_4).ch h6_5 (fun h => (show g6_4 ≠ gs from by have := f15.lt; have := h3_9_1.size; have := h3_10_1.size; omega) (Option.some.inj h))).le (d7.trans h7_9)).ch h7_10 (fun h => (show g7_9 ≠ gs from by have := f15.lt; have := h3_9_1.size; have := h3_10_1.size; have := h6_4.size; have := h6_5.size; have := d7.size; omega) (Option.some.inj h)))
           have f30 := ((f23.le h7_9).ch h7_10 (fun h => (show g7_9 ≠ gh from by have := f23.lt; omega) (Option.some.inj h)))
           refine E.retG1 rfl rfl ?_
           exact ⟨L25, .inr (.inr ⟨hok, _, hk3_5, .inr ⟨hk7_5, .inl ⟨c3, rfl, ⟨f27, f28, f29, f30, n1, n2, n3, n4, n5, n6⟩⟩⟩⟩)⟩
          ·refine WC.condN rfl (decide_eq_false c3) ?_
           refine WC.skip (E.thenN (WC.seq (WC.region ?_)))
           refine W.any (.move rfl) rfl rfl rfl ?_
           refine W.any (.field0 fa44_2 rfl) rfl rfl rfl ?_
           refine W.any (.idxAo ((side).toNat) Tryz.underlying35 sz3 rfl rfl (by omega) (by omega)) rfl rfl rfl ?_
           refine W.rd (.loadB (v := .int .i64 ((vhk3_5.h ((side).toNat)))) na3 rfl f26 (seatH_at vhk3_5 (by omega))) rfl rfl rfl ?_
           refine W.any (.move rfl) rfl rfl rfl ?_
           refine W.any (.sub rfl rfl (by omega)) rfl rfl rfl ?_
           refine W.any (.field0 fa44_2 rfl) rfl rfl rfl ?_
           refine W.any (.idxAo ((side).toNat) Tryz.underlying35 sz3 rfl rfl (by omega) (by omega)) rfl rfl rfl ?_
           refine W.ef0 rfl rfl ?_
           refine Ef.store sz3 rfl rfl f26 (by simp [seatV_row.len, -List.getD_eq_getElem?_getD]; omega) rfl ?_
           intro w12_8 b12_8 h12_8
           have b12_8 : Blk w12_8 g3_9_1 44 (seatV (vhk3_5.setH ((side).toNat) ((vhk3_5.h ((side).toNat)) - am))).toArray := b12_8.cast (seatH_set vhk3_5 ((vhk3_5.h ((side).toNat)) - am) (by omega))
           have L31 : ChP w w12_8 (LF gp gs gh A c) := L25.ch h12_8 (fun i hi hlt => by cases hi; exact absurd hlt (by have := L6.size; have := hg3_9_1; omega))
           refine W.nil (E.thenN (WC.seq ?_))
           refine WC.drawS (fun w13 w' => ChP w w' (LF gp gs gh A c) ∧ Blk w' gp 66 #[.slice A own.length c, .map (some gs), .map (some gh), .int .i64 (lost)] ∧ Blk w' g6_4 84 (placeV (⟨ch, side, id⟩ : Spot)).toArray ∧ Blk w' g3_9_1 44 (seatV (vhk3_5.setH ((side).toNat) ((vhk3_5.h ((side).toNat)) - am))).toArray) [0, 1, 2, 3, 4, 5, 6, 7, 8, 9, 10, 11, 12, 13, 14, 15, 16, 17, 18, 19] mixed (by kernel_rfl) ?_
           intro w13 d13
           have L32 := L31.le d13
           have f33 := ((((f21.le h7_9).ch h7_10 (fun h => (show g7_9 ≠ gp from by have := f21.lt; omega) (Option.some.inj h))).ch h12_8 (fun h => (show g3_9_1 ≠ gp from by have := f7.lt; omega) (Option.some.inj h))).le d13)
           have f34 := ((((f22.le h7_9).ch h7_10 (fun h => (show g7_9 ≠ g6_4 from by have := f22.lt; omega) (Option.some.inj h))).ch h12_8 (fun h => (show g3_9_1 ≠ g6_4 from by have := b3_10_1.lt; omega) (Option.some.inj h))).le d13)
           have f35 := (b12_8.le d13)
           refine ⟨⟨L32, f33, f34, f35⟩, ?_⟩
           refine GS.any rfl rfl (.move rfl) rfl rfl rfl ?_
           refine GS.any rfl rfl (.nilCheck rfl) rfl rfl rfl ?_
           refine GS.any rfl rfl (.field0 fa66_1 rfl) rfl rfl rfl ?_
           refine GS.rd rfl rfl (fun w' hs => .loadB (v := .map (some gs)) na63 rfl hs.2.1 rfl) rfl rfl rfl ?_
           refine GS.any rfl rfl (.move rfl) rfl rfl rfl ?_
           refine GS.any rfl rfl (.move rfl) rfl rfl rfl ?_
           refine GS.any rfl rfl (.nilCheck rfl) rfl rfl rfl ?_
           refine GS.any rfl rfl (.field0 fa66_2 rfl) rfl rfl rfl ?_
           refine GS.rd rfl rfl (fun w' hs => .loadB (v := .map (some gh)) na64 rfl hs.2.1 rfl) rfl rfl rfl ?_
           refine GS.rd rfl rfl (fun w' hs => .loadAll ag84 (by rfl) rfl hs.2.2.1) rfl rfl rfl ?_
           refine GS.rd rfl rfl (fun w' hs => .loadAll ag44 (by rfl) rfl hs.2.2.2) rfl rfl rfl ?_
           refine GS.any rfl rfl (.move rfl) rfl rfl rfl ?_
           refine GS.any rfl rfl (.move rfl) rfl rfl rfl ?_
           refine GS.any rfl rfl (.buildP (holdV (⟨am, pt⟩)) pl86 z86 rfl rfl) rfl rfl rfl ?_
           have f36 := ((((((((f15.le h3_9_1).ch h3_10_1 (fun h => (show g3_9_1 ≠ gs from by have := f15.lt; omega) (Option.some.inj h))).le h6_4).ch h6_5 (fun h => (show g6_4 ≠ gs from by have := f15.lt; have := h3_9_1.size; have := h3_10_1.size; omega) (Option.some.inj h))).le (d7.trans h7_9)).ch h7_10 (fun h => (show g7_9 ≠ gs from by have := f15.lt; have := h3_9_1.size; have := h3_10_1.size; have := h6_4.size; have := h6_5.size; have := d7.size; omega) (Option.some.inj h))).ch h12_8 (fun h => (show g3_9_1 ≠ gs from by have := f15.lt; omega) (Option.some.inj h))).le d13)
           refine GS.ef rfl rfl rfl rfl rfl ?_
           refine Ef.mapEntryG (key := ch) Tryz.underlying63 kint rfl rfl f36 stay_i hk3_5 ?_
           intro s13_14 w13_14 hs13_14 b13_14 h13_14
           have L37 : ChP w w13_14 (LF gp gs gh A c) := L32.ch h13_14 (fun i hi _ => by cases hi; exact Or.inr (Or.inl rfl))
           have f38 := (f33.ch h13_14 (fun h => (Ne.symm n1) (Option.some.inj h)))
           have f39 := (f34.ch h13_14 (fun h => (show gs ≠ g6_4 from by have := f15.lt; have := h3_9_1.size; have := h3_10_1.size; omega) (Option.some.inj h)))
           have f40 := (f35.ch h13_14 (fun h => (show gs ≠ g3_9_1 from by have := f15.lt; omega) (Option.some.inj h)))
           refine ⟨⟨L37, f38, f39, f40⟩, ?_⟩
           refine GS.any rfl rfl (.extract (v := .int .i64 (((s13_14 : Nat) : Int))) rfl rfl) rfl rfl rfl ?_
           refine GS.ef0 rfl rfl rfl rfl ?_
           refine Ef.entryStoreG (key := ch) (u := (vhk3_5.setH ((side).toNat) ((vhk3_5.h ((side).toNat)) - am))) rfl rfl rfl b13_14 hs13_14 ?_
           intro w13_16 b13_16 h13_16
           have L41 : ChP w w13_16 (LF gp gs gh A c) := L37.ch h13_16 (fun i hi _ => by cases hi; exact Or.inr (Or.inl rfl))
           have f42 := (f38.ch h13_16 (fun h => (Ne.symm n1) (Option.some.inj h)))
           have f43 := (f39.ch h13_16 (fun h => (show gs ≠ g6_4 from by have := f15.lt; have := h3_9_1.size; have := h3_10_1.size; omega) (Option.some.inj h)))
           have f44 := (f40.ch h13_16 (fun h => (show gs ≠ g3_9_1 from by have := f15.lt; omega) (Option.some.inj h)))
           refine ⟨⟨L41, f42, f43, f44⟩, ?_⟩
           have f45 := ((((((f23.le h7_9).ch h7_10 (fun h => (show g7_9 ≠ gh from by have := f23.lt; omega) (Option.some.inj h))).ch h12_8 (fun h => (show g3_9_1 ≠ gh from by have := hH0.lt; have := h1_16.size; have := h1_25.size; omega) (Option.some.inj h))).le d13).ch h13_14 (fun h => n3 (Option.some.inj h))).ch h13_16 (fun h => n3 (Option.some.inj h)))
           refine GS.ef rfl rfl rfl rfl rfl ?_
           refine Ef.mapEntryN (key := (⟨ch, side, id⟩ : Spot)) (z := noHold) Tryz.underlying64 kplace z86 rfl rfl f45 hk7_5 ?_
           intro w13_17 b13_17 h13_17
           have L46 : ChP w w13_17 (LF gp gs gh A c) := L41.ch h13_17 (fun i hi _ => by cases hi; exact Or.inr (Or.inr (Or.inl rfl)))
           have f47 := (f42.ch h13_17 (fun h => (Ne.symm n2) (Option.some.inj h)))
           have f48 := (f43.ch h13_17 (fun h => (show gh ≠ g6_4 from by have := hH0.lt; have := h1_16.size; have := h1_25.size; have := h3_9_1.size; have := h3_10_1.size; omega) (Option.some.inj h)))
           have f49 := (f44.ch h13_17 (fun h => (show gh ≠ g3_9_1 from by have := hH0.lt; have := h1_16.size; have := h1_25.size; omega) (Option.some.inj h)))
           refine ⟨⟨L46, f47, f48, f49⟩, ?_⟩
           refine GS.any rfl rfl (.extract (v := .int .i64 (((ck : Nat) : Int))) rfl rfl) rfl rfl rfl ?_
           refine GS.ef0 rfl rfl rfl rfl ?_
           refine Ef.entryStoreG (key := (⟨ch, side, id⟩ : Spot)) (u := (⟨am, pt⟩)) rfl rfl rfl b13_17 (List.mem_append_right _ (List.mem_singleton.2 rfl)) ?_
           intro w13_19 b13_19 h13_19
           have L50 : ChP w w13_19 (LF gp gs gh A c) := L46.ch h13_19 (fun i hi _ => by cases hi; exact Or.inr (Or.inr (Or.inl rfl)))
           have f51 := (f47.ch h13_19 (fun h => (Ne.symm n2) (Option.some.inj h)))
           have f52 := (f48.ch h13_19 (fun h => (show gh ≠ g6_4 from by have := hH0.lt; have := h1_16.size; have := h1_25.size; have := h3_9_1.size; have := h3_10_1.size; omega) (Option.some.inj h)))
           have f53 := (f49.ch h13_19 (fun h => (show gh ≠ g3_9_1 from by have := hH0.lt; have := h1_16.size; have := h1_25.size; omega) (Option.some.inj h)))
           refine ⟨⟨L50, f51, f52, f53⟩, ?_⟩
           refine GS.nil ?_
           refine E.thenN (WC.seq (WC.region ?_))
           refine W.any (.assign rfl) rfl rfl rfl ?_
           refine W.nil (E.thenN (WC.ret ?_))
           have f54 := ((((((((((((hO0.le (h1_16.trans (h1_25.trans h3_9_1))).ch h3_10_1 (fun q hq => by cases hq; exact (fun he => by have := (hO0.row he).2; have := h1_16.size; have := h1_25.size; omega))).le h6_4).ch h6_5 (fun q hq => by cases hq; exact (fun he => by have := (hO0.row he).2; have := h1_16.size; have := h1_25.size; have := h3_9_1.size; have := h3_10_1.size; omega))).le (d7.trans h7_9)).ch h7_10 (fun q hq => by cases hq; exact (fun he => by have := (hO0.row he).2; have := h1_16.size; have := h1_25.size; have := h3_9_1.size; have := h3_10_1.size; have := h6_4.size; have := h6_5.size; have := d7.size; omega))).ch h12_8 (fun q hq => by cases hq; exact (fun he => by have := (hO0.row he).2; have := h1_16.size; have := h1_25.size; omega))).le d13).ch h13_14 (fun q hq => by cases hq; exact n5)).ch h13_16 (fun q hq => by cases hq; exact n5)).ch h13_17 (fun q hq => by cases hq; exact n6)).ch h13_19 (fun q hq => by cases hq; exact n6))
           have f55 := ((b13_16.ch h13_17 (fun h => (Ne.symm n3) (Option.some.inj h))).ch h13_19 (fun h => (Ne.symm n3) (Option.some.inj h)))
           refine E.retG1 rfl rfl ?_
           exact ⟨L50, .inr (.inr ⟨hok, _, hk3_5, .inr ⟨hk7_5, .inr ⟨c3, rfl, ⟨f51, f54, f55, (by rw [← updM_new (z := noHold) (getG_none.1 hk7_5)]; exact b13_19), n1, n2, n3, n4, n5, n6⟩⟩⟩⟩)⟩
         ·have f56 := (((((hH0.le (h1_16.trans (h1_25.trans h3_9_1))).ch h3_10_1 (fun h => (show g3_9_1 ≠ gh from by have := hH0.lt; have := h1_16.size; have := h1_25.size; omega) (Option.some.inj h))).le h6_4).ch h6_5 (fun h => (show g6_4 ≠ gh from by have := hH0.lt; have := h1_16.size; have := h1_25.size; have := h3_9_1.size; have := h3_10_1.size; omega) (Option.some.inj h))).le d7)
          refine G.rd rfl rfl (.as (.lookup2 (key := (⟨ch, side, id⟩ : Spot)) Tryz.underlying64 kplace z86 rfl rfl f56) (by rw [hk7_5] <;> rfl)) rfl rfl rfl ?_
          refine G.any rfl rfl (.move rfl) rfl rfl rfl ?_
          refine G.any rfl rfl (.extract (v := .agg (holdV vhk7_5).toArray) rfl rfl) rfl rfl rfl ?_
          refine G.any rfl rfl (.extract (v := .bool true) rfl rfl) rfl rfl rfl ?_
          refine G.ef rfl rfl rfl rfl rfl ?_
          refine Ef.allocA z86 ?_
          intro g7_9_1 w7_9_1 hg7_9_1 b7_9_1 h7_9_1
          refine ⟨fun _ => h7_9_1, ?_⟩
          have L57 := L20.le h7_9_1
          have b7_9_1 : Blk w7_9_1 g7_9_1 86 (holdV noHold).toArray := b7_9_1
          refine G.ef0 rfl rfl rfl rfl ?_
          refine Ef.storeAll sz86 (by rfl) rfl rfl b7_9_1 (by simp only [List.size_toArray, holdV_row.len]) (holdV_row.one vhk7_5) ?_
          intro w7_10_1 b7_10_1 h7_10_1
          refine ⟨fun h => absurd h (ne_true_of_eq_false (by kernel_rfl)), ?_⟩
          have b7_10_1 : Blk w7_10_1 g7_9_1 86 (holdV vhk7_5).toArray := b7_10_1
          have L58 : ChP w w7_10_1 (LF gp gs gh A c) := L57.ch h7_10_1 (fun i hi hlt => by cases hi; exact absurd hlt (by have := L20.size; have := hg7_9_1; omega))
          refine G.any rfl rfl (.assign rfl) rfl rfl rfl ?_
          refine G.nil (E.thenN (WC.seq (WC.region ?_)))
          refine W.any (.move rfl) rfl rfl rfl ?_
          refine W.nil (E.thenN ?_)
          refine WC.condT rfl ?_
          refine WC.seq (WC.region ?_)
          refine W.any (.assign rfl) rfl rfl rfl ?_
          refine W.nil (E.thenN (WC.ret (E.thenR ?_)))
          have f59 := ((f21.le h7_9_1).ch h7_10_1 (fun h => (show g7_9_1 ≠ gp from by have := f21.lt; omega) (Option.some.inj h)))
          have f60 := ((((((hO0.le (h1_16.trans (h1_25.trans h3_9_1))).ch h3_10_1 (fun q hq => by cases hq; exact (fun he => by have := (hO0.row he).2; have := h1_16.size; have := h1_25.size; omega))).le h6_4).ch h6_5 (fun q hq => by cases hq; exact (fun he => by have := (hO0.row he).2; have := h1_16.size; have := h1_25.size; have := h3_9_1.size; have := h3_10_1.size; omega))).le (d7.trans h7_9_1)).ch h7_10_1 (fun q hq => by cases hq; exact (fun he => by have := (hO0.row he).2; have := h1_16.size; have := h1_25.size; have := h3_9_1.size; have := h3_10_1.size; have := h6_4.size; have := h6_5.size; have := d7.size; omega)))
          have f61 := ((((((f15.le h3_9_1).ch h3_10_1 (fun h => (show g3_9_1 ≠ gs from by have := f15.lt; omega) (Option.some.inj h))).le h6_4).ch h6_5 (fun h => (show g6_4 ≠ gs from by have := f15.lt; have := h3_9_1.size; have := h3_10_1.size; omega) (Option.some.inj h))).le (d7.trans h7_9_1)).ch h7_10_1 (fun h => (show g7_9_1 ≠ gs from by have := f15.lt; have := h3_9_1.size; have := h3_10_1.size; have := h6_4.size; have := h6_5.size; have := d7.size; omega) (Option.some.inj h)))
          have f62 := ((f56.le h7_9_1).ch h7_10_1 (fun h => (show g7_9_1 ≠ gh from by have := f56.lt; omega) (Option.some.inj h)))
          refine E.retG1 rfl rfl ?_
          exact ⟨L58, .inr (.inr ⟨hok, _, hk3_5, .inl ⟨_, hk7_5, rfl, ⟨f59, f60, f61, f62, n1, n2, n3, n4, n5, n6⟩⟩⟩)⟩
       ·refine WC.condY rfl (congrArg not ((Bool.eq_false_iff.2 c0))) ?_
        refine WC.seq (WC.region ?_)
        refine W.any (.assign rfl) rfl rfl rfl ?_
        refine W.nil (E.thenN (WC.ret (E.thenR ?_)))
        have f63 := (hp0.le (h1_16.trans h1_25))
        have f64 := (hO0.le (h1_16.trans h1_25))
        have f65 := (hS0.le (h1_16.trans h1_25))
        have f66 := (hH0.le (h1_16.trans h1_25))
        refine E.retG1 rfl rfl ?_
        exact ⟨L6, .inl ⟨(fun h => by obtain ⟨h1, h2, h3, h4, h5⟩ := h; first | omega | (exact absurd (coin_iff.2 ⟨by omega, h3.2⟩) (by assumption)) | (exact absurd h5 (by assumption)) | (apply h4; omega)), rfl, ⟨f63, f64, f65, f66, n1, n2, n3, n4, n5, n6⟩⟩⟩
     ·refine W.any (.dec (.move rfl) (congrArg not ((Bool.eq_false_iff.2 q1_19)))) rfl rfl rfl ?_
      refine W.skip rfl rfl rfl (rfl) rfl rfl ?_
      refine W.skip rfl rfl rfl (rfl) rfl rfl ?_
      refine W.any (.pickT rfl rfl rfl) rfl rfl rfl ?_
      refine W.any (.move rfl) rfl rfl rfl ?_
      refine W.skip rfl rfl rfl (rfl) rfl rfl ?_
      refine W.skip rfl rfl rfl (rfl) rfl rfl ?_
      refine W.skip rfl rfl rfl (rfl) rfl rfl ?_
      refine W.any (.pickT rfl rfl rfl) rfl rfl rfl ?_
      refine W.nil (E.thenN ?_)
      refine WC.condT rfl ?_
      refine WC.seq (WC.region ?_)
      refine W.any (.assign rfl) rfl rfl rfl ?_
      refine W.nil (E.thenN (WC.ret (E.thenR ?_)))
      have f67 := (hp0.le h1_16)
      have f68 := (hO0.le h1_16)
      have f69 := (hS0.le h1_16)
      have f70 := (hH0.le h1_16)
      refine E.retG1 rfl rfl ?_
      exact ⟨L1, .inl ⟨(fun h => by obtain ⟨h1, h2, h3, h4, h5⟩ := h; first | omega | (exact absurd (coin_iff.2 ⟨by omega, h3.2⟩) (by assumption)) | (exact absurd h5 (by assumption)) | (apply h4; omega)), rfl, ⟨f67, f68, f69, f70, n1, n2, n3, n4, n5, n6⟩⟩⟩

theorem lend_ok {gp gs gh c n cs ck : Nat} {A : Option Addr} {ls : SM} {lh : HM} {lost : Int} {s : Seat} {h : Hold} (at_ : Spot) (j : Int) (w : World) (hp0 : Blk w gp 66 #[.slice A n c, .map (some gs), .map (some gh), .int .i64 (lost)]) (hS0 : MapG w ikf seatf gs ls cs) (hH0 : MapG w plf holdf gh lh ck) (n1 : gp ≠ gs) (n2 : gp ≠ gh) (n3 : gs ≠ gh) (hs : getG at_.ch ls = some s) (hh : getG at_ lh = some h) (hj : 0 ≤ j ∧ j ≤ 1) (h1 : 0 ≤ s.h j.toNat ∧ s.h j.toNat ≤ 1125899906842624) (h2 : 0 ≤ h.am ∧ h.am ≤ 1125899906842624) : Calls Tryz.prog 50 #[.pointer (some ⟨gp, 0, none⟩), .agg (placeV at_).toArray, .int .i64 (j)] w fun r w' => r = .returned (.tuple #[]) ∧ MapG w' ikf seatf gs (updM at_.ch (s.setH j.toNat (s.h j.toNat + h.am)) ls) cs ∧ MapG w' plf holdf gh (delM at_ lh) ck ∧ ChP w w' (fun k => k = gs ∨ k = gh) := by
 refine enter Tryz.func50 rfl rfl ?_
 have L0 := ChP.refl w (fun k => k = gs ∨ k = gh)
 refine WC.seq (WC.region ?_)
 refine W.ef rfl rfl rfl ?_
 refine Ef.boxA rfl ?_
 intro g0_0 w0_0 hg0_0 b0_0 h0_0
 have L1 := L0.le h0_0
 have b0_0 : Blk w0_0 g0_0 84 (placeV at_).toArray := b0_0
 refine W.nil (E.thenN (WC.seq ?_))
 refine WC.draw [0, 1, 2, 3, 4, 5, 6, 7, 8] mixed (by kernel_rfl) ?_
 intro w1 d1
 have L2 := L1.le d1
 refine G.any rfl rfl (.move rfl) rfl rfl rfl ?_
 refine G.any rfl rfl (.nilCheck rfl) rfl rfl rfl ?_
 refine G.any rfl rfl (.field0 fa66_1 rfl) rfl rfl rfl ?_
 have f3 := (hp0.le (h0_0.trans d1))
 refine G.rd rfl rfl (.loadB (v := .map (some gs)) na63 rfl f3 rfl) rfl rfl rfl ?_
 refine G.any rfl rfl (.field0 fa84_0 rfl) rfl rfl rfl ?_
 have f4 := (b0_0.le d1)
 refine G.rd rfl rfl (.loadB (v := .int .i64 (at_.ch)) na3 rfl f4 rfl) rfl rfl rfl ?_
 have f5 := (hS0.le (h0_0.trans d1))
 refine G.rd rfl rfl (.as (.lookup1 (key := at_.ch) Tryz.underlying63 kint z44 rfl rfl f5) (by rw [hs] <;> rfl)) rfl rfl rfl ?_
 refine G.ef rfl rfl rfl rfl rfl ?_
 refine Ef.allocA z44 ?_
 intro g1_7 w1_7 hg1_7 b1_7 h1_7
 refine ⟨fun _ => h1_7, ?_⟩
 have L6 := L2.le h1_7
 have b1_7 : Blk w1_7 g1_7 44 (seatV noSeat).toArray := b1_7
 refine G.ef0 rfl rfl rfl rfl ?_
 refine Ef.storeAll sz44 (by rfl) rfl rfl b1_7 (by simp only [List.size_toArray, seatV_row.len]) (seatV_row.one s) ?_
 intro w1_8 b1_8 h1_8
 refine ⟨fun h => absurd h (ne_true_of_eq_false (by kernel_rfl)), ?_⟩
 have b1_8 : Blk w1_8 g1_7 44 (seatV s).toArray := b1_8
 have L7 : ChP w w1_8 (fun k => k = gs ∨ k = gh) := L6.ch h1_8 (fun i hi hlt => by cases hi; exact absurd hlt (by have := L2.size; have := hg1_7; omega))
 refine G.nil (E.thenN (WC.seq ?_))
 refine WC.draw [0, 1, 2, 3, 4, 5, 6, 7, 8, 9, 10, 11, 12, 13, 14] mixed (by kernel_rfl) ?_
 intro w2 d2
 have L8 := L7.le d2
 refine G.any rfl rfl (.move rfl) rfl rfl rfl ?_
 refine G.any rfl rfl (.field0 fa44_2 rfl) rfl rfl rfl ?_
 refine G.any rfl rfl (.idxAo ((j).toNat) Tryz.underlying35 sz3 rfl rfl (by omega) (by omega)) rfl rfl rfl ?_
 have f9 := (b1_8.le d2)
 refine G.rd rfl rfl (.loadB (v := .int .i64 ((s.h ((j).toNat)))) na3 rfl f9 (seatH_at s (by omega))) rfl rfl rfl ?_
 refine G.any rfl rfl (.move rfl) rfl rfl rfl ?_
 refine G.any rfl rfl (.nilCheck rfl) rfl rfl rfl ?_
 refine G.any rfl rfl (.field0 fa66_2 rfl) rfl rfl rfl ?_
 have f10 := (((f3.le h1_7).ch h1_8 (fun h => (show g1_7 ≠ gp from by have := f3.lt; omega) (Option.some.inj h))).le d2)
 refine G.rd rfl rfl (.loadB (v := .map (some gh)) na64 rfl f10 rfl) rfl rfl rfl ?_
 have f11 := (((f4.le h1_7).ch h1_8 (fun h => (show g1_7 ≠ g0_0 from by have := f4.lt; omega) (Option.some.inj h))).le d2)
 refine G.rd rfl rfl (.loadAll ag84 (by rfl) rfl f11) rfl rfl rfl ?_
 have f12 := (((hH0.le (h0_0.trans (d1.trans h1_7))).ch h1_8 (fun h => (show g1_7 ≠ gh from by have := hH0.lt; have := h0_0.size; have := d1.size; omega) (Option.some.inj h))).le d2)
 refine G.rd rfl rfl (.as (.lookup1 (key := at_) Tryz.underlying64 kplace z86 rfl rfl f12) (by rw [hh] <;> rfl)) rfl rfl rfl ?_
 refine G.any rfl rfl (.field1 (v := .int .i64 (h.am)) Tryz.underlying86 rfl na3 rfl rfl) rfl rfl rfl ?_
 refine G.any rfl rfl (.add rfl rfl (by omega)) rfl rfl rfl ?_
 refine G.any rfl rfl (.field0 fa44_2 rfl) rfl rfl rfl ?_
 refine G.any rfl rfl (.idxAo ((j).toNat) Tryz.underlying35 sz3 rfl rfl (by omega) (by omega)) rfl rfl rfl ?_
 refine G.ef0 rfl rfl rfl rfl ?_
 refine Ef.store sz3 rfl rfl f9 (by simp [seatV_row.len, -List.getD_eq_getElem?_getD]; omega) rfl ?_
 intro w2_14 b2_14 h2_14
 refine ⟨fun h => absurd h (ne_true_of_eq_false (by kernel_rfl)), ?_⟩
 have b2_14 : Blk w2_14 g1_7 44 (seatV (s.setH ((j).toNat) ((s.h ((j).toNat)) + h.am))).toArray := b2_14.cast (seatH_set s ((s.h ((j).toNat)) + h.am) (by omega))
 have L13 : ChP w w2_14 (fun k => k = gs ∨ k = gh) := L8.ch h2_14 (fun i hi hlt => by cases hi; exact absurd hlt (by have := L2.size; have := hg1_7; omega))
 refine G.nil (E.thenN (WC.seq ?_))
 refine WC.draw [0, 1, 2, 3, 4, 5, 6, 7] mixed (by kernel_rfl) ?_
 intro w3 d3
 have L14 := L13.le d3
 refine G.any rfl rfl (.move rfl) rfl rfl rfl ?_
 refine G.any rfl rfl (.nilCheck rfl) rfl rfl rfl ?_
 refine G.any rfl rfl (.field0 fa66_1 rfl) rfl rfl rfl ?_
 have f15 := ((f10.ch h2_14 (fun h => (show g1_7 ≠ gp from by have := f3.lt; omega) (Option.some.inj h))).le d3)
 refine G.rd rfl rfl (.loadB (v := .map (some gs)) na63 rfl f15 rfl) rfl rfl rfl ?_
 refine G.any rfl rfl (.field0 fa84_0 rfl) rfl rfl rfl ?_
 have f16 := ((f11.ch h2_14 (fun h => (show g1_7 ≠ g0_0 from by have := f4.lt; omega) (Option.some.inj h))).le d3)
 refine G.rd rfl rfl (.loadB (v := .int .i64 (at_.ch)) na3 rfl f16 rfl) rfl rfl rfl ?_
 have f17 := (b2_14.le d3)
 refine G.rd rfl rfl (.loadAll ag44 (by rfl) rfl f17) rfl rfl rfl ?_
 have f18 := (((((f5.le h1_7).ch h1_8 (fun h => (show g1_7 ≠ gs from by have := f5.lt; omega) (Option.some.inj h))).le d2).ch h2_14 (fun h => (show g1_7 ≠ gs from by have := f5.lt; omega) (Option.some.inj h))).le d3)
 refine G.ef0 rfl rfl rfl rfl ?_
 refine Ef.updateG (key := at_.ch) (u := (s.setH ((j).toNat) ((s.h ((j).toNat)) + h.am))) Tryz.underlying63 kint rfl rfl rfl f18 stay_i (hs) ?_
 intro w3_7 b3_7 h3_7
 refine ⟨fun h => absurd h (ne_true_of_eq_false (by kernel_rfl)), ?_⟩
 have L19 : ChP w w3_7 (fun k => k = gs ∨ k = gh) := L14.ch h3_7 (fun i hi _ => by cases hi; exact Or.inl rfl)
 refine G.nil (E.thenN ?_)
 refine WC.draw [0, 1, 2, 3, 4, 5] mixed (by kernel_rfl) ?_
 intro w4 d4
 have L20 := L19.le d4
 refine G.any rfl rfl (.move rfl) rfl rfl rfl ?_
 refine G.any rfl rfl (.nilCheck rfl) rfl rfl rfl ?_
 refine G.any rfl rfl (.field0 fa66_2 rfl) rfl rfl rfl ?_
 have f21 := ((f15.ch h3_7 (fun h => (Ne.symm n1) (Option.some.inj h))).le d4)
 refine G.rd rfl rfl (.loadB (v := .map (some gh)) na64 rfl f21 rfl) rfl rfl rfl ?_
 have f22 := ((f16.ch h3_7 (fun h => (show gs ≠ g0_0 from by have := hS0.lt; omega) (Option.some.inj h))).le d4)
 refine G.rd rfl rfl (.loadAll ag84 (by rfl) rfl f22) rfl rfl rfl ?_
 have f23 := ((((f12.ch h2_14 (fun h => (show g1_7 ≠ gh from by have := hH0.lt; have := h0_0.size; have := d1.size; omega) (Option.some.inj h))).le d3).ch h3_7 (fun h => n3 (Option.some.inj h))).le d4)
 refine G.ef0 rfl rfl rfl rfl ?_
 refine Ef.deleteG (key := at_) Tryz.underlying64 kplace rfl rfl f23 ?_
 intro w4_5 b4_5 h4_5
 refine ⟨fun h => absurd h (ne_true_of_eq_false (by kernel_rfl)), ?_⟩
 have L24 : ChP w w4_5 (fun k => k = gs ∨ k = gh) := L20.ch h4_5 (fun i hi _ => by cases hi; exact Or.inr rfl)
 refine G.nil (E.end_ ?_)
 have f25 := ((b3_7.le d4).ch h4_5 (fun h => (Ne.symm n3) (Option.some.inj h)))
 refine E.ret0 rfl ?_
 exact ⟨rfl, f25, b4_5, L24⟩

theorem lsettle_ok {gp gs gh c cs ck : Nat} {A : Option Addr} {own : List Int} {ls : SM} {lh : HM} {lost : Int} (ch side id : Int) (sec : Nat) (w : World) (hL : LedL w gp gs gh A c cs ck own ls lh lost) (hw : ∀ x ∈ ls, ∀ i, 0 ≤ x.2.2.h i ∧ x.2.2.h i ≤ 1125899906842624) (hv : ∀ x ∈ lh, (0 ≤ x.2.1.side ∧ x.2.1.side ≤ 1) ∧ (0 ≤ x.2.2.am ∧ x.2.2.am ≤ 1125899906842624) ∧ ∃ s, getG x.2.1.ch ls = some s) : Calls Tryz.prog 17 #[.pointer (some ⟨gp, 0, none⟩), .int .i64 (ch), .int .i64 (side), .int .i64 (id), .int .u64 (((sec : Nat) : Int))] w fun r w' => ChP w w' (LF gp gs gh A c) ∧ ((getG (⟨ch, side, id⟩ : Spot) lh = none ∧ r = .returned (.int .i64 5) ∧ LedL w' gp gs gh A c cs ck own ls lh lost) ∨ ∃ h, getG (⟨ch, side, id⟩ : Spot) lh = some h ∧ ((base sec ≠ h.pt ∧ r = .returned (.int .i64 23) ∧ LedL w' gp gs gh A c cs ck own ls lh lost) ∨ (base sec = h.pt ∧ r = .returned (.int .i64 0) ∧ ∃ s, getG ch ls = some s ∧ LedL w' gp gs gh A c cs ck own (updM ch (s.setH (1 - side).toNat (s.h (1 - side).toNat + h.am)) ls) (delM (⟨ch, side, id⟩ : Spot) lh) lost))) := by
 have hp0 := hL.hp
 have hO0 := hL.hO
 have hS0 := hL.hS
 have hH0 := hL.hH
 have n1 := hL.ps
 have n2 := hL.ph
 have n3 := hL.sh
 have n4 := hL.op
 have n5 := hL.os
 have n6 := hL.oh
 refine enter Tryz.func17 rfl rfl ?_
 have L0 := ChP.refl w (LF gp gs gh A c)
 refine WC.seq (WC.region ?_)
 refine W.any (.assign rfl) rfl rfl rfl ?_
 refine W.nil (E.thenN (WC.seq (WC.region ?_)))
 refine W.any (.move rfl) rfl rfl rfl ?_
 refine W.any (.move rfl) rfl rfl rfl ?_
 refine W.any (.move rfl) rfl rfl rfl ?_
 refine W.any (.buildP (placeV (⟨ch, side, id⟩ : Spot)) pl84 z84 rfl rfl) rfl rfl rfl ?_
 refine W.ef rfl rfl rfl ?_
 refine Ef.allocA z84 ?_
 intro g1_4 w1_4 hg1_4 b1_4 h1_4
 have L1 := L0.le h1_4
 have b1_4 : Blk w1_4 g1_4 84 (placeV noSpot).toArray := b1_4
 refine W.ef0 rfl rfl ?_
 refine Ef.storeAll sz84 (by rfl) rfl rfl b1_4 (by simp only [List.size_toArray, placeV_row.len]) (placeV_row.one (⟨ch, side, id⟩ : Spot)) ?_
 intro w1_5 b1_5 h1_5
 have b1_5 : Blk w1_5 g1_4 84 (placeV (⟨ch, side, id⟩ : Spot)).toArray := b1_5
 have L2 : ChP w w1_5 (LF gp gs gh A c) := L1.ch h1_5 (fun i hi hlt => by cases hi; exact absurd hlt (by have := L0.size; have := hg1_4; omega))
 refine W.nil (E.thenN (WC.seq ?_))
 refine WC.draw [0, 1, 2, 3, 4, 5, 6, 7, 8, 9, 10, 11] mixed (by kernel_rfl) ?_
 intro w2 d2
 have L3 := L2.le d2
 refine G.any rfl rfl (.move rfl) rfl rfl rfl ?_
 refine G.any rfl rfl (.nilCheck rfl) rfl rfl rfl ?_
 refine G.any rfl rfl (.field0 fa66_2 rfl) rfl rfl rfl ?_
 have f4 := (((hp0.le h1_4).ch h1_5 (fun h => (show g1_4 ≠ gp from by have := hp0.lt; omega) (Option.some.inj h))).le d2)
 refine G.rd rfl rfl (.loadB (v := .map (some gh)) na64 rfl f4 rfl) rfl rfl rfl ?_
 have f5 := (b1_5.le d2)
 refine G.rd rfl rfl (.loadAll ag84 (by rfl) rfl f5) rfl rfl rfl ?_
 rcases optG (getG (⟨ch, side, id⟩ : Spot) lh) with hk2_5 | ⟨vhk2_5, hk2_5⟩
 ·have f6 := (((hH0.le h1_4).ch h1_5 (fun h => (show g1_4 ≠ gh from by have := hH0.lt; omega) (Option.some.inj h))).le d2)
  refine G.rd rfl rfl (.as (.lookup2 (key := (⟨ch, side, id⟩ : Spot)) Tryz.underlying64 kplace z86 rfl rfl f6) (by rw [hk2_5] <;> rfl)) rfl rfl rfl ?_
  refine G.any rfl rfl (.move rfl) rfl rfl rfl ?_
  refine G.any rfl rfl (.extract (v := .agg (holdV noHold).toArray) rfl rfl) rfl rfl rfl ?_
  refine G.any rfl rfl (.extract (v := .bool false) rfl rfl) rfl rfl rfl ?_
  refine G.ef rfl rfl rfl rfl rfl ?_
  refine Ef.allocA z86 ?_
  intro g2_9 w2_9 hg2_9 b2_9 h2_9
  refine ⟨fun _ => h2_9, ?_⟩
  have L7 := L3.le h2_9
  have b2_9 : Blk w2_9 g2_9 86 (holdV noHold).toArray := b2_9
  refine G.ef0 rfl rfl rfl rfl ?_
  refine Ef.storeAll sz86 (by rfl) rfl rfl b2_9 (by simp only [List.size_toArray, holdV_row.len]) (holdV_row.one noHold) ?_
  intro w2_10 b2_10 h2_10
  refine ⟨fun h => absurd h (ne_true_of_eq_false (by kernel_rfl)), ?_⟩
  have b2_10 : Blk w2_10 g2_9 86 (holdV noHold).toArray := b2_10
  have L8 : ChP w w2_10 (LF gp gs gh A c) := L7.ch h2_10 (fun i hi hlt => by cases hi; exact absurd hlt (by have := L3.size; have := hg2_9; omega))
  refine G.any rfl rfl (.assign rfl) rfl rfl rfl ?_
  refine G.nil (E.thenN (WC.seq (WC.block (WC.seq (WC.region ?_)))))
  refine W.any (.move rfl) rfl rfl rfl ?_
  refine W.any (.not rfl) rfl rfl rfl ?_
  refine W.any (.assign rfl) rfl rfl rfl ?_
  refine W.nil (E.thenN ?_)
  refine WC.condT rfl ?_
  refine WC.seq (WC.region ?_)
  refine W.any (.assign rfl) rfl rfl rfl ?_
  refine W.nil (E.thenN (WC.ret (E.blkR (E.thenR ?_))))
  have f9 := ((f4.le h2_9).ch h2_10 (fun h => (show g2_9 ≠ gp from by have := f4.lt; omega) (Option.some.inj h)))
  have f10 := ((((hO0.le h1_4).ch h1_5 (fun q hq => by cases hq; exact (fun he => by have := (hO0.row he).2; omega))).le (d2.trans h2_9)).ch h2_10 (fun q hq => by cases hq; exact (fun he => by have := (hO0.row he).2; have := h1_4.size; have := h1_5.size; have := d2.size; omega)))
  have f11 := ((((hS0.le h1_4).ch h1_5 (fun h => (show g1_4 ≠ gs from by have := hS0.lt; omega) (Option.some.inj h))).le (d2.trans h2_9)).ch h2_10 (fun h => (show g2_9 ≠ gs from by have := hS0.lt; have := h1_4.size; have := h1_5.size; have := d2.size; omega) (Option.some.inj h)))
  have f12 := ((f6.le h2_9).ch h2_10 (fun h => (show g2_9 ≠ gh from by have := f6.lt; omega) (Option.some.inj h)))
  refine E.retG1 rfl rfl ?_
  exact ⟨L8, .inl ⟨hk2_5, rfl, ⟨f9, f10, f11, f12, n1, n2, n3, n4, n5, n6⟩⟩⟩
 ·obtain ⟨bh, hbh⟩ := getG_mem hk2_5
  obtain ⟨hv1, hv2, sv, hsv⟩ := hv _ hbh
  simp only at hv1 hv2 hsv
  obtain ⟨bs, hbs⟩ := getG_mem hsv
  have hws := hw _ hbs
  simp only at hws
  have f13 := (((hH0.le h1_4).ch h1_5 (fun h => (show g1_4 ≠ gh from by have := hH0.lt; omega) (Option.some.inj h))).le d2)
  refine G.rd rfl rfl (.as (.lookup2 (key := (⟨ch, side, id⟩ : Spot)) Tryz.underlying64 kplace z86 rfl rfl f13) (by rw [hk2_5] <;> rfl)) rfl rfl rfl ?_
  refine G.any rfl rfl (.move rfl) rfl rfl rfl ?_
  refine G.any rfl rfl (.extract (v := .agg (holdV vhk2_5).toArray) rfl rfl) rfl rfl rfl ?_
  refine G.any rfl rfl (.extract (v := .bool true) rfl rfl) rfl rfl rfl ?_
  refine G.ef rfl rfl rfl rfl rfl ?_
  refine Ef.allocA z86 ?_
  intro g2_9_1 w2_9_1 hg2_9_1 b2_9_1 h2_9_1
  refine ⟨fun _ => h2_9_1, ?_⟩
  have L14 := L3.le h2_9_1
  have b2_9_1 : Blk w2_9_1 g2_9_1 86 (holdV noHold).toArray := b2_9_1
  refine G.ef0 rfl rfl rfl rfl ?_
  refine Ef.storeAll sz86 (by rfl) rfl rfl b2_9_1 (by simp only [List.size_toArray, holdV_row.len]) (holdV_row.one vhk2_5) ?_
  intro w2_10_1 b2_10_1 h2_10_1
  refine ⟨fun h => absurd h (ne_true_of_eq_false (by kernel_rfl)), ?_⟩
  have b2_10_1 : Blk w2_10_1 g2_9_1 86 (holdV vhk2_5).toArray := b2_10_1
  have L15 : ChP w w2_10_1 (LF gp gs gh A c) := L14.ch h2_10_1 (fun i hi hlt => by cases hi; exact absurd hlt (by have := L3.size; have := hg2_9_1; omega))
  refine G.any rfl rfl (.assign rfl) rfl rfl rfl ?_
  refine G.nil (E.thenN (WC.seq (WC.block (WC.seq (WC.region ?_)))))
  refine W.any (.move rfl) rfl rfl rfl ?_
  refine W.any (.not rfl) rfl rfl rfl ?_
  refine W.any (.assign rfl) rfl rfl rfl ?_
  refine W.nil (E.thenN ?_)
  refine WC.condF rfl ?_
  refine WC.seq ?_
  refine WC.draw [0, 2, 3, 1, 4, 5] mixed (by kernel_rfl) ?_
  intro w5 d5
  have L16 := L15.le d5
  refine G.any rfl rfl (.move rfl) rfl rfl rfl ?_
  refine G.any rfl rfl (.field0 fa86_1 rfl) rfl rfl rfl ?_
  have f17 := (b2_10_1.le d5)
  refine G.rd rfl rfl (.loadB (v := .int .u64 (((vhk2_5.pt : Nat) : Int))) na33 rfl f17 rfl) rfl rfl rfl ?_
  refine G.ef rfl rfl rfl rfl rfl ?_
  refine Ef.call go49 rfl rfl (base_ok sec w5) ?_
  rintro _ w5_1 ⟨rfl, h5_1⟩
  refine ⟨_, rfl, ?_⟩
  refine ⟨fun _ => h5_1, ?_⟩
  have L18 := L16.le h5_1
  refine G.any rfl rfl (.neq rfl rfl) rfl rfl rfl ?_
  refine G.any rfl rfl (.assign rfl) rfl rfl rfl ?_
  refine G.nil (E.thenN ?_)
  by_cases c1 : ((base sec : Nat) : Int) ≠ ((vhk2_5.pt : Nat) : Int)
  ·refine WC.condY rfl (decide_eq_true c1) ?_
   refine WC.seq (WC.region ?_)
   refine W.any (.assign rfl) rfl rfl rfl ?_
   refine W.nil (E.thenN (WC.ret (E.blkR (E.thenR ?_))))
   have f19 := (((f4.le h2_9_1).ch h2_10_1 (fun h => (show g2_9_1 ≠ gp from by have := f4.lt; omega) (Option.some.inj h))).le (d5.trans h5_1))
   have f20 := (((((hO0.le h1_4).ch h1_5 (fun q hq => by cases hq; exact (fun he => by have := (hO0.row he).2; omega))).le (d2.trans h2_9_1)).ch h2_10_1 (fun q hq => by cases hq; exact (fun he => by have := (hO0.row he).2; have := h1_4.size; have := h1_5.size; have := d2.size; omega))).le (d5.trans h5_1))
   have f21 := (((((hS0.le h1_4).ch h1_5 (fun h => (show g1_4 ≠ gs from by have := hS0.lt; omega) (Option.some.inj h))).le (d2.trans h2_9_1)).ch h2_10_1 (fun h => (show g2_9_1 ≠ gs from by have := hS0.lt; have := h1_4.size; have := h1_5.size; have := d2.size; omega) (Option.some.inj h))).le (d5.trans h5_1))
   have f22 := (((f13.le h2_9_1).ch h2_10_1 (fun h => (show g2_9_1 ≠ gh from by have := f13.lt; omega) (Option.some.inj h))).le (d5.trans h5_1))
   refine E.retG1 rfl rfl ?_
   exact ⟨L18, .inr ⟨_, hk2_5, .inl ⟨(by intro e; apply c1; rw [e]), rfl, ⟨f19, f20, f21, f22, n1, n2, n3, n4, n5, n6⟩⟩⟩⟩
  ·refine WC.condN rfl (decide_eq_false c1) ?_
   refine WC.skip (E.blkN (E.thenN (WC.seq (WC.region ?_))))
   refine W.any (.move rfl) rfl rfl rfl ?_
   have f23 := (((f5.le h2_9_1).ch h2_10_1 (fun h => (show g2_9_1 ≠ g1_4 from by have := f5.lt; omega) (Option.some.inj h))).le (d5.trans h5_1))
   refine W.rd (.loadAll ag84 (by rfl) rfl f23) rfl rfl rfl ?_
   refine W.any (.move rfl) rfl rfl rfl ?_
   refine W.any (.sub rfl rfl (by omega)) rfl rfl rfl ?_
   have f24 := (((f4.le h2_9_1).ch h2_10_1 (fun h => (show g2_9_1 ≠ gp from by have := f4.lt; omega) (Option.some.inj h))).le (d5.trans h5_1))
   have f25 := (((((hS0.le h1_4).ch h1_5 (fun h => (show g1_4 ≠ gs from by have := hS0.lt; omega) (Option.some.inj h))).le (d2.trans h2_9_1)).ch h2_10_1 (fun h => (show g2_9_1 ≠ gs from by have := hS0.lt; have := h1_4.size; have := h1_5.size; have := d2.size; omega) (Option.some.inj h))).le (d5.trans h5_1))
   have f26 := (((f13.le h2_9_1).ch h2_10_1 (fun h => (show g2_9_1 ≠ gh from by have := f13.lt; omega) (Option.some.inj h))).le (d5.trans h5_1))
   refine W.ef rfl rfl rfl ?_
   refine Ef.call go50 rfl rfl (lend_ok (s := sv) (h := vhk2_5) (⟨ch, side, id⟩ : Spot) (1 - side) w5_1 f24 f25 f26 n1 n2 n3 hsv hk2_5 (by omega) (hws _) (hv2)) ?_
   rintro _ w7_4 ⟨rfl, bs7_4, bh7_4, h7_4⟩
   refine ⟨_, rfl, ?_⟩
   have L27 := L18.sub h7_4 (fun i hi hlt => Or.elim hi (fun hi => (by subst hi; exact Or.inr (Or.inl rfl))) (fun hi => (by subst hi; exact Or.inr (Or.inr (Or.inl rfl)))))
   refine W.nil (E.thenN (WC.seq (WC.region ?_)))
   refine W.any (.assign rfl) rfl rfl rfl ?_
   refine W.nil (E.thenN (WC.ret ?_))
   have f28 := (f24.chP h7_4 (fun hF => Or.elim hF (fun hF => n1 hF) (fun hF => n2 hF)))
   have f29 := ((((((hO0.le h1_4).ch h1_5 (fun q hq => by cases hq; exact (fun he => by have := (hO0.row he).2; omega))).le (d2.trans h2_9_1)).ch h2_10_1 (fun q hq => by cases hq; exact (fun he => by have := (hO0.row he).2; have := h1_4.size; have := h1_5.size; have := d2.size; omega))).le (d5.trans h5_1)).chP h7_4 (fun q hqq hF => Or.elim hF (fun hF => (by subst hF; exact n5 hqq)) (fun hF => (by subst hF; exact n6 hqq))))
   refine E.retG1 rfl rfl ?_
   exact ⟨L27, .inr ⟨_, hk2_5, .inr ⟨(by omega), rfl, _, hsv, ⟨f28, f29, bs7_4, bh7_4, n1, n2, n3, n4, n5, n6⟩⟩⟩⟩

theorem lfail_ok {gp gs gh c cs ck : Nat} {A : Option Addr} {own : List Int} {ls : SM} {lh : HM} {lost : Int} (ch side id : Int) (w : World) (hL : LedL w gp gs gh A c cs ck own ls lh lost) (hw : ∀ x ∈ ls, ∀ i, 0 ≤ x.2.2.h i ∧ x.2.2.h i ≤ 1125899906842624) (hv : ∀ x ∈ lh, (0 ≤ x.2.1.side ∧ x.2.1.side ≤ 1) ∧ (0 ≤ x.2.2.am ∧ x.2.2.am ≤ 1125899906842624) ∧ ∃ s, getG x.2.1.ch ls = some s) : Calls Tryz.prog 18 #[.pointer (some ⟨gp, 0, none⟩), .int .i64 (ch), .int .i64 (side), .int .i64 (id)] w fun r w' => ChP w w' (LF gp gs gh A c) ∧ ((getG (⟨ch, side, id⟩ : Spot) lh = none ∧ r = .returned (.int .i64 5) ∧ LedL w' gp gs gh A c cs ck own ls lh lost) ∨ ∃ h, getG (⟨ch, side, id⟩ : Spot) lh = some h ∧ r = .returned (.int .i64 0) ∧ ∃ s, getG ch ls = some s ∧ LedL w' gp gs gh A c cs ck own (updM ch (s.setH (side).toNat (s.h (side).toNat + h.am)) ls) (delM (⟨ch, side, id⟩ : Spot) lh) lost) := by
 have hp0 := hL.hp
 have hO0 := hL.hO
 have hS0 := hL.hS
 have hH0 := hL.hH
 have n1 := hL.ps
 have n2 := hL.ph
 have n3 := hL.sh
 have n4 := hL.op
 have n5 := hL.os
 have n6 := hL.oh
 refine enter Tryz.func18 rfl rfl ?_
 have L0 := ChP.refl w (LF gp gs gh A c)
 refine WC.seq (WC.region ?_)
 refine W.any (.assign rfl) rfl rfl rfl ?_
 refine W.nil (E.thenN (WC.seq (WC.region ?_)))
 refine W.any (.move rfl) rfl rfl rfl ?_
 refine W.any (.move rfl) rfl rfl rfl ?_
 refine W.any (.move rfl) rfl rfl rfl ?_
 refine W.any (.buildP (placeV (⟨ch, side, id⟩ : Spot)) pl84 z84 rfl rfl) rfl rfl rfl ?_
 refine W.ef rfl rfl rfl ?_
 refine Ef.allocA z84 ?_
 intro g1_4 w1_4 hg1_4 b1_4 h1_4
 have L1 := L0.le h1_4
 have b1_4 : Blk w1_4 g1_4 84 (placeV noSpot).toArray := b1_4
 refine W.ef0 rfl rfl ?_
 refine Ef.storeAll sz84 (by rfl) rfl rfl b1_4 (by simp only [List.size_toArray, placeV_row.len]) (placeV_row.one (⟨ch, side, id⟩ : Spot)) ?_
 intro w1_5 b1_5 h1_5
 have b1_5 : Blk w1_5 g1_4 84 (placeV (⟨ch, side, id⟩ : Spot)).toArray := b1_5
 have L2 : ChP w w1_5 (LF gp gs gh A c) := L1.ch h1_5 (fun i hi hlt => by cases hi; exact absurd hlt (by have := L0.size; have := hg1_4; omega))
 refine W.nil (E.thenN (WC.seq (WC.seq ?_)))
 refine WC.draw [0, 1, 2, 3, 4, 5, 6, 7, 8, 9, 10, 11] mixed (by kernel_rfl) ?_
 intro w2 d2
 have L3 := L2.le d2
 refine G.any rfl rfl (.move rfl) rfl rfl rfl ?_
 refine G.any rfl rfl (.nilCheck rfl) rfl rfl rfl ?_
 refine G.any rfl rfl (.field0 fa66_2 rfl) rfl rfl rfl ?_
 have f4 := (((hp0.le h1_4).ch h1_5 (fun h => (show g1_4 ≠ gp from by have := hp0.lt; omega) (Option.some.inj h))).le d2)
 refine G.rd rfl rfl (.loadB (v := .map (some gh)) na64 rfl f4 rfl) rfl rfl rfl ?_
 have f5 := (b1_5.le d2)
 refine G.rd rfl rfl (.loadAll ag84 (by rfl) rfl f5) rfl rfl rfl ?_
 rcases optG (getG (⟨ch, side, id⟩ : Spot) lh) with hk2_5 | ⟨vhk2_5, hk2_5⟩
 ·have f6 := (((hH0.le h1_4).ch h1_5 (fun h => (show g1_4 ≠ gh from by have := hH0.lt; omega) (Option.some.inj h))).le d2)
  refine G.rd rfl rfl (.as (.lookup2 (key := (⟨ch, side, id⟩ : Spot)) Tryz.underlying64 kplace z86 rfl rfl f6) (by rw [hk2_5] <;> rfl)) rfl rfl rfl ?_
  refine G.any rfl rfl (.move rfl) rfl rfl rfl ?_
  refine G.any rfl rfl (.extract (v := .agg (holdV noHold).toArray) rfl rfl) rfl rfl rfl ?_
  refine G.any rfl rfl (.extract (v := .bool false) rfl rfl) rfl rfl rfl ?_
  refine G.ef rfl rfl rfl rfl rfl ?_
  refine Ef.allocA z86 ?_
  intro g2_9 w2_9 hg2_9 b2_9 h2_9
  refine ⟨fun _ => h2_9, ?_⟩
  have L7 := L3.le h2_9
  have b2_9 : Blk w2_9 g2_9 86 (holdV noHold).toArray := b2_9
  refine G.ef0 rfl rfl rfl rfl ?_
  refine Ef.storeAll sz86 (by rfl) rfl rfl b2_9 (by simp only [List.size_toArray, holdV_row.len]) (holdV_row.one noHold) ?_
  intro w2_10 b2_10 h2_10
  refine ⟨fun h => absurd h (ne_true_of_eq_false (by kernel_rfl)), ?_⟩
  have b2_10 : Blk w2_10 g2_9 86 (holdV noHold).toArray := b2_10
  have L8 : ChP w w2_10 (LF gp gs gh A c) := L7.ch h2_10 (fun i hi hlt => by cases hi; exact absurd hlt (by have := L3.size; have := hg2_9; omega))
  refine G.any rfl rfl (.assign rfl) rfl rfl rfl ?_
  refine G.nil (E.thenN (WC.seq (WC.region ?_)))
  refine W.any (.move rfl) rfl rfl rfl ?_
  refine W.any (.not rfl) rfl rfl rfl ?_
  refine W.nil (E.thenN ?_)
  refine WC.condT rfl ?_
  refine WC.seq (WC.region ?_)
  refine W.any (.assign rfl) rfl rfl rfl ?_
  refine W.nil (E.thenN (WC.ret (E.thenR ?_)))
  have f9 := ((f4.le h2_9).ch h2_10 (fun h => (show g2_9 ≠ gp from by have := f4.lt; omega) (Option.some.inj h)))
  have f10 := ((((hO0.le h1_4).ch h1_5 (fun q hq => by cases hq; exact (fun he => by have := (hO0.row he).2; omega))).le (d2.trans h2_9)).ch h2_10 (fun q hq => by cases hq; exact (fun he => by have := (hO0.row he).2; have := h1_4.size; have := h1_5.size; have := d2.size; omega)))
  have f11 := ((((hS0.le h1_4).ch h1_5 (fun h => (show g1_4 ≠ gs from by have := hS0.lt; omega) (Option.some.inj h))).le (d2.trans h2_9)).ch h2_10 (fun h => (show g2_9 ≠ gs from by have := hS0.lt; have := h1_4.size; have := h1_5.size; have := d2.size; omega) (Option.some.inj h)))
  have f12 := ((f6.le h2_9).ch h2_10 (fun h => (show g2_9 ≠ gh from by have := f6.lt; omega) (Option.some.inj h)))
  refine E.retG1 rfl rfl ?_
  exact ⟨L8, .inl ⟨hk2_5, rfl, ⟨f9, f10, f11, f12, n1, n2, n3, n4, n5, n6⟩⟩⟩
 ·obtain ⟨bh, hbh⟩ := getG_mem hk2_5
  obtain ⟨hv1, hv2, sv, hsv⟩ := hv _ hbh
  simp only at hv1 hv2 hsv
  obtain ⟨bs, hbs⟩ := getG_mem hsv
  have hws := hw _ hbs
  simp only at hws
  have f13 := (((hH0.le h1_4).ch h1_5 (fun h => (show g1_4 ≠ gh from by have := hH0.lt; omega) (Option.some.inj h))).le d2)
  refine G.rd rfl rfl (.as (.lookup2 (key := (⟨ch, side, id⟩ : Spot)) Tryz.underlying64 kplace z86 rfl rfl f13) (by rw [hk2_5] <;> rfl)) rfl rfl rfl ?_
  refine G.any rfl rfl (.move rfl) rfl rfl rfl ?_
  refine G.any rfl rfl (.extract (v := .agg (holdV vhk2_5).toArray) rfl rfl) rfl rfl rfl ?_
  refine G.any rfl rfl (.extract (v := .bool true) rfl rfl) rfl rfl rfl ?_
  refine G.ef rfl rfl rfl rfl rfl ?_
  refine Ef.allocA z86 ?_
  intro g2_9_1 w2_9_1 hg2_9_1 b2_9_1 h2_9_1
  refine ⟨fun _ => h2_9_1, ?_⟩
  have L14 := L3.le h2_9_1
  have b2_9_1 : Blk w2_9_1 g2_9_1 86 (holdV noHold).toArray := b2_9_1
  refine G.ef0 rfl rfl rfl rfl ?_
  refine Ef.storeAll sz86 (by rfl) rfl rfl b2_9_1 (by simp only [List.size_toArray, holdV_row.len]) (holdV_row.one vhk2_5) ?_
  intro w2_10_1 b2_10_1 h2_10_1
  refine ⟨fun h => absurd h (ne_true_of_eq_false (by kernel_rfl)), ?_⟩
  have b2_10_1 : Blk w2_10_1 g2_9_1 86 (holdV vhk2_5).toArray := b2_10_1
  have L15 : ChP w w2_10_1 (LF gp gs gh A c) := L14.ch h2_10_1 (fun i hi hlt => by cases hi; exact absurd hlt (by have := L3.size; have := hg2_9_1; omega))
  refine G.any rfl rfl (.assign rfl) rfl rfl rfl ?_
  refine G.nil (E.thenN (WC.seq (WC.region ?_)))
  refine W.any (.move rfl) rfl rfl rfl ?_
  refine W.any (.not rfl) rfl rfl rfl ?_
  refine W.nil (E.thenN ?_)
  refine WC.condF rfl ?_
  refine WC.skip (E.thenN (WC.seq (WC.region ?_)))
  refine W.any (.move rfl) rfl rfl rfl ?_
  have f16 := ((f5.le h2_9_1).ch h2_10_1 (fun h => (show g2_9_1 ≠ g1_4 from by have := f5.lt; omega) (Option.some.inj h)))
  refine W.rd (.loadAll ag84 (by rfl) rfl f16) rfl rfl rfl ?_
  refine W.any (.move rfl) rfl rfl rfl ?_
  have f17 := ((f4.le h2_9_1).ch h2_10_1 (fun h => (show g2_9_1 ≠ gp from by have := f4.lt; omega) (Option.some.inj h)))
  have f18 := ((((hS0.le h1_4).ch h1_5 (fun h => (show g1_4 ≠ gs from by have := hS0.lt; omega) (Option.some.inj h))).le (d2.trans h2_9_1)).ch h2_10_1 (fun h => (show g2_9_1 ≠ gs from by have := hS0.lt; have := h1_4.size; have := h1_5.size; have := d2.size; omega) (Option.some.inj h)))
  have f19 := ((f13.le h2_9_1).ch h2_10_1 (fun h => (show g2_9_1 ≠ gh from by have := f13.lt; omega) (Option.some.inj h)))
  refine W.ef rfl rfl rfl ?_
  refine Ef.call go50 rfl rfl (lend_ok (s := sv) (h := vhk2_5) (⟨ch, side, id⟩ : Spot) side w2_10_1 f17 f18 f19 n1 n2 n3 hsv hk2_5 (by omega) (hws _) (hv2)) ?_
  rintro _ w5_3 ⟨rfl, bs5_3, bh5_3, h5_3⟩
  refine ⟨_, rfl, ?_⟩
  have L20 := L15.sub h5_3 (fun i hi hlt => Or.elim hi (fun hi => (by subst hi; exact Or.inr (Or.inl rfl))) (fun hi => (by subst hi; exact Or.inr (Or.inr (Or.inl rfl)))))
  refine W.nil (E.thenN (WC.seq (WC.region ?_)))
  refine W.any (.assign rfl) rfl rfl rfl ?_
  refine W.nil (E.thenN (WC.ret ?_))
  have f21 := (f17.chP h5_3 (fun hF => Or.elim hF (fun hF => n1 hF) (fun hF => n2 hF)))
  have f22 := (((((hO0.le h1_4).ch h1_5 (fun q hq => by cases hq; exact (fun he => by have := (hO0.row he).2; omega))).le (d2.trans h2_9_1)).ch h2_10_1 (fun q hq => by cases hq; exact (fun he => by have := (hO0.row he).2; have := h1_4.size; have := h1_5.size; have := d2.size; omega))).chP h5_3 (fun q hqq hF => Or.elim hF (fun hF => (by subst hF; exact n5 hqq)) (fun hF => (by subst hF; exact n6 hqq))))
  refine E.retG1 rfl rfl ?_
  exact ⟨L20, .inr ⟨_, hk2_5, rfl, _, hsv, ⟨f21, f22, bs5_3, bh5_3, n1, n2, n3, n4, n5, n6⟩⟩⟩
end Go.Proofs.YtmgfgbplbemklaaGreat

namespace Go.Proofs.YtmgfgbplbemklaaGreat
open Go Go.Sx Go.Num Go.Gsp Go.Lsp
set_option maxRecDepth 20000
set_option linter.unusedSimpArgs false
set_option linter.unusedVariables false
theorem lnew_ok {Aw : Option Addr} {nw cw : Nat} {own : List Int} (w : World) (hO : Vec w iv 1 Aw nw own) : Calls Tryz.prog 6 #[.slice Aw nw cw] w fun r w' => (¬ newOk own ∧ r = .returned (.pointer none) ∧ Le w w') ∨ (newOk own ∧ ∃ gp gs gh A c, r = .returned (.pointer (some ⟨gp, 0, none⟩)) ∧ LedL w' gp gs gh A c 0 0 own [] [] 0 ∧ (∀ k, LF gp gs gh A c k → w.heap.size ≤ k) ∧ Le w w') := by
 have hon := hO.1
 refine enter Tryz.func6 rfl rfl ?_
 have L0 := Le.refl w
 refine WC.seq (WC.region ?_)
 refine W.any (.assign rfl) rfl rfl rfl ?_
 refine W.nil (E.thenN (WC.seq (WC.seq (WC.region ?_))))
 refine W.any (.move rfl) rfl rfl rfl ?_
 refine W.rd (.len Tryz.underlying22 rfl) rfl rfl rfl ?_
 refine W.any (.lss rfl rfl) rfl rfl rfl ?_
 by_cases q1_3 : ((nw : Nat) : Int) < 1
 ·refine W.any (.dec (.move rfl) (decide_eq_true q1_3)) rfl rfl rfl ?_
  refine W.skip rfl rfl rfl (rfl) rfl rfl ?_
  refine W.skip rfl rfl rfl (rfl) rfl rfl ?_
  refine W.skip rfl rfl rfl (rfl) rfl rfl ?_
  refine W.any (.pickT rfl rfl rfl) rfl rfl rfl ?_
  refine W.nil (E.thenN ?_)
  refine WC.condT rfl ?_
  refine WC.seq (WC.region ?_)
  refine W.any (.assign rfl) rfl rfl rfl ?_
  refine W.nil (E.thenN (WC.ret (E.thenR ?_)))
  refine E.retG1 rfl rfl ?_
  exact .inl ⟨(by first | exact new_bad (by omega) (Bool.eq_false_iff.2 c2) | (rintro ⟨⟨z1, z2⟩, _⟩; omega)), rfl, L0⟩
 ·refine W.any (.dec (.move rfl) (decide_eq_false q1_3)) rfl rfl rfl ?_
  refine W.rdg (Any.rd (.move rfl) _) rfl rfl rfl (rfl) rfl rfl ?_
  refine W.rdg (.len Tryz.underlying22 rfl) rfl rfl rfl (rfl) rfl rfl ?_
  refine W.rdg (Any.rd (.gtr rfl rfl) _) rfl rfl rfl (rfl) rfl rfl ?_
  refine W.any (.pickF rfl rfl rfl) rfl rfl rfl ?_
  refine W.nil (E.thenN ?_)
  by_cases c0 : 12 < ((nw : Nat) : Int)
  ·refine WC.condY rfl (decide_eq_true c0) ?_
   refine WC.seq (WC.region ?_)
   refine W.any (.assign rfl) rfl rfl rfl ?_
   refine W.nil (E.thenN (WC.ret (E.thenR ?_)))
   refine E.retG1 rfl rfl ?_
   exact .inl ⟨(by first | exact new_bad (by omega) (Bool.eq_false_iff.2 c2) | (rintro ⟨⟨z1, z2⟩, _⟩; omega)), rfl, L0⟩
  ·refine WC.condN rfl (decide_eq_false c0) ?_
   refine WC.skip (E.thenN (WC.seq (WC.region ?_)))
   refine W.any (.assign rfl) rfl rfl rfl ?_
   refine W.nil (E.thenN (WC.seq (WC.seq (WC.region ?_))))
   refine W.any (.move rfl) rfl rfl rfl ?_
   refine W.rd (.len Tryz.underlying22 rfl) rfl rfl rfl ?_
   refine W.any (.move rfl) rfl rfl rfl ?_
   refine W.nil (E.thenN (WC.block ?_))
   refine WC.loop (ι := Nat) (fun k => [(0, .slice Aw nw cw), (3, .int .i64 (((own.take k).sum))), (16, .slice Aw nw cw), (17, .int .i64 (((nw : Nat) : Int))), (18, .int .i64 (((k : Nat) : Int)))]) (fun k wl0 => (k ≤ nw) ∧ (∀ j, j < k → 0 ≤ own.getD j 0) ∧ ((own.take k).sum ≤ 1125899906842624) ∧ Le w wl0 ∧ w.heap.size ≤ wl0.heap.size) (fun k => nw - k) 0 ?_ ?_ ?_
   ·exact .cons rfl (.cons' rfl (int_eq (by simp)) (.cons rfl (.cons rfl (.cons rfl (.nil _)))))
   ·exact ⟨Nat.zero_le _, fun j hj => by omega, by simp, L0, Nat.le_refl _⟩
   ·rintro k wl0 ⟨hk, hn, hs, Ll0, zl0⟩
    refine WC.seq (WC.region ?_)
    refine W.any (.lss rfl rfl) rfl rfl rfl ?_
    refine W.nil (E.thenN (WC.seq ?_))
    by_cases c1 : ((k : Nat) : Int) < ((nw : Nat) : Int)
    ·refine WC.condY rfl (decide_eq_true c1) ?_
     refine WC.skip (E.thenN (WC.seq (WC.block (WC.seq (WC.region ?_)))))
     refine W.any (.idxS (k) Tryz.underlying22 sz3 rfl rfl (hO.isSome iv_row (by omega)) (rfl) (by omega)) rfl rfl rfl ?_
     refine W.rd (.vone (v := .int .i64 ((own.getD k 0))) na3 rfl (hO.le Ll0) iv_row (getS own 0 (by first | omega | (simp only [List.length_cons, List.length_nil]; omega))) rfl) rfl rfl rfl ?_
     refine W.any (.assign rfl) rfl rfl rfl ?_
     refine W.nil (E.thenN (WC.seq (WC.region ?_)))
     refine W.any (.move rfl) rfl rfl rfl ?_
     refine W.any (.move rfl) rfl rfl rfl ?_
     refine W.ef rfl rfl rfl ?_
     refine Ef.call go26 rfl rfl (nadd_ok ((own.take k).sum) (own.getD k 0) wl0) ?_
     rintro _ w7_2 ⟨rfl, h7_2⟩
     refine ⟨_, rfl, ?_⟩
     have L1 := Ll0.trans h7_2
     refine W.any (.move rfl) rfl rfl rfl ?_
     refine W.any (.extract (v := .int .i64 ((addC ((own.take k).sum) (own.getD k 0)).1)) rfl rfl) rfl rfl rfl ?_
     refine W.any (.extract (v := .bool ((addC ((own.take k).sum) (own.getD k 0)).2)) rfl rfl) rfl rfl rfl ?_
     refine W.any (.assign rfl) rfl rfl rfl ?_
     refine W.any (.assign rfl) rfl rfl rfl ?_
     refine W.nil (E.thenN (WC.seq (WC.seq (WC.region ?_))))
     refine W.any (.move rfl) rfl rfl rfl ?_
     refine W.any (.not rfl) rfl rfl rfl ?_
     refine W.nil (E.thenN ?_)
     by_cases c2 : ((addC ((own.take k).sum) (own.getD k 0)).2) = true
     ·refine WC.condN rfl (congrArg not (c2)) ?_
      refine WC.skip (E.thenN (WC.region ?_))
      refine W.any (.move rfl) rfl rfl rfl ?_
      refine W.any (.assign rfl) rfl rfl rfl ?_
      refine W.nil (E.blkN (E.thenN (WC.region ?_)))
      refine W.any (.add rfl rfl (by omega)) rfl rfl rfl ?_
      refine W.any (.move rfl) rfl rfl rfl ?_
      refine W.nil ?_
      refine E.again (k + 1) (.cons rfl (.cons' rfl (int_eq ((new_next (by omega) hn c2).1)) (.cons rfl (.cons rfl (.cons rfl (.nil _)))))) ?_ ?_
      ·exact ⟨by omega, (new_next (by omega) hn c2).2.2, (new_next (by omega) hn c2).2.1, L1, by have := zl0; have := h7_2.size; omega⟩
      ·first | omega | (simp only []; omega)
     ·refine WC.condY rfl (congrArg not ((Bool.eq_false_iff.2 c2))) ?_
      refine WC.seq (WC.region ?_)
      refine W.any (.assign rfl) rfl rfl rfl ?_
      refine W.nil (E.thenN (WC.ret (E.thenR (E.blkR (E.thenR (E.thenR (E.blkR (E.thenR ?_))))))))
      refine E.retG1 rfl rfl ?_
      exact .inl ⟨(by first | exact new_bad (by omega) (Bool.eq_false_iff.2 c2) | (rintro ⟨⟨z1, z2⟩, _⟩; omega)), rfl, L1⟩
    ·refine WC.condN rfl (decide_eq_false c1) ?_
     refine WC.exit (E.thenX (E.thenX (E.blkH (E.thenN (WC.seq (WC.region ?_))))))
     refine W.any (.move rfl) rfl rfl rfl ?_
     refine W.ef rfl rfl rfl ?_
     refine Ef.call go27 rfl rfl (iclone_ok wl0 (hO.le Ll0) (by omega)) ?_
     rintro _ w12_1 ⟨A12_1, c12_1, rfl, o12_1, h12_1⟩
     refine ⟨_, rfl, ?_⟩
     have L2 := Ll0.trans h12_1
     refine W.ef rfl rfl rfl ?_
     refine Ef.makeMapG ikf seatf ?_
     intro g12_2 w12_2 hg12_2 b12_2 h12_2
     have L3 := L2.trans h12_2
     refine W.ef rfl rfl rfl ?_
     refine Ef.makeMapG plf holdf ?_
     intro g12_3 w12_3 hg12_3 b12_3 h12_3
     have L4 := L3.trans h12_3
     refine W.any (.buildP [.slice A12_1 nw c12_1, .map (some g12_2), .map (some g12_3), .int .i64 (0)] pl66 z66 rfl rfl) rfl rfl rfl ?_
     refine W.ef rfl rfl rfl ?_
     refine Ef.boxA rfl ?_
     intro g12_5 w12_5 hg12_5 b12_5 h12_5
     have L5 := L4.trans h12_5
     have b12_5 : Blk w12_5 g12_5 66 #[.slice A12_1 nw c12_1, .map (some g12_2), .map (some g12_3), .int .i64 (0)] := b12_5
     refine W.any (.assign rfl) rfl rfl rfl ?_
     refine W.nil (E.thenN (WC.ret ?_))
     have f6 := (o12_1.le (h12_2.trans (h12_3.trans h12_5)))
     have f7 := (b12_2.le (h12_3.trans h12_5))
     have f8 := (b12_3.le h12_5)
     refine E.retG1 rfl rfl ?_
     have hk2 : k = nw := (by omega); have hsw : (own.take k).sum = own.sum := (by rw [List.take_of_length_le (by omega)]); have hnn : ∀ x ∈ own, 0 ≤ x := (fun x hx => by obtain ⟨j, hj, rfl⟩ := List.getElem_of_mem hx; have := hn j (by omega); rwa [List.getD_eq_getElem?_getD, List.getElem?_eq_getElem hj] at this); subst hon; exact .inr ⟨⟨⟨by omega, by omega⟩, hnn, by omega⟩, _, _, _, _, _, rfl, ⟨b12_5, f6.mono (Nat.zero_le _), f7, f8, (show g12_5 ≠ g12_2 from by have := b12_2.lt; have := h12_3.size; omega), (show g12_5 ≠ g12_3 from by have := b12_3.lt; omega), (show g12_2 ≠ g12_3 from by have := b12_2.lt; omega), (fun he => by have := (o12_1.row he).2; have := h12_2.size; have := h12_3.size; omega), (fun he => by have := (o12_1.row he).2; omega), (fun he => by have := (o12_1.row he).2; have := h12_2.size; omega)⟩, (by rintro q (rfl | rfl | rfl | hq); exact (by have := hg12_5; have := L4.size; omega); exact (by have := hg12_2; have := L2.size; omega); exact (by have := hg12_3; have := L3.size; omega); exact Nat.le_trans Ll0.size (f6.row hq).1), L5⟩


end Go.Proofs.YtmgfgbplbemklaaGreat

namespace Go.Proofs.YtmgfgbplbemklaaGreat
open Go Go.Sx Go.Num Go.Gsp Go.Lsp
set_option maxRecDepth 20000
set_option linter.unusedSimpArgs false
set_option linter.unusedVariables false
theorem payTo_next {ls : SM} {legs : List Leg} {k : Nat} (h : k < legs.length) : payTo ls (legs.take (k + 1)) = payF (payTo ls (legs.take k)) (legs.getD k noLeg) := by
  unfold payTo
  rw [List.take_add_one, getS legs noLeg h, List.foldl_append]
  rfl
theorem payF_err {st : SM × Int} (h : st.2 ≠ 0) (g : Leg) : payF st g = st := by unfold payF; rw [if_pos h]
theorem foldl_err {st : SM × Int} (h : st.2 ≠ 0) : ∀ l : List Leg, l.foldl payF st = st
  | [] => rfl
  | g :: l => by rw [List.foldl_cons, payF_err h g, foldl_err h l]
theorem payTo_err {ls : SM} {legs : List Leg} {k : Nat} (h : (payTo ls (legs.take k)).2 ≠ 0) : payTo ls legs = payTo ls (legs.take k) := by
  have e : legs = legs.take k ++ legs.drop k := (List.take_append_drop k legs).symm
  have e2 : payTo ls legs = (legs.drop k).foldl payF (payTo ls (legs.take k)) := by
    unfold payTo
    rw [← List.foldl_append, List.take_append_drop]
  rw [e2, foldl_err h]
theorem setH_ne {s : Seat} {i j : Nat} {v : Int} (hi : i < 2) (hj : j < 2) (h : i ≠ j) : (s.setH i v).h j = s.h j := by
  have h1 : i = 0 ∨ i = 1 := by omega
  have h2 : j = 0 ∨ j = 1 := by omega
  rcases h1 with rfl | rfl <;> rcases h2 with rfl | rfl <;> first | rfl | (exact absurd rfl h)
def hGood (ls : SM) : Prop := ∀ x ∈ ls, 0 ≤ x.2.2.h0 ∧ 0 ≤ x.2.2.h1 ∧ x.2.2.h0 + x.2.2.h1 ≤ 2251799813685248
theorem hGood_h {ls : SM} (h : hGood ls) {x : Nat × Int × Seat} (hx : x ∈ ls) (i : Nat) : 0 ≤ x.2.2.h i ∧ x.2.2.h i ≤ 2251799813685248 := by
  have := h x hx
  unfold Seat.h
  split <;> omega
theorem legS_good {s : Seat} {g : Leg} (hs : 0 ≤ s.h0 ∧ 0 ≤ s.h1 ∧ s.h0 + s.h1 ≤ 2251799813685248) (hg : legOk g) (hf : ¬ s.h g.side.toNat < g.am) : 0 ≤ (legS s g).h0 ∧ 0 ≤ (legS s g).h1 ∧ (legS s g).h0 + (legS s g).h1 ≤ 2251799813685248 := by
  obtain ⟨⟨a1, a2⟩, a3, a4⟩ := hg
  have : g.side = 0 ∨ g.side = 1 := by omega
  rcases this with e | e
  · rw [e] at hf
    simp [Seat.h] at hf
    simp [legS, e, Seat.setH, Seat.h]
    omega
  · rw [e] at hf
    simp [Seat.h] at hf
    simp [legS, e, Seat.setH, Seat.h]
    omega
theorem updM_good {ls : SM} {key : Int} {t : Seat} (h : hGood ls) (ht : 0 ≤ t.h0 ∧ 0 ≤ t.h1 ∧ t.h0 + t.h1 ≤ 2251799813685248) : hGood (updM key t ls) := by
  intro x hx
  unfold updM at hx
  obtain ⟨y, hy, rfl⟩ := List.mem_map.1 hx
  split
  · exact ht
  · exact h y hy
theorem lpay_ok {gp gs gh c cs ck : Nat} {A : Option Addr} {own : List Int} {ls : SM} {lh : HM} {lost : Int} {Ag : Option Addr} {ng cg : Nat} {legs : List Leg} (w : World) (hL : LedL w gp gs gh A c cs ck own ls lh lost) (hg : Vec w legV 3 Ag ng legs) (hng : ng ≤ 1000) (hgd : hGood ls) (hga : ∀ q, blkOf Ag = some q → 0 < ng → q < w.heap.size → ¬ LF gp gs gh A c q) : Calls Tryz.prog 19 #[.pointer (some ⟨gp, 0, none⟩), .slice Ag ng cg] w fun r w' => ChP w w' (LF gp gs gh A c) ∧ (((payTo ls legs).2 ≠ 0 ∧ r = .returned (.int .i64 (payTo ls legs).2) ∧ LedL w' gp gs gh A c cs ck own ls lh lost) ∨ ((payTo ls legs).2 = 0 ∧ r = .returned (.int .i64 0) ∧ ∃ gs', w.heap.size ≤ gs' ∧ LedL w' gp gs' gh A c cs ck own (payTo ls legs).1 lh lost)) := by
 have hp0 := hL.hp
 have hO0 := hL.hO
 have hS0 := hL.hS
 have hH0 := hL.hH
 have n1 := hL.ps
 have n2 := hL.ph
 have n3 := hL.sh
 have n4 := hL.op
 have n5 := hL.os
 have n6 := hL.oh
 have hgn := hg.1
 refine enter Tryz.func19 rfl rfl ?_
 have L0 := ChP.refl w (LF gp gs gh A c)
 refine WC.seq (WC.region ?_)
 refine W.any (.assign rfl) rfl rfl rfl ?_
 refine W.nil (E.thenN (WC.seq (WC.region ?_)))
 refine W.any (.move rfl) rfl rfl rfl ?_
 refine W.any (.nilCheck rfl) rfl rfl rfl ?_
 refine W.any (.field0 fa66_1 rfl) rfl rfl rfl ?_
 refine W.rd (.loadB (v := .map (some gs)) na63 rfl hp0 rfl) rfl rfl rfl ?_
 refine W.ef rfl rfl rfl ?_
 refine Ef.call go51 rfl rfl (sclone_ok w hS0) ?_
 rintro _ w1_4 ⟨g1_4, rfl, hg1_4, b1_4, h1_4⟩
 refine ⟨_, rfl, ?_⟩
 have L1 := L0.le h1_4
 refine W.any (.assign rfl) rfl rfl rfl ?_
 refine W.nil (E.thenN (WC.seq (WC.seq (WC.region ?_))))
 refine W.any (.move rfl) rfl rfl rfl ?_
 refine W.rd (.len Tryz.underlying36 rfl) rfl rfl rfl ?_
 refine W.any (.move rfl) rfl rfl rfl ?_
 refine W.nil (E.thenN (WC.block ?_))
 have f2 := (hp0.le h1_4)
 have f3 := (hO0.le h1_4)
 have f4 := (hS0.le h1_4)
 have f5 := (hH0.le h1_4)
 refine WC.loop (ι := Nat × SM) (fun ⟨k, lc⟩ => [(0, .pointer (some ⟨gp, 0, none⟩)), (5, .map (some g1_4)), (15, .slice Ag ng cg), (16, .int .i64 (((ng : Nat) : Int))), (17, .int .i64 (((k : Nat) : Int)))]) (fun ⟨k, lc⟩ wl0 => (k ≤ ng) ∧ (payTo ls (legs.take k) = (lc, 0)) ∧ (hGood lc) ∧ ChP w wl0 (LF gp gs gh A c) ∧ w1_4.heap.size ≤ wl0.heap.size ∧ Blk wl0 gp 66 #[.slice A own.length c, .map (some gs), .map (some gh), .int .i64 (lost)] ∧ OVec wl0 0 3 iv 1 A own.length c own ∧ MapG wl0 ikf seatf gs ls cs ∧ MapG wl0 plf holdf gh lh ck ∧ MapG wl0 ikf seatf g1_4 lc cs) (fun ⟨k, lc⟩ => ng - k) (0, ls) ?_ ?_ ?_
 ·exact .cons rfl (.cons rfl (.cons rfl (.cons rfl (.cons rfl (.nil _)))))
 ·exact ⟨Nat.zero_le _, rfl, hgd, L1, Nat.le_refl _, f2, f3, f4, f5, b1_4⟩
 ·rintro ⟨k, lc⟩ wl0 ⟨hk, hpt, hgc, Ll0, zl0, f0_0, f0_1, f0_2, f0_3, f0_4⟩
  refine WC.seq (WC.region ?_)
  refine W.any (.lss rfl rfl) rfl rfl rfl ?_
  refine W.nil (E.thenN (WC.seq ?_))
  by_cases c0 : ((k : Nat) : Int) < ((ng : Nat) : Int)
  ·refine WC.condY rfl (decide_eq_true c0) ?_
   refine WC.skip (E.thenN (WC.seq (WC.block (WC.seq (WC.region ?_)))))
   refine W.any (.idxS (k) Tryz.underlying36 sz53 rfl rfl (hg.isSome legV_row (by omega)) (rfl) (by omega)) rfl rfl rfl ?_
   refine W.rd (.vload ag53 rfl (hg.chP Ll0 hga) legV_row (getS legs noLeg (by first | omega | (simp only [List.length_cons, List.length_nil]; omega)))) rfl rfl rfl ?_
   refine W.ef rfl rfl rfl ?_
   refine Ef.allocA z53 ?_
   intro g4_2 w4_2 hg4_2 b4_2 h4_2
   have L6 := Ll0.le h4_2
   have b4_2 : Blk w4_2 g4_2 53 (legV noLeg).toArray := b4_2
   refine W.ef0 rfl rfl ?_
   refine Ef.storeAll sz53 (by rfl) rfl rfl b4_2 (by simp only [List.size_toArray, legV_row.len]) (legV_row.one (legs.getD k noLeg)) ?_
   intro w4_3 b4_3 h4_3
   have b4_3 : Blk w4_3 g4_2 53 (legV (legs.getD k noLeg)).toArray := b4_3
   have L7 : ChP w w4_3 (LF gp gs gh A c) := L6.ch h4_3 (fun i hi hlt => by cases hi; exact absurd hlt (by have := Ll0.size; have := hg4_2; omega))
   refine W.nil (E.thenN (WC.seq (WC.region ?_)))
   refine W.any (.move rfl) rfl rfl rfl ?_
   refine W.any (.field0 fa53_0 rfl) rfl rfl rfl ?_
   refine W.rd (.loadB (v := .int .i64 ((legs.getD k noLeg).ch)) na3 rfl b4_3 rfl) rfl rfl rfl ?_
   rcases optG (getG ((legs.getD k noLeg).ch) lc) with hk5_3 | ⟨vhk5_3, hk5_3⟩
   ·have f8 := ((f0_4.le h4_2).ch h4_3 (fun h => (show g4_2 ≠ g1_4 from by have := f0_4.lt; omega) (Option.some.inj h)))
    refine W.rd (.as (.lookup2 (key := ((legs.getD k noLeg).ch)) Tryz.underlying63 kint z44 rfl rfl f8) (by rw [hk5_3] <;> rfl)) rfl rfl rfl ?_
    refine W.any (.move rfl) rfl rfl rfl ?_
    refine W.any (.extract (v := .agg (seatV noSeat).toArray) rfl rfl) rfl rfl rfl ?_
    refine W.any (.extract (v := .bool false) rfl rfl) rfl rfl rfl ?_
    refine W.ef rfl rfl rfl ?_
    refine Ef.allocA z44 ?_
    intro g5_7 w5_7 hg5_7 b5_7 h5_7
    have L9 := L7.le h5_7
    have b5_7 : Blk w5_7 g5_7 44 (seatV noSeat).toArray := b5_7
    refine W.ef0 rfl rfl ?_
    refine Ef.storeAll sz44 (by rfl) rfl rfl b5_7 (by simp only [List.size_toArray, seatV_row.len]) (seatV_row.one noSeat) ?_
    intro w5_8 b5_8 h5_8
    have b5_8 : Blk w5_8 g5_7 44 (seatV noSeat).toArray := b5_8
    have L10 : ChP w w5_8 (LF gp gs gh A c) := L9.ch h5_8 (fun i hi hlt => by cases hi; exact absurd hlt (by have := L7.size; have := hg5_7; omega))
    refine W.any (.assign rfl) rfl rfl rfl ?_
    refine W.nil (E.thenN (WC.seq (WC.block (WC.seq (WC.region ?_)))))
    refine W.any (.field0 fa53_1 rfl) rfl rfl rfl ?_
    have f11 := ((b4_3.le h5_7).ch h5_8 (fun h => (show g5_7 ≠ g4_2 from by have := b4_3.lt; omega) (Option.some.inj h)))
    refine W.rd (.loadB (v := .int .i64 ((legs.getD k noLeg).side)) na3 rfl f11 rfl) rfl rfl rfl ?_
    refine W.any (.lss rfl rfl) rfl rfl rfl ?_
    by_cases q6_3 : ((legs.getD k noLeg).side) < 0
    ·refine W.any (.dec (.move rfl) (decide_eq_true q6_3)) rfl rfl rfl ?_
     refine W.skip rfl rfl rfl (rfl) rfl rfl ?_
     refine W.skip rfl rfl rfl (rfl) rfl rfl ?_
     refine W.skip rfl rfl rfl (rfl) rfl rfl ?_
     refine W.any (.pickT rfl rfl rfl) rfl rfl rfl ?_
     refine W.any (.move rfl) rfl rfl rfl ?_
     refine W.skip rfl rfl rfl (rfl) rfl rfl ?_
     refine W.skip rfl rfl rfl (rfl) rfl rfl ?_
     refine W.skip rfl rfl rfl (rfl) rfl rfl ?_
     refine W.any (.pickT rfl rfl rfl) rfl rfl rfl ?_
     refine W.any (.move rfl) rfl rfl rfl ?_
     refine W.skip rfl rfl rfl (rfl) rfl rfl ?_
     refine W.skip rfl rfl rfl (rfl) rfl rfl ?_
     refine W.skip rfl rfl rfl (rfl) rfl rfl ?_
     refine W.skip rfl rfl rfl (rfl) rfl rfl ?_
     refine W.any (.pickT rfl rfl rfl) rfl rfl rfl ?_
     refine W.any (.assign rfl) rfl rfl rfl ?_
     refine W.nil (E.thenN ?_)
     refine WC.condT rfl ?_
     refine WC.seq (WC.region ?_)
     refine W.any (.assign rfl) rfl rfl rfl ?_
     refine W.nil (E.thenN (WC.ret (E.blkR (E.thenR (E.blkR (E.thenR (E.thenR (E.blkR (E.thenR ?_)))))))))
     have f12 := ((((f0_0.le h4_2).ch h4_3 (fun h => (show g4_2 ≠ gp from by have := f0_0.lt; omega) (Option.some.inj h))).le h5_7).ch h5_8 (fun h => (show g5_7 ≠ gp from by have := f0_0.lt; have := h4_2.size; have := h4_3.size; omega) (Option.some.inj h)))
     have f13 := ((((f0_1.le h4_2).ch h4_3 (fun q hq => by cases hq; exact (fun he => by have := (f0_1.row he).2; omega))).le h5_7).ch h5_8 (fun q hq => by cases hq; exact (fun he => by have := (f0_1.row he).2; have := h4_2.size; have := h4_3.size; omega)))
     have f14 := ((((f0_2.le h4_2).ch h4_3 (fun h => (show g4_2 ≠ gs from by have := f0_2.lt; omega) (Option.some.inj h))).le h5_7).ch h5_8 (fun h => (show g5_7 ≠ gs from by have := f0_2.lt; have := h4_2.size; have := h4_3.size; omega) (Option.some.inj h)))
     have f15 := ((((f0_3.le h4_2).ch h4_3 (fun h => (show g4_2 ≠ gh from by have := f0_3.lt; omega) (Option.some.inj h))).le h5_7).ch h5_8 (fun h => (show g5_7 ≠ gh from by have := f0_3.lt; have := h4_2.size; have := h4_3.size; omega) (Option.some.inj h)))
     refine E.retG1 rfl rfl ?_
     have e9 : payTo ls (legs.take (k + 1)) = (lc, 1) := (by rw [payTo_next (by omega), hpt]; unfold payF; rw [if_neg (by simp)]; rw [if_pos (fun hh : legOk (legs.getD k noLeg) => by obtain ⟨⟨a1, a2⟩, a3, a4⟩ := hh; first | omega | (exact absurd (coin_iff.2 ⟨by omega, a4⟩) (by assumption)))]); have e8 : payTo ls legs = (lc, 1) := (by rw [payTo_err (k := k + 1) (by rw [e9]; simp), e9]); exact ⟨L10, .inl ⟨by rw [e8]; simp, by rw [e8], ⟨f12, f13, f14, f15, n1, n2, n3, n4, n5, n6⟩⟩⟩
    ·refine W.any (.dec (.move rfl) (decide_eq_false q6_3)) rfl rfl rfl ?_
     refine W.rdg (Any.rd (.field0 fa53_1 rfl) _) rfl rfl rfl (rfl) rfl rfl ?_
     refine W.rdg (.loadB (v := .int .i64 ((legs.getD k noLeg).side)) na3 rfl f11 rfl) rfl rfl rfl (rfl) rfl rfl ?_
     refine W.rdg (Any.rd (.gtr rfl rfl) _) rfl rfl rfl (rfl) rfl rfl ?_
     refine W.any (.pickF rfl rfl rfl) rfl rfl rfl ?_
     by_cases q6_8 : 1 < ((legs.getD k noLeg).side)
     ·refine W.any (.dec (.move rfl) (decide_eq_true q6_8)) rfl rfl rfl ?_
      refine W.skip rfl rfl rfl (rfl) rfl rfl ?_
      refine W.skip rfl rfl rfl (rfl) rfl rfl ?_
      refine W.skip rfl rfl rfl (rfl) rfl rfl ?_
      refine W.any (.pickT rfl rfl rfl) rfl rfl rfl ?_
      refine W.any (.move rfl) rfl rfl rfl ?_
      refine W.skip rfl rfl rfl (rfl) rfl rfl ?_
      refine W.skip rfl rfl rfl (rfl) rfl rfl ?_
      refine W.skip rfl rfl rfl (rfl) rfl rfl ?_
      refine W.skip rfl rfl rfl (rfl) rfl rfl ?_
      refine W.any (.pickT rfl rfl rfl) rfl rfl rfl ?_
      refine W.any (.assign rfl) rfl rfl rfl ?_
      refine W.nil (E.thenN ?_)
      refine WC.condT rfl ?_
      refine WC.seq (WC.region ?_)
      refine W.any (.assign rfl) rfl rfl rfl ?_
      refine W.nil (E.thenN (WC.ret (E.blkR (E.thenR (E.blkR (E.thenR (E.thenR (E.blkR (E.thenR ?_)))))))))
      have f16 := ((((f0_0.le h4_2).ch h4_3 (fun h => (show g4_2 ≠ gp from by have := f0_0.lt; omega) (Option.some.inj h))).le h5_7).ch h5_8 (fun h => (show g5_7 ≠ gp from by have := f0_0.lt; have := h4_2.size; have := h4_3.size; omega) (Option.some.inj h)))
      have f17 := ((((f0_1.le h4_2).ch h4_3 (fun q hq => by cases hq; exact (fun he => by have := (f0_1.row he).2; omega))).le h5_7).ch h5_8 (fun q hq => by cases hq; exact (fun he => by have := (f0_1.row he).2; have := h4_2.size; have := h4_3.size; omega)))
      have f18 := ((((f0_2.le h4_2).ch h4_3 (fun h => (show g4_2 ≠ gs from by have := f0_2.lt; omega) (Option.some.inj h))).le h5_7).ch h5_8 (fun h => (show g5_7 ≠ gs from by have := f0_2.lt; have := h4_2.size; have := h4_3.size; omega) (Option.some.inj h)))
      have f19 := ((((f0_3.le h4_2).ch h4_3 (fun h => (show g4_2 ≠ gh from by have := f0_3.lt; omega) (Option.some.inj h))).le h5_7).ch h5_8 (fun h => (show g5_7 ≠ gh from by have := f0_3.lt; have := h4_2.size; have := h4_3.size; omega) (Option.some.inj h)))
      refine E.retG1 rfl rfl ?_
      have e9 : payTo ls (legs.take (k + 1)) = (lc, 1) := (by rw [payTo_next (by omega), hpt]; unfold payF; rw [if_neg (by simp)]; rw [if_pos (fun hh : legOk (legs.getD k noLeg) => by obtain ⟨⟨a1, a2⟩, a3, a4⟩ := hh; first | omega | (exact absurd (coin_iff.2 ⟨by omega, a4⟩) (by assumption)))]); have e8 : payTo ls legs = (lc, 1) := (by rw [payTo_err (k := k + 1) (by rw [e9]; simp), e9]); exact ⟨L10, .inl ⟨by rw [e8]; simp, by rw [e8], ⟨f16, f17, f18, f19, n1, n2, n3, n4, n5, n6⟩⟩⟩
     ·refine W.any (.dec (.move rfl) (decide_eq_false q6_8)) rfl rfl rfl ?_
      refine W.rdg (Any.rd (.field0 fa53_2 rfl) _) rfl rfl rfl (rfl) rfl rfl ?_
      refine W.rdg (.loadB (v := .int .i64 ((legs.getD k noLeg).am)) na3 rfl f11 rfl) rfl rfl rfl (rfl) rfl rfl ?_
      refine W.rdg (Any.rd (.lss rfl rfl) _) rfl rfl rfl (rfl) rfl rfl ?_
      refine W.any (.pickF rfl rfl rfl) rfl rfl rfl ?_
      by_cases q6_13 : ((legs.getD k noLeg).am) < 1
      ·refine W.any (.dec (.move rfl) (decide_eq_true q6_13)) rfl rfl rfl ?_
       refine W.skip rfl rfl rfl (rfl) rfl rfl ?_
       refine W.skip rfl rfl rfl (rfl) rfl rfl ?_
       refine W.skip rfl rfl rfl (rfl) rfl rfl ?_
       refine W.skip rfl rfl rfl (rfl) rfl rfl ?_
       refine W.any (.pickT rfl rfl rfl) rfl rfl rfl ?_
       refine W.any (.assign rfl) rfl rfl rfl ?_
       refine W.nil (E.thenN ?_)
       refine WC.condT rfl ?_
       refine WC.seq (WC.region ?_)
       refine W.any (.assign rfl) rfl rfl rfl ?_
       refine W.nil (E.thenN (WC.ret (E.blkR (E.thenR (E.blkR (E.thenR (E.thenR (E.blkR (E.thenR ?_)))))))))
       have f20 := ((((f0_0.le h4_2).ch h4_3 (fun h => (show g4_2 ≠ gp from by have := f0_0.lt; omega) (Option.some.inj h))).le h5_7).ch h5_8 (fun h => (show g5_7 ≠ gp from by have := f0_0.lt; have := h4_2.size; have := h4_3.size; omega) (Option.some.inj h)))
       have f21 := ((((f0_1.le h4_2).ch h4_3 (fun q hq => by cases hq; exact (fun he => by have := (f0_1.row he).2; omega))).le h5_7).ch h5_8 (fun q hq => by cases hq; exact (fun he => by have := (f0_1.row he).2; have := h4_2.size; have := h4_3.size; omega)))
       have f22 := ((((f0_2.le h4_2).ch h4_3 (fun h => (show g4_2 ≠ gs from by have := f0_2.lt; omega) (Option.some.inj h))).le h5_7).ch h5_8 (fun h => (show g5_7 ≠ gs from by have := f0_2.lt; have := h4_2.size; have := h4_3.size; omega) (Option.some.inj h)))
       have f23 := ((((f0_3.le h4_2).ch h4_3 (fun h => (show g4_2 ≠ gh from by have := f0_3.lt; omega) (Option.some.inj h))).le h5_7).ch h5_8 (fun h => (show g5_7 ≠ gh from by have := f0_3.lt; have := h4_2.size; have := h4_3.size; omega) (Option.some.inj h)))
       refine E.retG1 rfl rfl ?_
       have e9 : payTo ls (legs.take (k + 1)) = (lc, 1) := (by rw [payTo_next (by omega), hpt]; unfold payF; rw [if_neg (by simp)]; rw [if_pos (fun hh : legOk (legs.getD k noLeg) => by obtain ⟨⟨a1, a2⟩, a3, a4⟩ := hh; first | omega | (exact absurd (coin_iff.2 ⟨by omega, a4⟩) (by assumption)))]); have e8 : payTo ls legs = (lc, 1) := (by rw [payTo_err (k := k + 1) (by rw [e9]; simp), e9]); exact ⟨L10, .inl ⟨by rw [e8]; simp, by rw [e8], ⟨f20, f21, f22, f23, n1, n2, n3, n4, n5, n6⟩⟩⟩
      ·refine W.any (.dec (.move rfl) (decide_eq_false q6_13)) rfl rfl rfl ?_
       refine W.rdg (Any.rd (.field0 fa53_2 rfl) _) rfl rfl rfl (rfl) rfl rfl ?_
       refine W.rdg (.loadB (v := .int .i64 ((legs.getD k noLeg).am)) na3 rfl f11 rfl) rfl rfl rfl (rfl) rfl rfl ?_
       refine W.efg rfl rfl rfl (rfl) rfl rfl ?_
       refine Ef.call go45 rfl rfl (coin_ok ((legs.getD k noLeg).am) w5_8) ?_
       rintro _ w6_16 ⟨rfl, h6_16⟩
       refine ⟨_, rfl, ?_⟩
       have L24 := L10.le h6_16
       refine W.rdg (Any.rd (.not rfl) _) rfl rfl rfl (rfl) rfl rfl ?_
       refine W.any (.pickF rfl rfl rfl) rfl rfl rfl ?_
       refine W.any (.assign rfl) rfl rfl rfl ?_
       refine W.nil (E.thenN ?_)
       by_cases c1 : (coinL ((legs.getD k noLeg).am)) = true
       ·refine WC.condN rfl (congrArg not (c1)) ?_
        have hlo : legOk (legs.getD k noLeg) := ⟨⟨by omega, by omega⟩, by omega, (coin_iff.1 (by assumption)).2⟩
        have hlo2 := hlo
        obtain ⟨⟨o1, o2⟩, o3, o4⟩ := hlo2
        refine WC.seq (WC.region ?_)
        refine W.any (.move rfl) rfl rfl rfl ?_
        refine W.any (.not rfl) rfl rfl rfl ?_
        refine W.any (.assign rfl) rfl rfl rfl ?_
        refine W.nil (E.thenN ?_)
        refine WC.condT rfl ?_
        refine WC.seq (WC.region ?_)
        refine W.any (.assign rfl) rfl rfl rfl ?_
        refine W.nil (E.thenN (WC.ret (E.blkR (E.thenR (E.blkR (E.thenR (E.thenR (E.blkR (E.thenR ?_)))))))))
        have f25 := (((((f0_0.le h4_2).ch h4_3 (fun h => (show g4_2 ≠ gp from by have := f0_0.lt; omega) (Option.some.inj h))).le h5_7).ch h5_8 (fun h => (show g5_7 ≠ gp from by have := f0_0.lt; have := h4_2.size; have := h4_3.size; omega) (Option.some.inj h))).le h6_16)
        have f26 := (((((f0_1.le h4_2).ch h4_3 (fun q hq => by cases hq; exact (fun he => by have := (f0_1.row he).2; omega))).le h5_7).ch h5_8 (fun q hq => by cases hq; exact (fun he => by have := (f0_1.row he).2; have := h4_2.size; have := h4_3.size; omega))).le h6_16)
        have f27 := (((((f0_2.le h4_2).ch h4_3 (fun h => (show g4_2 ≠ gs from by have := f0_2.lt; omega) (Option.some.inj h))).le h5_7).ch h5_8 (fun h => (show g5_7 ≠ gs from by have := f0_2.lt; have := h4_2.size; have := h4_3.size; omega) (Option.some.inj h))).le h6_16)
        have f28 := (((((f0_3.le h4_2).ch h4_3 (fun h => (show g4_2 ≠ gh from by have := f0_3.lt; omega) (Option.some.inj h))).le h5_7).ch h5_8 (fun h => (show g5_7 ≠ gh from by have := f0_3.lt; have := h4_2.size; have := h4_3.size; omega) (Option.some.inj h))).le h6_16)
        refine E.retG1 rfl rfl ?_
        have e9 : payTo ls (legs.take (k + 1)) = (lc, 5) := (by rw [payTo_next (by omega), hpt]; unfold payF; rw [if_neg (by simp)]; rw [if_neg (not_not_intro hlo), hk5_3]); have e8 : payTo ls legs = (lc, 5) := (by rw [payTo_err (k := k + 1) (by rw [e9]; simp), e9]); exact ⟨L24, .inl ⟨by rw [e8]; simp, by rw [e8], ⟨f25, f26, f27, f28, n1, n2, n3, n4, n5, n6⟩⟩⟩
       ·refine WC.condY rfl (congrArg not ((Bool.eq_false_iff.2 c1))) ?_
        refine WC.seq (WC.region ?_)
        refine W.any (.assign rfl) rfl rfl rfl ?_
        refine W.nil (E.thenN (WC.ret (E.blkR (E.thenR (E.blkR (E.thenR (E.thenR (E.blkR (E.thenR ?_)))))))))
        have f29 := (((((f0_0.le h4_2).ch h4_3 (fun h => (show g4_2 ≠ gp from by have := f0_0.lt; omega) (Option.some.inj h))).le h5_7).ch h5_8 (fun h => (show g5_7 ≠ gp from by have := f0_0.lt; have := h4_2.size; have := h4_3.size; omega) (Option.some.inj h))).le h6_16)
        have f30 := (((((f0_1.le h4_2).ch h4_3 (fun q hq => by cases hq; exact (fun he => by have := (f0_1.row he).2; omega))).le h5_7).ch h5_8 (fun q hq => by cases hq; exact (fun he => by have := (f0_1.row he).2; have := h4_2.size; have := h4_3.size; omega))).le h6_16)
        have f31 := (((((f0_2.le h4_2).ch h4_3 (fun h => (show g4_2 ≠ gs from by have := f0_2.lt; omega) (Option.some.inj h))).le h5_7).ch h5_8 (fun h => (show g5_7 ≠ gs from by have := f0_2.lt; have := h4_2.size; have := h4_3.size; omega) (Option.some.inj h))).le h6_16)
        have f32 := (((((f0_3.le h4_2).ch h4_3 (fun h => (show g4_2 ≠ gh from by have := f0_3.lt; omega) (Option.some.inj h))).le h5_7).ch h5_8 (fun h => (show g5_7 ≠ gh from by have := f0_3.lt; have := h4_2.size; have := h4_3.size; omega) (Option.some.inj h))).le h6_16)
        refine E.retG1 rfl rfl ?_
        have e9 : payTo ls (legs.take (k + 1)) = (lc, 1) := (by rw [payTo_next (by omega), hpt]; unfold payF; rw [if_neg (by simp)]; rw [if_pos (fun hh : legOk (legs.getD k noLeg) => by obtain ⟨⟨a1, a2⟩, a3, a4⟩ := hh; first | omega | (exact absurd (coin_iff.2 ⟨by omega, a4⟩) (by assumption)))]); have e8 : payTo ls legs = (lc, 1) := (by rw [payTo_err (k := k + 1) (by rw [e9]; simp), e9]); exact ⟨L24, .inl ⟨by rw [e8]; simp, by rw [e8], ⟨f29, f30, f31, f32, n1, n2, n3, n4, n5, n6⟩⟩⟩
   ·obtain ⟨bh, hbh⟩ := getG_mem hk5_3
    have hsg : 0 ≤ vhk5_3.h0 ∧ 0 ≤ vhk5_3.h1 ∧ vhk5_3.h0 + vhk5_3.h1 ≤ 2251799813685248 := hgc _ hbh
    have hsh : ∀ i, 0 ≤ vhk5_3.h i ∧ vhk5_3.h i ≤ 2251799813685248 := fun i => hGood_h hgc hbh i
    have f33 := ((f0_4.le h4_2).ch h4_3 (fun h => (show g4_2 ≠ g1_4 from by have := f0_4.lt; omega) (Option.some.inj h)))
    refine W.rd (.as (.lookup2 (key := ((legs.getD k noLeg).ch)) Tryz.underlying63 kint z44 rfl rfl f33) (by rw [hk5_3] <;> rfl)) rfl rfl rfl ?_
    refine W.any (.move rfl) rfl rfl rfl ?_
    refine W.any (.extract (v := .agg (seatV vhk5_3).toArray) rfl rfl) rfl rfl rfl ?_
    refine W.any (.extract (v := .bool true) rfl rfl) rfl rfl rfl ?_
    refine W.ef rfl rfl rfl ?_
    refine Ef.allocA z44 ?_
    intro g5_7_1 w5_7_1 hg5_7_1 b5_7_1 h5_7_1
    have L34 := L7.le h5_7_1
    have b5_7_1 : Blk w5_7_1 g5_7_1 44 (seatV noSeat).toArray := b5_7_1
    refine W.ef0 rfl rfl ?_
    refine Ef.storeAll sz44 (by rfl) rfl rfl b5_7_1 (by simp only [List.size_toArray, seatV_row.len]) (seatV_row.one vhk5_3) ?_
    intro w5_8_1 b5_8_1 h5_8_1
    have b5_8_1 : Blk w5_8_1 g5_7_1 44 (seatV vhk5_3).toArray := b5_8_1
    have L35 : ChP w w5_8_1 (LF gp gs gh A c) := L34.ch h5_8_1 (fun i hi hlt => by cases hi; exact absurd hlt (by have := L7.size; have := hg5_7_1; omega))
    refine W.any (.assign rfl) rfl rfl rfl ?_
    refine W.nil (E.thenN (WC.seq (WC.block (WC.seq (WC.region ?_)))))
    refine W.any (.field0 fa53_1 rfl) rfl rfl rfl ?_
    have f36 := ((b4_3.le h5_7_1).ch h5_8_1 (fun h => (show g5_7_1 ≠ g4_2 from by have := b4_3.lt; omega) (Option.some.inj h)))
    refine W.rd (.loadB (v := .int .i64 ((legs.getD k noLeg).side)) na3 rfl f36 rfl) rfl rfl rfl ?_
    refine W.any (.lss rfl rfl) rfl rfl rfl ?_
    by_cases q6_3 : ((legs.getD k noLeg).side) < 0
    ·refine W.any (.dec (.move rfl) (decide_eq_true q6_3)) rfl rfl rfl ?_
     refine W.skip rfl rfl rfl (rfl) rfl rfl ?_
     refine W.skip rfl rfl rfl (rfl) rfl rfl ?_
     refine W.skip rfl rfl rfl (rfl) rfl rfl ?_
     refine W.any (.pickT rfl rfl rfl) rfl rfl rfl ?_
     refine W.any (.move rfl) rfl rfl rfl ?_
     refine W.skip rfl rfl rfl (rfl) rfl rfl ?_
     refine W.skip rfl rfl rfl (rfl) rfl rfl ?_
     refine W.skip rfl rfl rfl (rfl) rfl rfl ?_
     refine W.any (.pickT rfl rfl rfl) rfl rfl rfl ?_
     refine W.any (.move rfl) rfl rfl rfl ?_
     refine W.skip rfl rfl rfl (rfl) rfl rfl ?_
     refine W.skip rfl rfl rfl (rfl) rfl rfl ?_
     refine W.skip rfl rfl rfl (rfl) rfl rfl ?_
     refine W.skip rfl rfl rfl (rfl) rfl rfl ?_
     refine W.any (.pickT rfl rfl rfl) rfl rfl rfl ?_
     refine W.any (.assign rfl) rfl rfl rfl ?_
     refine W.nil (E.thenN ?_)
     refine WC.condT rfl ?_
     refine WC.seq (WC.region ?_)
     refine W.any (.assign rfl) rfl rfl rfl ?_
     refine W.nil (E.thenN (WC.ret (E.blkR (E.thenR (E.blkR (E.thenR (E.thenR (E.blkR (E.thenR ?_)))))))))
     have f37 := ((((f0_0.le h4_2).ch h4_3 (fun h => (show g4_2 ≠ gp from by have := f0_0.lt; omega) (Option.some.inj h))).le h5_7_1).ch h5_8_1 (fun h => (show g5_7_1 ≠ gp from by have := f0_0.lt; have := h4_2.size; have := h4_3.size; omega) (Option.some.inj h)))
     have f38 := ((((f0_1.le h4_2).ch h4_3 (fun q hq => by cases hq; exact (fun he => by have := (f0_1.row he).2; omega))).le h5_7_1).ch h5_8_1 (fun q hq => by cases hq; exact (fun he => by have := (f0_1.row he).2; have := h4_2.size; have := h4_3.size; omega)))
     have f39 := ((((f0_2.le h4_2).ch h4_3 (fun h => (show g4_2 ≠ gs from by have := f0_2.lt; omega) (Option.some.inj h))).le h5_7_1).ch h5_8_1 (fun h => (show g5_7_1 ≠ gs from by have := f0_2.lt; have := h4_2.size; have := h4_3.size; omega) (Option.some.inj h)))
     have f40 := ((((f0_3.le h4_2).ch h4_3 (fun h => (show g4_2 ≠ gh from by have := f0_3.lt; omega) (Option.some.inj h))).le h5_7_1).ch h5_8_1 (fun h => (show g5_7_1 ≠ gh from by have := f0_3.lt; have := h4_2.size; have := h4_3.size; omega) (Option.some.inj h)))
     refine E.retG1 rfl rfl ?_
     have e9 : payTo ls (legs.take (k + 1)) = (lc, 1) := (by rw [payTo_next (by omega), hpt]; unfold payF; rw [if_neg (by simp)]; rw [if_pos (fun hh : legOk (legs.getD k noLeg) => by obtain ⟨⟨a1, a2⟩, a3, a4⟩ := hh; first | omega | (exact absurd (coin_iff.2 ⟨by omega, a4⟩) (by assumption)))]); have e8 : payTo ls legs = (lc, 1) := (by rw [payTo_err (k := k + 1) (by rw [e9]; simp), e9]); exact ⟨L35, .inl ⟨by rw [e8]; simp, by rw [e8], ⟨f37, f38, f39, f40, n1, n2, n3, n4, n5, n6⟩⟩⟩
    ·refine W.any (.dec (.move rfl) (decide_eq_false q6_3)) rfl rfl rfl ?_
     refine W.rdg (Any.rd (.field0 fa53_1 rfl) _) rfl rfl rfl (rfl) rfl rfl ?_
     refine W.rdg (.loadB (v := .int .i64 ((legs.getD k noLeg).side)) na3 rfl f36 rfl) rfl rfl rfl (rfl) rfl rfl ?_
     refine W.rdg (Any.rd (.gtr rfl rfl) _) rfl rfl rfl (rfl) rfl rfl ?_
     refine W.any (.pickF rfl rfl rfl) rfl rfl rfl ?_
     by_cases q6_8 : 1 < ((legs.getD k noLeg).side)
     ·refine W.any (.dec (.move rfl) (decide_eq_true q6_8)) rfl rfl rfl ?_
      refine W.skip rfl rfl rfl (rfl) rfl rfl ?_
      refine W.skip rfl rfl rfl (rfl) rfl rfl ?_
      refine W.skip rfl rfl rfl (rfl) rfl rfl ?_
      refine W.any (.pickT rfl rfl rfl) rfl rfl rfl ?_
      refine W.any (.move rfl) rfl rfl rfl ?_
      refine W.skip rfl rfl rfl (rfl) rfl rfl ?_
      refine W.skip rfl rfl rfl (rfl) rfl rfl ?_
      refine W.skip rfl rfl rfl (rfl) rfl rfl ?_
      refine W.skip rfl rfl rfl (rfl) rfl rfl ?_
      refine W.any (.pickT rfl rfl rfl) rfl rfl rfl ?_
      refine W.any (.assign rfl) rfl rfl rfl ?_
      refine W.nil (E.thenN ?_)
      refine WC.condT rfl ?_
      refine WC.seq (WC.region ?_)
      refine W.any (.assign rfl) rfl rfl rfl ?_
      refine W.nil (E.thenN (WC.ret (E.blkR (E.thenR (E.blkR (E.thenR (E.thenR (E.blkR (E.thenR ?_)))))))))
      have f41 := ((((f0_0.le h4_2).ch h4_3 (fun h => (show g4_2 ≠ gp from by have := f0_0.lt; omega) (Option.some.inj h))).le h5_7_1).ch h5_8_1 (fun h => (show g5_7_1 ≠ gp from by have := f0_0.lt; have := h4_2.size; have := h4_3.size; omega) (Option.some.inj h)))
      have f42 := ((((f0_1.le h4_2).ch h4_3 (fun q hq => by cases hq; exact (fun he => by have := (f0_1.row he).2; omega))).le h5_7_1).ch h5_8_1 (fun q hq => by cases hq; exact (fun he => by have := (f0_1.row he).2; have := h4_2.size; have := h4_3.size; omega)))
      have f43 := ((((f0_2.le h4_2).ch h4_3 (fun h => (show g4_2 ≠ gs from by have := f0_2.lt; omega) (Option.some.inj h))).le h5_7_1).ch h5_8_1 (fun h => (show g5_7_1 ≠ gs from by have := f0_2.lt; have := h4_2.size; have := h4_3.size; omega) (Option.some.inj h)))
      have f44 := ((((f0_3.le h4_2).ch h4_3 (fun h => (show g4_2 ≠ gh from by have := f0_3.lt; omega) (Option.some.inj h))).le h5_7_1).ch h5_8_1 (fun h => (show g5_7_1 ≠ gh from by have := f0_3.lt; have := h4_2.size; have := h4_3.size; omega) (Option.some.inj h)))
      refine E.retG1 rfl rfl ?_
      have e9 : payTo ls (legs.take (k + 1)) = (lc, 1) := (by rw [payTo_next (by omega), hpt]; unfold payF; rw [if_neg (by simp)]; rw [if_pos (fun hh : legOk (legs.getD k noLeg) => by obtain ⟨⟨a1, a2⟩, a3, a4⟩ := hh; first | omega | (exact absurd (coin_iff.2 ⟨by omega, a4⟩) (by assumption)))]); have e8 : payTo ls legs = (lc, 1) := (by rw [payTo_err (k := k + 1) (by rw [e9]; simp), e9]); exact ⟨L35, .inl ⟨by rw [e8]; simp, by rw [e8], ⟨f41, f42, f43, f44, n1, n2, n3, n4, n5, n6⟩⟩⟩
     ·refine W.any (.dec (.move rfl) (decide_eq_false q6_8)) rfl rfl rfl ?_
      refine W.rdg (Any.rd (.field0 fa53_2 rfl) _) rfl rfl rfl (rfl) rfl rfl ?_
      refine W.rdg (.loadB (v := .int .i64 ((legs.getD k noLeg).am)) na3 rfl f36 rfl) rfl rfl rfl (rfl) rfl rfl ?_
      refine W.rdg (Any.rd (.lss rfl rfl) _) rfl rfl rfl (rfl) rfl rfl ?_
      refine W.any (.pickF rfl rfl rfl) rfl rfl rfl ?_
      by_cases q6_13 : ((legs.getD k noLeg).am) < 1
      ·refine W.any (.dec (.move rfl) (decide_eq_true q6_13)) rfl rfl rfl ?_
       refine W.skip rfl rfl rfl (rfl) rfl rfl ?_
       refine W.skip rfl rfl rfl (rfl) rfl rfl ?_
       refine W.skip rfl rfl rfl (rfl) rfl rfl ?_
       refine W.skip rfl rfl rfl (rfl) rfl rfl ?_
       refine W.any (.pickT rfl rfl rfl) rfl rfl rfl ?_
       refine W.any (.assign rfl) rfl rfl rfl ?_
       refine W.nil (E.thenN ?_)
       refine WC.condT rfl ?_
       refine WC.seq (WC.region ?_)
       refine W.any (.assign rfl) rfl rfl rfl ?_
       refine W.nil (E.thenN (WC.ret (E.blkR (E.thenR (E.blkR (E.thenR (E.thenR (E.blkR (E.thenR ?_)))))))))
       have f45 := ((((f0_0.le h4_2).ch h4_3 (fun h => (show g4_2 ≠ gp from by have := f0_0.lt; omega) (Option.some.inj h))).le h5_7_1).ch h5_8_1 (fun h => (show g5_7_1 ≠ gp from by have := f0_0.lt; have := h4_2.size; have := h4_3.size; omega) (Option.some.inj h)))
       have f46 := ((((f0_1.le h4_2).ch h4_3 (fun q hq => by cases hq; exact (fun he => by have := (f0_1.row he).2; omega))).le h5_7_1).ch h5_8_1 (fun q hq => by cases hq; exact (fun he => by have := (f0_1.row he).2; have := h4_2.size; have := h4_3.size; omega)))
       have f47 := ((((f0_2.le h4_2).ch h4_3 (fun h => (show g4_2 ≠ gs from by have := f0_2.lt; omega) (Option.some.inj h))).le h5_7_1).ch h5_8_1 (fun h => (show g5_7_1 ≠ gs from by have := f0_2.lt; have := h4_2.size; have := h4_3.size; omega) (Option.some.inj h)))
       have f48 := ((((f0_3.le h4_2).ch h4_3 (fun h => (show g4_2 ≠ gh from by have := f0_3.lt; omega) (Option.some.inj h))).le h5_7_1).ch h5_8_1 (fun h => (show g5_7_1 ≠ gh from by have := f0_3.lt; have := h4_2.size; have := h4_3.size; omega) (Option.some.inj h)))
       refine E.retG1 rfl rfl ?_
       have e9 : payTo ls (legs.take (k + 1)) = (lc, 1) := (by rw [payTo_next (by omega), hpt]; unfold payF; rw [if_neg (by simp)]; rw [if_pos (fun hh : legOk (legs.getD k noLeg) => by obtain ⟨⟨a1, a2⟩, a3, a4⟩ := hh; first | omega | (exact absurd (coin_iff.2 ⟨by omega, a4⟩) (by assumption)))]); have e8 : payTo ls legs = (lc, 1) := (by rw [payTo_err (k := k + 1) (by rw [e9]; simp), e9]); exact ⟨L35, .inl ⟨by rw [e8]; simp, by rw [e8], ⟨f45, f46, f47, f48, n1, n2, n3, n4, n5, n6⟩⟩⟩
      ·refine W.any (.dec (.move rfl) (decide_eq_false q6_13)) rfl rfl rfl ?_
       refine W.rdg (Any.rd (.field0 fa53_2 rfl) _) rfl rfl rfl (rfl) rfl rfl ?_
       refine W.rdg (.loadB (v := .int .i64 ((legs.getD k noLeg).am)) na3 rfl f36 rfl) rfl rfl rfl (rfl) rfl rfl ?_
       refine W.efg rfl rfl rfl (rfl) rfl rfl ?_
       refine Ef.call go45 rfl rfl (coin_ok ((legs.getD k noLeg).am) w5_8_1) ?_
       rintro _ w6_16_1 ⟨rfl, h6_16_1⟩
       refine ⟨_, rfl, ?_⟩
       have L49 := L35.le h6_16_1
       refine W.rdg (Any.rd (.not rfl) _) rfl rfl rfl (rfl) rfl rfl ?_
       refine W.any (.pickF rfl rfl rfl) rfl rfl rfl ?_
       refine W.any (.assign rfl) rfl rfl rfl ?_
       refine W.nil (E.thenN ?_)
       by_cases c1 : (coinL ((legs.getD k noLeg).am)) = true
       ·refine WC.condN rfl (congrArg not (c1)) ?_
        have hlo : legOk (legs.getD k noLeg) := ⟨⟨by omega, by omega⟩, by omega, (coin_iff.1 (by assumption)).2⟩
        have hlo2 := hlo
        obtain ⟨⟨o1, o2⟩, o3, o4⟩ := hlo2
        refine WC.seq (WC.region ?_)
        refine W.any (.move rfl) rfl rfl rfl ?_
        refine W.any (.not rfl) rfl rfl rfl ?_
        refine W.any (.assign rfl) rfl rfl rfl ?_
        refine W.nil (E.thenN ?_)
        refine WC.condF rfl ?_
        refine WC.seq ?_
        refine WC.draw [0, 1, 2, 3, 4, 5, 6, 7, 8] mixed (by kernel_rfl) ?_
        intro w10 d10
        have L50 := L49.le d10
        refine G.any rfl rfl (.field0 fa53_1 rfl) rfl rfl rfl ?_
        have f51 := (f36.le (h6_16_1.trans d10))
        refine G.rd rfl rfl (.loadB (v := .int .i64 ((legs.getD k noLeg).side)) na3 rfl f51 rfl) rfl rfl rfl ?_
        refine G.any rfl rfl (.field0 fa44_2 rfl) rfl rfl rfl ?_
        refine G.any rfl rfl (.idxAo (((legs.getD k noLeg).side).toNat) Tryz.underlying35 sz3 rfl rfl (by omega) (by omega)) rfl rfl rfl ?_
        have f52 := (b5_8_1.le (h6_16_1.trans d10))
        refine G.rd rfl rfl (.loadB (v := .int .i64 ((vhk5_3.h (((legs.getD k noLeg).side).toNat)))) na3 rfl f52 (seatH_at vhk5_3 (by omega))) rfl rfl rfl ?_
        refine G.any rfl rfl (.field0 fa53_2 rfl) rfl rfl rfl ?_
        refine G.rd rfl rfl (.loadB (v := .int .i64 ((legs.getD k noLeg).am)) na3 rfl f51 rfl) rfl rfl rfl ?_
        refine G.any rfl rfl (.lss rfl rfl) rfl rfl rfl ?_
        refine G.any rfl rfl (.assign rfl) rfl rfl rfl ?_
        refine G.nil (E.thenN ?_)
        by_cases c3 : (vhk5_3.h (((legs.getD k noLeg).side).toNat)) < ((legs.getD k noLeg).am)
        ·refine WC.condY rfl (decide_eq_true c3) ?_
         refine WC.seq (WC.region ?_)
         refine W.any (.assign rfl) rfl rfl rfl ?_
         refine W.nil (E.thenN (WC.ret (E.blkR (E.thenR (E.blkR (E.thenR (E.thenR (E.blkR (E.thenR ?_)))))))))
         have f53 := (((((f0_0.le h4_2).ch h4_3 (fun h => (show g4_2 ≠ gp from by have := f0_0.lt; omega) (Option.some.inj h))).le h5_7_1).ch h5_8_1 (fun h => (show g5_7_1 ≠ gp from by have := f0_0.lt; have := h4_2.size; have := h4_3.size; omega) (Option.some.inj h))).le (h6_16_1.trans d10))
         have f54 := (((((f0_1.le h4_2).ch h4_3 (fun q hq => by cases hq; exact (fun he => by have := (f0_1.row he).2; omega))).le h5_7_1).ch h5_8_1 (fun q hq => by cases hq; exact (fun he => by have := (f0_1.row he).2; have := h4_2.size; have := h4_3.size; omega))).le (h6_16_1.trans d10))
         have f55 := (((((f0_2.le h4_2).ch h4_3 (fun h => (show g4_2 ≠ gs from by have := f0_2.lt; omega) (Option.some.inj h))).le h5_7_1).ch h5_8_1 (fun h => (show g5_7_1 ≠ gs from by have := f0_2.lt; have := h4_2.size; have := h4_3.size; omega) (Option.some.inj h))).le (h6_16_1.trans d10))
         have f56 := (((((f0_3.le h4_2).ch h4_3 (fun h => (show g4_2 ≠ gh from by have := f0_3.lt; omega) (Option.some.inj h))).le h5_7_1).ch h5_8_1 (fun h => (show g5_7_1 ≠ gh from by have := f0_3.lt; have := h4_2.size; have := h4_3.size; omega) (Option.some.inj h))).le (h6_16_1.trans d10))
         refine E.retG1 rfl rfl ?_
         have e9 : payTo ls (legs.take (k + 1)) = (lc, 8) := (by rw [payTo_next (by omega), hpt]; unfold payF; rw [if_neg (by simp)]; rw [if_neg (not_not_intro hlo), hk5_3]; simp only; rw [if_pos c3]); have e8 : payTo ls legs = (lc, 8) := (by rw [payTo_err (k := k + 1) (by rw [e9]; simp), e9]); exact ⟨L50, .inl ⟨by rw [e8]; simp, by rw [e8], ⟨f53, f54, f55, f56, n1, n2, n3, n4, n5, n6⟩⟩⟩
        ·refine WC.condN rfl (decide_eq_false c3) ?_
         refine WC.skip (E.blkN (E.thenN (WC.seq ?_)))
         refine WC.draw [0, 1, 2, 3, 4, 5, 6, 7, 8, 9, 10] mixed (by kernel_rfl) ?_
         intro w12 d12
         have L57 := L50.le d12
         refine G.any rfl rfl (.field0 fa53_1 rfl) rfl rfl rfl ?_
         have f58 := (f51.le d12)
         refine G.rd rfl rfl (.loadB (v := .int .i64 ((legs.getD k noLeg).side)) na3 rfl f58 rfl) rfl rfl rfl ?_
         refine G.any rfl rfl (.field0 fa44_2 rfl) rfl rfl rfl ?_
         refine G.any rfl rfl (.idxAo (((legs.getD k noLeg).side).toNat) Tryz.underlying35 sz3 rfl rfl (by omega) (by omega)) rfl rfl rfl ?_
         have f59 := (f52.le d12)
         refine G.rd rfl rfl (.loadB (v := .int .i64 ((vhk5_3.h (((legs.getD k noLeg).side).toNat)))) na3 rfl f59 (seatH_at vhk5_3 (by omega))) rfl rfl rfl ?_
         refine G.any rfl rfl (.field0 fa53_2 rfl) rfl rfl rfl ?_
         refine G.rd rfl rfl (.loadB (v := .int .i64 ((legs.getD k noLeg).am)) na3 rfl f58 rfl) rfl rfl rfl ?_
         refine G.any rfl rfl (.sub rfl rfl (by have := hsh ((legs.getD k noLeg).side).toNat; omega)) rfl rfl rfl ?_
         refine G.any rfl rfl (.field0 fa44_2 rfl) rfl rfl rfl ?_
         refine G.any rfl rfl (.idxAo (((legs.getD k noLeg).side).toNat) Tryz.underlying35 sz3 rfl rfl (by omega) (by omega)) rfl rfl rfl ?_
         refine G.ef0 rfl rfl rfl rfl ?_
         refine Ef.store sz3 rfl rfl f59 (by simp [seatV_row.len, -List.getD_eq_getElem?_getD]; omega) rfl ?_
         intro w12_10 b12_10 h12_10
         refine ⟨fun h => absurd h (ne_true_of_eq_false (by kernel_rfl)), ?_⟩
         have b12_10 : Blk w12_10 g5_7_1 44 (seatV (vhk5_3.setH (((legs.getD k noLeg).side).toNat) ((vhk5_3.h (((legs.getD k noLeg).side).toNat)) - ((legs.getD k noLeg).am)))).toArray := b12_10.cast (seatH_set vhk5_3 ((vhk5_3.h (((legs.getD k noLeg).side).toNat)) - ((legs.getD k noLeg).am)) (by omega))
         have L60 : ChP w w12_10 (LF gp gs gh A c) := L57.ch h12_10 (fun i hi hlt => by cases hi; exact absurd hlt (by have := L7.size; have := hg5_7_1; omega))
         refine G.nil (E.thenN (WC.seq ?_))
         refine WC.draw [0, 1, 2, 3, 4, 5, 6, 7, 8, 9, 10, 11] mixed (by kernel_rfl) ?_
         intro w13 d13
         have L61 := L60.le d13
         refine G.any rfl rfl (.field0 fa53_1 rfl) rfl rfl rfl ?_
         have f62 := ((f58.ch h12_10 (fun h => (show g5_7_1 ≠ g4_2 from by have := b4_3.lt; omega) (Option.some.inj h))).le d13)
         refine G.rd rfl rfl (.loadB (v := .int .i64 ((legs.getD k noLeg).side)) na3 rfl f62 rfl) rfl rfl rfl ?_
         refine G.any rfl rfl (.sub rfl rfl (by omega)) rfl rfl rfl ?_
         refine G.any rfl rfl (.field0 fa44_2 rfl) rfl rfl rfl ?_
         refine G.any rfl rfl (.idxAo (((1 - ((legs.getD k noLeg).side))).toNat) Tryz.underlying35 sz3 rfl rfl (by omega) (by omega)) rfl rfl rfl ?_
         have f63 := (b12_10.le d13)
         refine G.rd rfl rfl (.loadB (v := .int .i64 (((vhk5_3.setH (((legs.getD k noLeg).side).toNat) ((vhk5_3.h (((legs.getD k noLeg).side).toNat)) - ((legs.getD k noLeg).am))).h (((1 - ((legs.getD k noLeg).side))).toNat)))) na3 rfl f63 (seatH_at (vhk5_3.setH (((legs.getD k noLeg).side).toNat) ((vhk5_3.h (((legs.getD k noLeg).side).toNat)) - ((legs.getD k noLeg).am))) (by omega))) rfl rfl rfl ?_
         refine G.any rfl rfl (.field0 fa53_2 rfl) rfl rfl rfl ?_
         refine G.rd rfl rfl (.loadB (v := .int .i64 ((legs.getD k noLeg).am)) na3 rfl f62 rfl) rfl rfl rfl ?_
         refine G.any rfl rfl (.add rfl rfl (by rw [setH_ne (by omega) (by omega) (by omega)]; have := hsh ((1 - (legs.getD k noLeg).side)).toNat; omega)) rfl rfl rfl ?_
         refine G.any rfl rfl (.field0 fa44_2 rfl) rfl rfl rfl ?_
         refine G.any rfl rfl (.idxAo (((1 - ((legs.getD k noLeg).side))).toNat) Tryz.underlying35 sz3 rfl rfl (by omega) (by omega)) rfl rfl rfl ?_
         refine G.ef0 rfl rfl rfl rfl ?_
         refine Ef.store sz3 rfl rfl f63 (by simp [seatV_row.len, -List.getD_eq_getElem?_getD]; omega) rfl ?_
         intro w13_11 b13_11 h13_11
         refine ⟨fun h => absurd h (ne_true_of_eq_false (by kernel_rfl)), ?_⟩
         have b13_11 : Blk w13_11 g5_7_1 44 (seatV ((vhk5_3.setH (((legs.getD k noLeg).side).toNat) ((vhk5_3.h (((legs.getD k noLeg).side).toNat)) - ((legs.getD k noLeg).am))).setH (((1 - ((legs.getD k noLeg).side))).toNat) (((vhk5_3.setH (((legs.getD k noLeg).side).toNat) ((vhk5_3.h (((legs.getD k noLeg).side).toNat)) - ((legs.getD k noLeg).am))).h (((1 - ((legs.getD k noLeg).side))).toNat)) + ((legs.getD k noLeg).am)))).toArray := b13_11.cast (seatH_set (vhk5_3.setH (((legs.getD k noLeg).side).toNat) ((vhk5_3.h (((legs.getD k noLeg).side).toNat)) - ((legs.getD k noLeg).am))) (((vhk5_3.setH (((legs.getD k noLeg).side).toNat) ((vhk5_3.h (((legs.getD k noLeg).side).toNat)) - ((legs.getD k noLeg).am))).h (((1 - ((legs.getD k noLeg).side))).toNat)) + ((legs.getD k noLeg).am)) (by omega))
         have L64 : ChP w w13_11 (LF gp gs gh A c) := L61.ch h13_11 (fun i hi hlt => by cases hi; exact absurd hlt (by have := L7.size; have := hg5_7_1; omega))
         refine G.nil (E.thenN (WC.region ?_))
         refine W.any (.move rfl) rfl rfl rfl ?_
         refine W.any (.field0 fa53_0 rfl) rfl rfl rfl ?_
         have f65 := (f62.ch h13_11 (fun h => (show g5_7_1 ≠ g4_2 from by have := b4_3.lt; omega) (Option.some.inj h)))
         refine W.rd (.loadB (v := .int .i64 ((legs.getD k noLeg).ch)) na3 rfl f65 rfl) rfl rfl rfl ?_
         refine W.rd (.loadAll ag44 (by rfl) rfl b13_11) rfl rfl rfl ?_
         have f66 := ((((((f33.le h5_7_1).ch h5_8_1 (fun h => (show g5_7_1 ≠ g1_4 from by have := f33.lt; omega) (Option.some.inj h))).le (h6_16_1.trans (d10.trans d12))).ch h12_10 (fun h => (show g5_7_1 ≠ g1_4 from by have := f33.lt; omega) (Option.some.inj h))).le d13).ch h13_11 (fun h => (show g5_7_1 ≠ g1_4 from by have := f33.lt; omega) (Option.some.inj h)))
         refine W.ef0 rfl rfl ?_
         refine Ef.updateG (key := ((legs.getD k noLeg).ch)) (u := ((vhk5_3.setH (((legs.getD k noLeg).side).toNat) ((vhk5_3.h (((legs.getD k noLeg).side).toNat)) - ((legs.getD k noLeg).am))).setH (((1 - ((legs.getD k noLeg).side))).toNat) (((vhk5_3.setH (((legs.getD k noLeg).side).toNat) ((vhk5_3.h (((legs.getD k noLeg).side).toNat)) - ((legs.getD k noLeg).am))).h (((1 - ((legs.getD k noLeg).side))).toNat)) + ((legs.getD k noLeg).am)))) Tryz.underlying63 kint rfl rfl rfl f66 stay_i (hk5_3) ?_
         intro w14_4 b14_4 h14_4
         have L67 : ChP w w14_4 (LF gp gs gh A c) := L64.ch h14_4 (fun i hi hlt => by cases hi; exact absurd hlt (by have := L0.size; have := hg1_4; omega))
         refine W.nil (E.blkN (E.thenN (WC.region ?_)))
         refine W.any (.add rfl rfl (by omega)) rfl rfl rfl ?_
         refine W.any (.move rfl) rfl rfl rfl ?_
         refine W.nil ?_
         have f68 := (((((((((f0_0.le h4_2).ch h4_3 (fun h => (show g4_2 ≠ gp from by have := f0_0.lt; omega) (Option.some.inj h))).le h5_7_1).ch h5_8_1 (fun h => (show g5_7_1 ≠ gp from by have := f0_0.lt; have := h4_2.size; have := h4_3.size; omega) (Option.some.inj h))).le (h6_16_1.trans (d10.trans d12))).ch h12_10 (fun h => (show g5_7_1 ≠ gp from by have := f0_0.lt; have := h4_2.size; have := h4_3.size; omega) (Option.some.inj h))).le d13).ch h13_11 (fun h => (show g5_7_1 ≠ gp from by have := f0_0.lt; have := h4_2.size; have := h4_3.size; omega) (Option.some.inj h))).ch h14_4 (fun h => (show g1_4 ≠ gp from by have := hp0.lt; omega) (Option.some.inj h)))
         have f69 := (((((((((f0_1.le h4_2).ch h4_3 (fun q hq => by cases hq; exact (fun he => by have := (f0_1.row he).2; omega))).le h5_7_1).ch h5_8_1 (fun q hq => by cases hq; exact (fun he => by have := (f0_1.row he).2; have := h4_2.size; have := h4_3.size; omega))).le (h6_16_1.trans (d10.trans d12))).ch h12_10 (fun q hq => by cases hq; exact (fun he => by have := (f0_1.row he).2; have := h4_2.size; have := h4_3.size; omega))).le d13).ch h13_11 (fun q hq => by cases hq; exact (fun he => by have := (f0_1.row he).2; have := h4_2.size; have := h4_3.size; omega))).ch h14_4 (fun q hq => by cases hq; exact (fun he => by have := (hO0.row he).2; omega)))
         have f70 := (((((((((f0_2.le h4_2).ch h4_3 (fun h => (show g4_2 ≠ gs from by have := f0_2.lt; omega) (Option.some.inj h))).le h5_7_1).ch h5_8_1 (fun h => (show g5_7_1 ≠ gs from by have := f0_2.lt; have := h4_2.size; have := h4_3.size; omega) (Option.some.inj h))).le (h6_16_1.trans (d10.trans d12))).ch h12_10 (fun h => (show g5_7_1 ≠ gs from by have := f0_2.lt; have := h4_2.size; have := h4_3.size; omega) (Option.some.inj h))).le d13).ch h13_11 (fun h => (show g5_7_1 ≠ gs from by have := f0_2.lt; have := h4_2.size; have := h4_3.size; omega) (Option.some.inj h))).ch h14_4 (fun h => (show g1_4 ≠ gs from by have := hS0.lt; omega) (Option.some.inj h)))
         have f71 := (((((((((f0_3.le h4_2).ch h4_3 (fun h => (show g4_2 ≠ gh from by have := f0_3.lt; omega) (Option.some.inj h))).le h5_7_1).ch h5_8_1 (fun h => (show g5_7_1 ≠ gh from by have := f0_3.lt; have := h4_2.size; have := h4_3.size; omega) (Option.some.inj h))).le (h6_16_1.trans (d10.trans d12))).ch h12_10 (fun h => (show g5_7_1 ≠ gh from by have := f0_3.lt; have := h4_2.size; have := h4_3.size; omega) (Option.some.inj h))).le d13).ch h13_11 (fun h => (show g5_7_1 ≠ gh from by have := f0_3.lt; have := h4_2.size; have := h4_3.size; omega) (Option.some.inj h))).ch h14_4 (fun h => (show g1_4 ≠ gh from by have := hH0.lt; omega) (Option.some.inj h)))
         refine E.again (k + 1, (updM (legs.getD k noLeg).ch (legS vhk5_3 (legs.getD k noLeg)) lc)) (.cons rfl (.cons rfl (.cons rfl (.cons rfl (.cons rfl (.nil _)))))) ?_ ?_
         ·exact ⟨by omega, by rw [payTo_next (by omega), hpt]; unfold payF; rw [if_neg (by simp), if_neg (not_not_intro hlo), hk5_3]; simp only; rw [if_neg c3], updM_good hgc (legS_good hsg hlo c3), L67, by have := zl0; have := h4_2.size; have := h4_3.size; have := h5_7_1.size; have := h5_8_1.size; have := h6_16_1.size; have := d10.size; have := d12.size; have := h12_10.size; have := d13.size; have := h13_11.size; have := h14_4.size; omega, f68, f69, f70, f71, b14_4⟩
         ·first | omega | (simp only []; omega)
       ·refine WC.condY rfl (congrArg not ((Bool.eq_false_iff.2 c1))) ?_
        refine WC.seq (WC.region ?_)
        refine W.any (.assign rfl) rfl rfl rfl ?_
        refine W.nil (E.thenN (WC.ret (E.blkR (E.thenR (E.blkR (E.thenR (E.thenR (E.blkR (E.thenR ?_)))))))))
        have f72 := (((((f0_0.le h4_2).ch h4_3 (fun h => (show g4_2 ≠ gp from by have := f0_0.lt; omega) (Option.some.inj h))).le h5_7_1).ch h5_8_1 (fun h => (show g5_7_1 ≠ gp from by have := f0_0.lt; have := h4_2.size; have := h4_3.size; omega) (Option.some.inj h))).le h6_16_1)
        have f73 := (((((f0_1.le h4_2).ch h4_3 (fun q hq => by cases hq; exact (fun he => by have := (f0_1.row he).2; omega))).le h5_7_1).ch h5_8_1 (fun q hq => by cases hq; exact (fun he => by have := (f0_1.row he).2; have := h4_2.size; have := h4_3.size; omega))).le h6_16_1)
        have f74 := (((((f0_2.le h4_2).ch h4_3 (fun h => (show g4_2 ≠ gs from by have := f0_2.lt; omega) (Option.some.inj h))).le h5_7_1).ch h5_8_1 (fun h => (show g5_7_1 ≠ gs from by have := f0_2.lt; have := h4_2.size; have := h4_3.size; omega) (Option.some.inj h))).le h6_16_1)
        have f75 := (((((f0_3.le h4_2).ch h4_3 (fun h => (show g4_2 ≠ gh from by have := f0_3.lt; omega) (Option.some.inj h))).le h5_7_1).ch h5_8_1 (fun h => (show g5_7_1 ≠ gh from by have := f0_3.lt; have := h4_2.size; have := h4_3.size; omega) (Option.some.inj h))).le h6_16_1)
        refine E.retG1 rfl rfl ?_
        have e9 : payTo ls (legs.take (k + 1)) = (lc, 1) := (by rw [payTo_next (by omega), hpt]; unfold payF; rw [if_neg (by simp)]; rw [if_pos (fun hh : legOk (legs.getD k noLeg) => by obtain ⟨⟨a1, a2⟩, a3, a4⟩ := hh; first | omega | (exact absurd (coin_iff.2 ⟨by omega, a4⟩) (by assumption)))]); have e8 : payTo ls legs = (lc, 1) := (by rw [payTo_err (k := k + 1) (by rw [e9]; simp), e9]); exact ⟨L49, .inl ⟨by rw [e8]; simp, by rw [e8], ⟨f72, f73, f74, f75, n1, n2, n3, n4, n5, n6⟩⟩⟩
  ·refine WC.condN rfl (decide_eq_false c0) ?_
   refine WC.exit (E.thenX (E.thenX (E.blkH (E.thenN (WC.seq (WC.region ?_))))))
   refine W.any (.move rfl) rfl rfl rfl ?_
   refine W.any (.move rfl) rfl rfl rfl ?_
   refine W.any (.nilCheck rfl) rfl rfl rfl ?_
   refine W.any (.field0 fa66_1 rfl) rfl rfl rfl ?_
   refine W.ef0 rfl rfl ?_
   refine Ef.store sz63 rfl rfl f0_0 (by first | decide | (simp; done)) (rfl) ?_
   intro w16_4 b16_4 h16_4
   have b16_4 : Blk w16_4 gp 66 #[.slice A own.length c, .map (some g1_4), .map (some gh), .int .i64 (lost)] := b16_4
   have L76 : ChP w w16_4 (LF gp gs gh A c) := Ll0.ch h16_4 (fun i hi _ => by cases hi; exact Or.inl rfl)
   refine W.nil (E.thenN (WC.seq (WC.region ?_)))
   refine W.any (.assign rfl) rfl rfl rfl ?_
   refine W.nil (E.thenN (WC.ret ?_))
   have f77 := (f0_1.ch h16_4 (fun q hq => by cases hq; exact n4))
   have f78 := (f0_4.ch h16_4 (fun h => (show gp ≠ g1_4 from by have := hp0.lt; omega) (Option.some.inj h)))
   have f79 := (f0_3.ch h16_4 (fun h => n2 (Option.some.inj h)))
   refine E.retG1 rfl rfl ?_
   have e8 : payTo ls legs = (lc, 0) := (by rw [List.take_of_length_le (by omega)] at hpt; exact hpt); exact ⟨L76, .inr ⟨by rw [e8], rfl, g1_4, (by have := hg1_4; have := L0.size; omega), (by rw [e8]; exact ⟨b16_4, f77, f78, f79, (show gp ≠ g1_4 from by have := hp0.lt; omega), n2, (show g1_4 ≠ gh from by have := hH0.lt; omega), n4, (fun he => by have := (hO0.row he).2; omega), n6⟩)⟩⟩
end Go.Proofs.YtmgfgbplbemklaaGreat

namespace Go.Proofs.YtmgfgbplbemklaaGreat
open Go Go.Sx Go.Num Go.Gsp Go.Lsp
set_option maxRecDepth 20000
set_option linter.unusedSimpArgs false
set_option linter.unusedVariables false
def pairV (d : Pair) : List Value := [.int .i64 d.a, .int .i64 d.b]
theorem pair_at (d : Pair) {j : Nat} (h : j < 2) : (pairV d).toArray[0 + j]? = some (.int .i64 (d.ix j)) := by
  have : j = 0 ∨ j = 1 := by omega
  rcases this with rfl | rfl <;> rfl
theorem pair_ix (d : Pair) {j : Nat} (h : j < 2) : (pairV d).toArray[j]? = some (.int .i64 (d.ix j)) := by
  have : j = 0 ∨ j = 1 := by omega
  rcases this with rfl | rfl <;> rfl
theorem ltotal_ok {gp gs gh c cs ck : Nat} {A : Option Addr} {own : List Int} {ls : SM} {lh : HM} {lost : Int} (w : World) (hL : LedL w gp gs gh A c cs ck own ls lh lost) (hb : ∀ x ∈ lh, 0 ≤ x.2.2.am) (hw : ∀ x ∈ ls, 0 ≤ x.2.2.h0 ∧ 0 ≤ x.2.2.h1) (ho : ∀ i : Nat, 0 ≤ ownL own (i : Int)) (hn : own.length ≤ 1000) (ht : ∀ i : Nat, 0 ≤ worthL own ls lh (i : Int) ∧ worthL own ls lh (i : Int) ≤ 2251799813685248) : Calls Tryz.prog 24 #[.pointer (some ⟨gp, 0, none⟩)] w fun r w' => r = .returned (.int .i64 (totalL own ls lh own.length)) ∧ Le w w' := by
 refine enter Tryz.func24 rfl rfl ?_
 have L0 := Le.refl w
 refine WC.seq (WC.region ?_)
 refine W.any (.assign rfl) rfl rfl rfl ?_
 refine W.nil (E.thenN (WC.seq (WC.region ?_)))
 refine W.any (.assign rfl) rfl rfl rfl ?_
 refine W.nil (E.thenN (WC.seq (WC.seq (WC.region ?_))))
 refine W.any (.move rfl) rfl rfl rfl ?_
 refine W.any (.nilCheck rfl) rfl rfl rfl ?_
 refine W.any (.field0 fa66_0 rfl) rfl rfl rfl ?_
 refine W.rd (.loadB (v := .slice A own.length c) na22 rfl (hL.hp.le L0) rfl) rfl rfl rfl ?_
 refine W.rd (.len Tryz.underlying22 rfl) rfl rfl rfl ?_
 refine W.any (.move rfl) rfl rfl rfl ?_
 refine W.nil (E.thenN (WC.block ?_))
 refine WC.loop (ι := Nat) (fun k => [(0, .pointer (some ⟨gp, 0, none⟩)), (3, .int .i64 ((totalL own ls lh k))), (9, .int .i64 (((own.length : Nat) : Int))), (10, .int .i64 (((k : Nat) : Int)))]) (fun k wl0 => (k ≤ own.length) ∧ (0 ≤ totalL own ls lh k ∧ totalL own ls lh k ≤ 2251799813685248 * k) ∧ Le w wl0 ∧ w.heap.size ≤ wl0.heap.size ∧ MapG wl0 ikf seatf gs ls cs ∧ MapG wl0 plf holdf gh lh ck) (fun k => own.length - k) 0 ?_ ?_ ?_
 ·exact .cons rfl (.cons' rfl (int_eq (by simp [totalL])) (.cons rfl (.cons rfl (.nil _))))
 ·exact ⟨Nat.zero_le _, by simp [totalL], L0, Nat.le_refl _, (hL.hS.le L0), (hL.hH.le L0)⟩
 ·rintro k wl0 ⟨hk, hs, Ll0, zl0, f0_0, f0_1⟩
  have htk := ht k
  refine WC.seq (WC.region ?_)
  refine W.any (.lss rfl rfl) rfl rfl rfl ?_
  refine W.nil (E.thenN (WC.seq ?_))
  by_cases c0 : ((k : Nat) : Int) < ((own.length : Nat) : Int)
  ·refine WC.condY rfl (decide_eq_true c0) ?_
   refine WC.skip (E.thenN (WC.seq (WC.block (WC.seq (WC.region ?_)))))
   refine W.any (.move rfl) rfl rfl rfl ?_
   refine W.any (.assign rfl) rfl rfl rfl ?_
   refine W.nil (E.thenN (WC.region ?_))
   refine W.any (.move rfl) rfl rfl rfl ?_
   refine W.any (.move rfl) rfl rfl rfl ?_
   refine W.any (.move rfl) rfl rfl rfl ?_
   refine W.ef rfl rfl rfl ?_
   refine Ef.call go13 rfl rfl (lworth_ok ((k : Nat) : Int) wl0 (hL.le Ll0) hb hw (ho k) (by omega)) ?_
   rintro _ w5_3 ⟨rfl, h5_3⟩
   refine ⟨_, rfl, ?_⟩
   have L1 := Ll0.trans h5_3
   refine W.any (.add rfl rfl (by omega)) rfl rfl rfl ?_
   refine W.any (.assign rfl) rfl rfl rfl ?_
   refine W.nil (E.blkN (E.thenN (WC.region ?_)))
   refine W.any (.add rfl rfl (by omega)) rfl rfl rfl ?_
   refine W.any (.move rfl) rfl rfl rfl ?_
   refine W.nil ?_
   have f2 := (f0_0.le h5_3)
   have f3 := (f0_1.le h5_3)
   refine E.again (k + 1) (.cons rfl (.cons' rfl (int_eq (by rw [totalL_next])) (.cons rfl (.cons rfl (.nil _))))) ?_ ?_
   ·exact ⟨by omega, by rw [totalL_next]; omega, L1, by have := zl0; have := h5_3.size; omega, f2, f3⟩
   ·first | omega | (simp only []; omega)
  ·refine WC.condN rfl (decide_eq_false c0) ?_
   refine WC.exit (E.thenX (E.thenX (E.blkH (E.thenN (WC.seq (WC.region ?_))))))
   refine W.any (.move rfl) rfl rfl rfl ?_
   refine W.any (.assign rfl) rfl rfl rfl ?_
   refine W.nil (E.thenN (WC.ret ?_))
   refine E.retG1 rfl rfl ?_
   have ek : k = own.length := (by omega); subst ek; exact ⟨rfl, Ll0⟩

theorem lclose_ok {gp gs gh c cs ck : Nat} {A : Option Addr} {own : List Int} {ls : SM} {lh : HM} {lost : Int} (ch : Int) (fee : Pair) (w : World) (hL : LedL w gp gs gh A c cs ck own ls lh lost) (hb : ∀ x ∈ lh, 0 ≤ x.2.2.am) (hq : ∀ ch side, heldL lh ch side ≤ 1125899906842624) (hs : ∀ x ∈ ls, seatOk own.length x.2.2) (hw : ∀ i, 0 ≤ own.getD i 0 ∧ own.getD i 0 ≤ 1125899906842624) (hl : 0 ≤ lost ∧ lost ≤ 1125899906842624) : Calls Tryz.prog 16 #[.pointer (some ⟨gp, 0, none⟩), .int .i64 (ch), .agg (pairV fee).toArray] w fun r w' => ChP w w' (LF gp gs gh A c) ∧ ((¬ ((0 ≤ fee.a ∧ fee.a ≤ 1125899906842624) ∧ 0 ≤ fee.b ∧ fee.b ≤ 1125899906842624) ∧ r = .returned (.int .i64 1) ∧ LedL w' gp gs gh A c cs ck own ls lh lost) ∨ (((0 ≤ fee.a ∧ fee.a ≤ 1125899906842624) ∧ 0 ≤ fee.b ∧ fee.b ≤ 1125899906842624) ∧ getG ch ls = none ∧ r = .returned (.int .i64 5) ∧ LedL w' gp gs gh A c cs ck own ls lh lost) ∨ (((0 ≤ fee.a ∧ fee.a ≤ 1125899906842624) ∧ 0 ≤ fee.b ∧ fee.b ≤ 1125899906842624) ∧ ∃ s, getG ch ls = some s ∧ ((¬ heldL lh ch 0 + heldL lh ch 1 = 0 ∧ r = .returned (.int .i64 14) ∧ LedL w' gp gs gh A c cs ck own ls lh lost) ∨ (heldL lh ch 0 + heldL lh ch 1 = 0 ∧ (s.h0 < fee.a ∨ s.h1 < fee.b) ∧ r = .returned (.int .i64 8) ∧ LedL w' gp gs gh A c cs ck own ls lh lost) ∨ (heldL lh ch 0 + heldL lh ch 1 = 0 ∧ ¬ (s.h0 < fee.a ∨ s.h1 < fee.b) ∧ r = .returned (.int .i64 0) ∧ LedL w' gp gs gh A c cs ck (backO own s fee 2) (delM ch ls) lh (backF lost fee 2))))) := by
 have hp0 := hL.hp
 have hO0 := hL.hO
 have hS0 := hL.hS
 have hH0 := hL.hH
 have n1 := hL.ps
 have n2 := hL.ph
 have n3 := hL.sh
 have n4 := hL.op
 have n5 := hL.os
 have n6 := hL.oh
 refine enter Tryz.func16 rfl rfl ?_
 have L0 := ChP.refl w (LF gp gs gh A c)
 refine WC.seq (WC.region ?_)
 refine W.ef rfl rfl rfl ?_
 refine Ef.boxA rfl ?_
 intro g0_0 w0_0 hg0_0 b0_0 h0_0
 have L1 := L0.le h0_0
 have b0_0 : Blk w0_0 g0_0 35 (pairV fee).toArray := b0_0
 refine W.any (.assign rfl) rfl rfl rfl ?_
 refine W.nil (E.thenN (WC.seq (WC.region ?_)))
 refine W.any (.move rfl) rfl rfl rfl ?_
 refine W.any (.nilCheck rfl) rfl rfl rfl ?_
 refine W.any (.field0 fa66_1 rfl) rfl rfl rfl ?_
 have f2 := (hp0.le h0_0)
 refine W.rd (.loadB (v := .map (some gs)) na63 rfl f2 rfl) rfl rfl rfl ?_
 refine W.any (.move rfl) rfl rfl rfl ?_
 rcases optG (getG ch ls) with hk1_5 | ⟨vhk1_5, hk1_5⟩
 ·have f3 := (hS0.le h0_0)
  refine W.rd (.as (.lookup2 (key := ch) Tryz.underlying63 kint z44 rfl rfl f3) (by rw [hk1_5] <;> rfl)) rfl rfl rfl ?_
  refine W.any (.move rfl) rfl rfl rfl ?_
  refine W.any (.extract (v := .agg (seatV noSeat).toArray) rfl rfl) rfl rfl rfl ?_
  refine W.any (.extract (v := .bool false) rfl rfl) rfl rfl rfl ?_
  refine W.ef rfl rfl rfl ?_
  refine Ef.allocA z44 ?_
  intro g1_9 w1_9 hg1_9 b1_9 h1_9
  have L4 := L1.le h1_9
  have b1_9 : Blk w1_9 g1_9 44 (seatV noSeat).toArray := b1_9
  refine W.ef0 rfl rfl ?_
  refine Ef.storeAll sz44 (by rfl) rfl rfl b1_9 (by simp only [List.size_toArray, seatV_row.len]) (seatV_row.one noSeat) ?_
  intro w1_10 b1_10 h1_10
  have b1_10 : Blk w1_10 g1_9 44 (seatV noSeat).toArray := b1_10
  have L5 : ChP w w1_10 (LF gp gs gh A c) := L4.ch h1_10 (fun i hi hlt => by cases hi; exact absurd hlt (by have := L1.size; have := hg1_9; omega))
  refine W.any (.assign rfl) rfl rfl rfl ?_
  refine W.nil (E.thenN (WC.seq (WC.block (WC.seq (WC.region ?_)))))
  refine W.any (.idxAo (0) Tryz.underlying35 sz3 rfl rfl (rfl) (by omega)) rfl rfl rfl ?_
  have f6 := ((b0_0.le h1_9).ch h1_10 (fun h => (show g1_9 ≠ g0_0 from by have := b0_0.lt; omega) (Option.some.inj h)))
  refine W.rd (.loadB (v := .int .i64 (fee.a)) na3 rfl f6 rfl) rfl rfl rfl ?_
  refine W.ef rfl rfl rfl ?_
  refine Ef.call go45 rfl rfl (coin_ok fee.a w1_10) ?_
  rintro _ w2_2 ⟨rfl, h2_2⟩
  refine ⟨_, rfl, ?_⟩
  have L7 := L5.le h2_2
  refine W.any (.not rfl) rfl rfl rfl ?_
  by_cases q2_4 : (coinL fee.a) = true
  ·refine W.any (.dec (.move rfl) (congrArg not (q2_4))) rfl rfl rfl ?_
   refine W.rdg (Any.rd (.idxAo (1) Tryz.underlying35 sz3 rfl rfl (rfl) (by omega)) _) rfl rfl rfl (rfl) rfl rfl ?_
   have f8 := (f6.le h2_2)
   refine W.rdg (.loadB (v := .int .i64 (fee.b)) na3 rfl f8 rfl) rfl rfl rfl (rfl) rfl rfl ?_
   refine W.efg rfl rfl rfl (rfl) rfl rfl ?_
   refine Ef.call go45 rfl rfl (coin_ok fee.b w2_2) ?_
   rintro _ w2_7 ⟨rfl, h2_7⟩
   refine ⟨_, rfl, ?_⟩
   have L9 := L7.le h2_7
   refine W.rdg (Any.rd (.not rfl) _) rfl rfl rfl (rfl) rfl rfl ?_
   refine W.any (.pickF rfl rfl rfl) rfl rfl rfl ?_
   refine W.any (.assign rfl) rfl rfl rfl ?_
   refine W.nil (E.thenN ?_)
   by_cases c0 : (coinL fee.b) = true
   ·refine WC.condN rfl (congrArg not (c0)) ?_
    have hco : ((0 ≤ fee.a ∧ fee.a ≤ 1125899906842624) ∧ 0 ≤ fee.b ∧ fee.b ≤ 1125899906842624) := ⟨coin_iff.1 (by assumption), coin_iff.1 (by assumption)⟩
    refine WC.seq (WC.region ?_)
    refine W.any (.move rfl) rfl rfl rfl ?_
    refine W.any (.not rfl) rfl rfl rfl ?_
    refine W.any (.assign rfl) rfl rfl rfl ?_
    refine W.nil (E.thenN ?_)
    refine WC.condT rfl ?_
    refine WC.seq (WC.region ?_)
    refine W.any (.assign rfl) rfl rfl rfl ?_
    refine W.nil (E.thenN (WC.ret (E.blkR (E.thenR ?_))))
    have f10 := (((hO0.le (h0_0.trans h1_9)).ch h1_10 (fun q hq => by cases hq; exact (fun he => by have := (hO0.row he).2; have := h0_0.size; omega))).le (h2_2.trans h2_7))
    have f11 := (((f2.le h1_9).ch h1_10 (fun h => (show g1_9 ≠ gp from by have := f2.lt; omega) (Option.some.inj h))).le (h2_2.trans h2_7))
    have f12 := (((f3.le h1_9).ch h1_10 (fun h => (show g1_9 ≠ gs from by have := f3.lt; omega) (Option.some.inj h))).le (h2_2.trans h2_7))
    have f13 := (((hH0.le (h0_0.trans h1_9)).ch h1_10 (fun h => (show g1_9 ≠ gh from by have := hH0.lt; have := h0_0.size; omega) (Option.some.inj h))).le (h2_2.trans h2_7))
    refine E.retG1 rfl rfl ?_
    exact ⟨L9, .inr (.inl ⟨hco, hk1_5, rfl, ⟨f11, f10, f12, f13, n1, n2, n3, n4, n5, n6⟩⟩)⟩
   ·refine WC.condY rfl (congrArg not ((Bool.eq_false_iff.2 c0))) ?_
    refine WC.seq (WC.region ?_)
    refine W.any (.assign rfl) rfl rfl rfl ?_
    refine W.nil (E.thenN (WC.ret (E.blkR (E.thenR ?_))))
    have f14 := (((hO0.le (h0_0.trans h1_9)).ch h1_10 (fun q hq => by cases hq; exact (fun he => by have := (hO0.row he).2; have := h0_0.size; omega))).le (h2_2.trans h2_7))
    have f15 := (((f2.le h1_9).ch h1_10 (fun h => (show g1_9 ≠ gp from by have := f2.lt; omega) (Option.some.inj h))).le (h2_2.trans h2_7))
    have f16 := (((f3.le h1_9).ch h1_10 (fun h => (show g1_9 ≠ gs from by have := f3.lt; omega) (Option.some.inj h))).le (h2_2.trans h2_7))
    have f17 := (((hH0.le (h0_0.trans h1_9)).ch h1_10 (fun h => (show g1_9 ≠ gh from by have := hH0.lt; have := h0_0.size; omega) (Option.some.inj h))).le (h2_2.trans h2_7))
    refine E.retG1 rfl rfl ?_
    exact ⟨L9, .inl ⟨(fun h => by first | (exact absurd (coin_iff.2 h.1) (by assumption)) | (exact absurd (coin_iff.2 h.2) (by assumption))), rfl, ⟨f15, f14, f16, f17, n1, n2, n3, n4, n5, n6⟩⟩⟩
  ·refine W.any (.dec (.move rfl) (congrArg not ((Bool.eq_false_iff.2 q2_4)))) rfl rfl rfl ?_
   refine W.skip rfl rfl rfl (rfl) rfl rfl ?_
   refine W.skip rfl rfl rfl (rfl) rfl rfl ?_
   refine W.skip rfl rfl rfl (rfl) rfl rfl ?_
   refine W.skip rfl rfl rfl (rfl) rfl rfl ?_
   refine W.any (.pickT rfl rfl rfl) rfl rfl rfl ?_
   refine W.any (.assign rfl) rfl rfl rfl ?_
   refine W.nil (E.thenN ?_)
   refine WC.condT rfl ?_
   refine WC.seq (WC.region ?_)
   refine W.any (.assign rfl) rfl rfl rfl ?_
   refine W.nil (E.thenN (WC.ret (E.blkR (E.thenR ?_))))
   have f18 := (((hO0.le (h0_0.trans h1_9)).ch h1_10 (fun q hq => by cases hq; exact (fun he => by have := (hO0.row he).2; have := h0_0.size; omega))).le h2_2)
   have f19 := (((f2.le h1_9).ch h1_10 (fun h => (show g1_9 ≠ gp from by have := f2.lt; omega) (Option.some.inj h))).le h2_2)
   have f20 := (((f3.le h1_9).ch h1_10 (fun h => (show g1_9 ≠ gs from by have := f3.lt; omega) (Option.some.inj h))).le h2_2)
   have f21 := (((hH0.le (h0_0.trans h1_9)).ch h1_10 (fun h => (show g1_9 ≠ gh from by have := hH0.lt; have := h0_0.size; omega) (Option.some.inj h))).le h2_2)
   refine E.retG1 rfl rfl ?_
   exact ⟨L7, .inl ⟨(fun h => by first | (exact absurd (coin_iff.2 h.1) (by assumption)) | (exact absurd (coin_iff.2 h.2) (by assumption))), rfl, ⟨f19, f18, f20, f21, n1, n2, n3, n4, n5, n6⟩⟩⟩
 ·obtain ⟨bh, hbh⟩ := getG_mem hk1_5
  have hso : seatOk own.length vhk1_5 := hs _ hbh
  have f22 := (hS0.le h0_0)
  refine W.rd (.as (.lookup2 (key := ch) Tryz.underlying63 kint z44 rfl rfl f22) (by rw [hk1_5] <;> rfl)) rfl rfl rfl ?_
  refine W.any (.move rfl) rfl rfl rfl ?_
  refine W.any (.extract (v := .agg (seatV vhk1_5).toArray) rfl rfl) rfl rfl rfl ?_
  refine W.any (.extract (v := .bool true) rfl rfl) rfl rfl rfl ?_
  refine W.ef rfl rfl rfl ?_
  refine Ef.allocA z44 ?_
  intro g1_9_1 w1_9_1 hg1_9_1 b1_9_1 h1_9_1
  have L23 := L1.le h1_9_1
  have b1_9_1 : Blk w1_9_1 g1_9_1 44 (seatV noSeat).toArray := b1_9_1
  refine W.ef0 rfl rfl ?_
  refine Ef.storeAll sz44 (by rfl) rfl rfl b1_9_1 (by simp only [List.size_toArray, seatV_row.len]) (seatV_row.one vhk1_5) ?_
  intro w1_10_1 b1_10_1 h1_10_1
  have b1_10_1 : Blk w1_10_1 g1_9_1 44 (seatV vhk1_5).toArray := b1_10_1
  have L24 : ChP w w1_10_1 (LF gp gs gh A c) := L23.ch h1_10_1 (fun i hi hlt => by cases hi; exact absurd hlt (by have := L1.size; have := hg1_9_1; omega))
  refine W.any (.assign rfl) rfl rfl rfl ?_
  refine W.nil (E.thenN (WC.seq (WC.block (WC.seq (WC.region ?_)))))
  refine W.any (.idxAo (0) Tryz.underlying35 sz3 rfl rfl (rfl) (by omega)) rfl rfl rfl ?_
  have f25 := ((b0_0.le h1_9_1).ch h1_10_1 (fun h => (show g1_9_1 ≠ g0_0 from by have := b0_0.lt; omega) (Option.some.inj h)))
  refine W.rd (.loadB (v := .int .i64 (fee.a)) na3 rfl f25 rfl) rfl rfl rfl ?_
  refine W.ef rfl rfl rfl ?_
  refine Ef.call go45 rfl rfl (coin_ok fee.a w1_10_1) ?_
  rintro _ w2_2_1 ⟨rfl, h2_2_1⟩
  refine ⟨_, rfl, ?_⟩
  have L26 := L24.le h2_2_1
  refine W.any (.not rfl) rfl rfl rfl ?_
  by_cases q2_4 : (coinL fee.a) = true
  ·refine W.any (.dec (.move rfl) (congrArg not (q2_4))) rfl rfl rfl ?_
   refine W.rdg (Any.rd (.idxAo (1) Tryz.underlying35 sz3 rfl rfl (rfl) (by omega)) _) rfl rfl rfl (rfl) rfl rfl ?_
   have f27 := (f25.le h2_2_1)
   refine W.rdg (.loadB (v := .int .i64 (fee.b)) na3 rfl f27 rfl) rfl rfl rfl (rfl) rfl rfl ?_
   refine W.efg rfl rfl rfl (rfl) rfl rfl ?_
   refine Ef.call go45 rfl rfl (coin_ok fee.b w2_2_1) ?_
   rintro _ w2_7_1 ⟨rfl, h2_7_1⟩
   refine ⟨_, rfl, ?_⟩
   have L28 := L26.le h2_7_1
   refine W.rdg (Any.rd (.not rfl) _) rfl rfl rfl (rfl) rfl rfl ?_
   refine W.any (.pickF rfl rfl rfl) rfl rfl rfl ?_
   refine W.any (.assign rfl) rfl rfl rfl ?_
   refine W.nil (E.thenN ?_)
   by_cases c0 : (coinL fee.b) = true
   ·refine WC.condN rfl (congrArg not (c0)) ?_
    have hco : ((0 ≤ fee.a ∧ fee.a ≤ 1125899906842624) ∧ 0 ≤ fee.b ∧ fee.b ≤ 1125899906842624) := ⟨coin_iff.1 (by assumption), coin_iff.1 (by assumption)⟩
    refine WC.seq (WC.region ?_)
    refine W.any (.move rfl) rfl rfl rfl ?_
    refine W.any (.not rfl) rfl rfl rfl ?_
    refine W.any (.assign rfl) rfl rfl rfl ?_
    refine W.nil (E.thenN ?_)
    refine WC.condF rfl ?_
    refine WC.seq (WC.region ?_)
    refine W.any (.move rfl) rfl rfl rfl ?_
    refine W.any (.move rfl) rfl rfl rfl ?_
    have f29 := (((f2.le h1_9_1).ch h1_10_1 (fun h => (show g1_9_1 ≠ gp from by have := f2.lt; omega) (Option.some.inj h))).le (h2_2_1.trans h2_7_1))
    have f30 := (((hO0.le (h0_0.trans h1_9_1)).ch h1_10_1 (fun q hq => by cases hq; exact (fun he => by have := (hO0.row he).2; have := h0_0.size; omega))).le (h2_2_1.trans h2_7_1))
    have f31 := (((f22.le h1_9_1).ch h1_10_1 (fun h => (show g1_9_1 ≠ gs from by have := f22.lt; omega) (Option.some.inj h))).le (h2_2_1.trans h2_7_1))
    have f32 := (((hH0.le (h0_0.trans h1_9_1)).ch h1_10_1 (fun h => (show g1_9_1 ≠ gh from by have := hH0.lt; have := h0_0.size; omega) (Option.some.inj h))).le (h2_2_1.trans h2_7_1))
    refine W.ef rfl rfl rfl ?_
    refine Ef.call go48 rfl rfl (lfree_ok ch w2_7_1 (LedL.mk f29 f30 f31 f32 n1 n2 n3 n4 n5 n6) hb (hq _ 0) (hq _ 1)) ?_
    rintro _ w6_2 ⟨rfl, h6_2⟩
    refine ⟨_, rfl, ?_⟩
    have L33 := L28.le h6_2
    refine W.any (.not rfl) rfl rfl rfl ?_
    refine W.any (.assign rfl) rfl rfl rfl ?_
    refine W.nil (E.thenN ?_)
    by_cases c2 : heldL lh ch 0 + heldL lh ch 1 = 0
    ·refine WC.condN rfl (congrArg not (decide_eq_true c2)) ?_
     refine WC.seq (WC.region ?_)
     refine W.any (.field0 fa44_2 rfl) rfl rfl rfl ?_
     refine W.any (.idxAo (0) Tryz.underlying35 sz3 rfl rfl (rfl) (by omega)) rfl rfl rfl ?_
     have f34 := (b1_10_1.le (h2_2_1.trans (h2_7_1.trans h6_2)))
     refine W.rd (.loadB (v := .int .i64 (vhk1_5.h0)) na3 rfl f34 rfl) rfl rfl rfl ?_
     refine W.any (.idxAo (0) Tryz.underlying35 sz3 rfl rfl (rfl) (by omega)) rfl rfl rfl ?_
     have f35 := (f27.le (h2_7_1.trans h6_2))
     refine W.rd (.loadB (v := .int .i64 (fee.a)) na3 rfl f35 rfl) rfl rfl rfl ?_
     refine W.any (.lss rfl rfl) rfl rfl rfl ?_
     by_cases q8_6 : vhk1_5.h0 < fee.a
     ·refine W.any (.dec (.move rfl) (decide_eq_true q8_6)) rfl rfl rfl ?_
      refine W.skip rfl rfl rfl (rfl) rfl rfl ?_
      refine W.skip rfl rfl rfl (rfl) rfl rfl ?_
      refine W.skip rfl rfl rfl (rfl) rfl rfl ?_
      refine W.skip rfl rfl rfl (rfl) rfl rfl ?_
      refine W.skip rfl rfl rfl (rfl) rfl rfl ?_
      refine W.skip rfl rfl rfl (rfl) rfl rfl ?_
      refine W.any (.pickT rfl rfl rfl) rfl rfl rfl ?_
      refine W.any (.assign rfl) rfl rfl rfl ?_
      refine W.nil (E.thenN ?_)
      refine WC.condT rfl ?_
      refine WC.seq (WC.region ?_)
      refine W.any (.assign rfl) rfl rfl rfl ?_
      refine W.nil (E.thenN (WC.ret (E.blkR (E.thenR ?_))))
      have f36 := (f30.le h6_2)
      have f37 := (f29.le h6_2)
      have f38 := (f31.le h6_2)
      have f39 := (f32.le h6_2)
      refine E.retG1 rfl rfl ?_
      exact ⟨L33, .inr (.inr ⟨hco, _, hk1_5, .inr (.inl ⟨c2, (by omega), rfl, ⟨f37, f36, f38, f39, n1, n2, n3, n4, n5, n6⟩⟩)⟩)⟩
     ·refine W.any (.dec (.move rfl) (decide_eq_false q8_6)) rfl rfl rfl ?_
      refine W.rdg (Any.rd (.field0 fa44_2 rfl) _) rfl rfl rfl (rfl) rfl rfl ?_
      refine W.rdg (Any.rd (.idxAo (1) Tryz.underlying35 sz3 rfl rfl (rfl) (by omega)) _) rfl rfl rfl (rfl) rfl rfl ?_
      refine W.rdg (.loadB (v := .int .i64 (vhk1_5.h1)) na3 rfl f34 rfl) rfl rfl rfl (rfl) rfl rfl ?_
      refine W.rdg (Any.rd (.idxAo (1) Tryz.underlying35 sz3 rfl rfl (rfl) (by omega)) _) rfl rfl rfl (rfl) rfl rfl ?_
      refine W.rdg (.loadB (v := .int .i64 (fee.b)) na3 rfl f35 rfl) rfl rfl rfl (rfl) rfl rfl ?_
      refine W.rdg (Any.rd (.lss rfl rfl) _) rfl rfl rfl (rfl) rfl rfl ?_
      refine W.any (.pickF rfl rfl rfl) rfl rfl rfl ?_
      refine W.any (.assign rfl) rfl rfl rfl ?_
      refine W.nil (E.thenN ?_)
      by_cases c3 : vhk1_5.h1 < fee.b
      ·refine WC.condY rfl (decide_eq_true c3) ?_
       refine WC.seq (WC.region ?_)
       refine W.any (.assign rfl) rfl rfl rfl ?_
       refine W.nil (E.thenN (WC.ret (E.blkR (E.thenR ?_))))
       have f40 := (f30.le h6_2)
       have f41 := (f29.le h6_2)
       have f42 := (f31.le h6_2)
       have f43 := (f32.le h6_2)
       refine E.retG1 rfl rfl ?_
       exact ⟨L33, .inr (.inr ⟨hco, _, hk1_5, .inr (.inl ⟨c2, (by omega), rfl, ⟨f41, f40, f42, f43, n1, n2, n3, n4, n5, n6⟩⟩)⟩)⟩
      ·refine WC.condN rfl (decide_eq_false c3) ?_
       refine WC.skip (E.blkN (E.thenN (WC.seq (WC.seq (WC.region ?_)))))
       refine W.any (.move rfl) rfl rfl rfl ?_
       refine W.nil (E.thenN (WC.block ?_))
       have f44 := (f29.le h6_2)
       have f45 := (f30.le h6_2)
       have f46 := (f31.le h6_2)
       have f47 := (f32.le h6_2)
       refine WC.loop (ι := Nat) (fun k => [(0, .pointer (some ⟨gp, 0, none⟩)), (1, .int .i64 (ch)), (5, .pointer (some ⟨g0_0, 0, none⟩)), (7, .pointer (some ⟨g1_9_1, 0, none⟩)), (53, .int .i64 (((k : Nat) : Int)))]) (fun k wl0 => (k ≤ 2) ∧ ChP w wl0 (LF gp gs gh A c) ∧ w6_2.heap.size ≤ wl0.heap.size ∧ Blk wl0 gp 66 #[.slice A own.length c, .map (some gs), .map (some gh), .int .i64 ((backF lost fee k))] ∧ OVec wl0 0 3 iv 1 A own.length c (backO own vhk1_5 fee k) ∧ MapG wl0 ikf seatf gs ls cs ∧ MapG wl0 plf holdf gh lh ck ∧ Blk wl0 g0_0 35 (pairV fee).toArray ∧ Blk wl0 g1_9_1 44 (seatV vhk1_5).toArray) (fun k => 2 - k) 0 ?_ ?_ ?_
       ·exact .cons rfl (.cons rfl (.cons rfl (.cons rfl (.cons rfl (.nil _)))))
       ·exact ⟨Nat.zero_le _, L33, Nat.le_refl _, f44, f45, f46, f47, f35, f34⟩
       ·rintro k wl0 ⟨hk, Ll0, zl0, f0_0, f0_1, f0_2, f0_3, f0_4, f0_5⟩
        have hfl := backF_le (lost := lost) (fee := fee) hk hl hco.1 hco.2
        refine WC.seq (WC.region ?_)
        refine W.any (.lss rfl rfl) rfl rfl rfl ?_
        refine W.nil (E.thenN (WC.seq ?_))
        by_cases c4 : ((k : Nat) : Int) < 2
        ·refine WC.condY rfl (decide_eq_true c4) ?_
         refine WC.skip (E.thenN (WC.seq (WC.block (WC.seq (WC.region ?_)))))
         refine W.any (.move rfl) rfl rfl rfl ?_
         refine W.any (.assign rfl) rfl rfl rfl ?_
         refine W.nil (E.thenN ?_)
         refine WC.draw [0, 1, 2, 3, 4, 5, 6, 7, 8, 9, 10, 11] mixed (by kernel_rfl) ?_
         intro w13 d13
         have L48 := Ll0.le d13
         refine G.any rfl rfl (.move rfl) rfl rfl rfl ?_
         have f49 := (f0_5.le d13)
         refine G.rd rfl rfl (.loadAll ag44 (by rfl) rfl f49) rfl rfl rfl ?_
         refine G.any rfl rfl (.move rfl) rfl rfl rfl ?_
         refine G.any rfl rfl (.move rfl) rfl rfl rfl ?_
         refine G.any rfl rfl (.field0 fa44_2 rfl) rfl rfl rfl ?_
         refine G.any rfl rfl (.idxAo (k) Tryz.underlying35 sz3 rfl rfl (rfl) (by omega)) rfl rfl rfl ?_
         refine G.rd rfl rfl (.loadB (v := .int .i64 ((vhk1_5.h k))) na3 rfl f49 (seatH_at vhk1_5 (by omega))) rfl rfl rfl ?_
         refine G.any rfl rfl (.negI Tryz.underlying3 rfl (by have := (seatOk_at hso (k := k) (by omega)).2; omega)) rfl rfl rfl ?_
         refine G.any rfl rfl (.move rfl) rfl rfl rfl ?_
         refine G.any rfl rfl (.idxAo (k) Tryz.underlying35 sz3 rfl rfl (rfl) (by omega)) rfl rfl rfl ?_
         have f50 := (f0_4.le d13)
         refine G.rd rfl rfl (.loadB (v := .int .i64 ((fee.ix k))) na3 rfl f50 (pair_at fee (by omega))) rfl rfl rfl ?_
         have f51 := (f0_0.le d13)
         have f52 := (f0_1.le d13)
         refine G.ef rfl rfl rfl rfl rfl ?_
         refine Ef.call go46 rfl rfl (give_ok (own := (backO own vhk1_5 fee k)) (lost := (backF lost fee k)) vhk1_5 k (-(vhk1_5.h k)) (fee.ix k) w13 f51 f52 n4 (by omega) ((seatOk_at hso (by omega)).1) (by have := (seatOk_at hso (k := k) (by omega)).2; omega) (by unfold Pair.ix; split; exact hco.1; exact hco.2) (by rw [backO_at (by omega) hso.1.1 hso.2.1.1 hso.2.2.1]; have := hw (vhk1_5.p k).toNat; omega) (by omega)) ?_
         rintro _ w13_11 ⟨rfl, bp13_11, bo13_11, h13_11⟩
         refine ⟨_, rfl, ?_⟩
         refine ⟨fun h => absurd h (ne_true_of_eq_false (by kernel_rfl)), ?_⟩
         have L53 := L48.sub h13_11 (fun i hi hlt => Or.elim hi (fun hi => (by subst hi; exact Or.inl rfl)) (fun hi => ((fun i hi => Or.inr (Or.inr (Or.inr hi))) i hi)))
         refine G.nil (E.blkN (E.thenN (WC.region ?_)))
         refine W.any (.add rfl rfl (by omega)) rfl rfl rfl ?_
         refine W.any (.move rfl) rfl rfl rfl ?_
         refine W.nil ?_
         have f54 := ((f0_2.le d13).chP h13_11 (fun hF => Or.elim hF (fun hF => (Ne.symm n1) hF) (fun hF => n5 hF)))
         have f55 := ((f0_3.le d13).chP h13_11 (fun hF => Or.elim hF (fun hF => (Ne.symm n2) hF) (fun hF => n6 hF)))
         have f56 := (f50.chP h13_11 (fun hF => Or.elim hF (fun hF => (show g0_0 ≠ gp from by have := hp0.lt; omega) hF) (fun hF => (fun he => by have := (hO0.row he).2; omega) hF)))
         have f57 := (f49.chP h13_11 (fun hF => Or.elim hF (fun hF => (show g1_9_1 ≠ gp from by have := f2.lt; omega) hF) (fun hF => (fun he => by have := (hO0.row he).2; have := h0_0.size; omega) hF)))
         refine E.again (k + 1) (.cons rfl (.cons rfl (.cons rfl (.cons rfl (.cons rfl (.nil _)))))) ?_ ?_
         ·exact ⟨by omega, L53, by have := zl0; have := d13.size; have := h13_11.size; omega, bp13_11, bo13_11, f54, f55, f56, f57⟩
         ·first | omega | (simp only []; omega)
        ·refine WC.condN rfl (decide_eq_false c4) ?_
         refine WC.exit (E.thenX (E.thenX (E.blkH (E.thenN (WC.seq (WC.region ?_))))))
         refine W.any (.move rfl) rfl rfl rfl ?_
         refine W.any (.nilCheck rfl) rfl rfl rfl ?_
         refine W.any (.field0 fa66_1 rfl) rfl rfl rfl ?_
         refine W.rd (.loadB (v := .map (some gs)) na63 rfl f0_0 rfl) rfl rfl rfl ?_
         refine W.any (.move rfl) rfl rfl rfl ?_
         refine W.ef0 rfl rfl ?_
         refine Ef.deleteG (key := ch) Tryz.underlying63 kint rfl rfl f0_2 ?_
         intro w15_5 b15_5 h15_5
         have L58 : ChP w w15_5 (LF gp gs gh A c) := Ll0.ch h15_5 (fun i hi _ => by cases hi; exact Or.inr (Or.inl rfl))
         refine W.nil (E.thenN (WC.seq (WC.region ?_)))
         refine W.any (.assign rfl) rfl rfl rfl ?_
         refine W.nil (E.thenN (WC.ret ?_))
         have f59 := (f0_1.ch h15_5 (fun q hq => by cases hq; exact n5))
         have f60 := (f0_0.ch h15_5 (fun h => (Ne.symm n1) (Option.some.inj h)))
         have f61 := (f0_3.ch h15_5 (fun h => n3 (Option.some.inj h)))
         refine E.retG1 rfl rfl ?_
         have ek : k = 2 := (by omega); subst ek; exact ⟨L58, .inr (.inr ⟨hco, _, hk1_5, .inr (.inr ⟨c2, (by omega), rfl, ⟨(by rw [backO_len]; exact f60), (by rw [backO_len]; exact f59), b15_5, f61, n1, n2, n3, n4, n5, n6⟩⟩)⟩)⟩
    ·refine WC.condY rfl (congrArg not (decide_eq_false c2)) ?_
     refine WC.seq (WC.region ?_)
     refine W.any (.assign rfl) rfl rfl rfl ?_
     refine W.nil (E.thenN (WC.ret (E.blkR (E.thenR ?_))))
     have f62 := (f30.le h6_2)
     have f63 := (f29.le h6_2)
     have f64 := (f31.le h6_2)
     have f65 := (f32.le h6_2)
     refine E.retG1 rfl rfl ?_
     exact ⟨L33, .inr (.inr ⟨hco, _, hk1_5, .inl ⟨c2, rfl, ⟨f63, f62, f64, f65, n1, n2, n3, n4, n5, n6⟩⟩⟩)⟩
   ·refine WC.condY rfl (congrArg not ((Bool.eq_false_iff.2 c0))) ?_
    refine WC.seq (WC.region ?_)
    refine W.any (.assign rfl) rfl rfl rfl ?_
    refine W.nil (E.thenN (WC.ret (E.blkR (E.thenR ?_))))
    have f66 := (((hO0.le (h0_0.trans h1_9_1)).ch h1_10_1 (fun q hq => by cases hq; exact (fun he => by have := (hO0.row he).2; have := h0_0.size; omega))).le (h2_2_1.trans h2_7_1))
    have f67 := (((f2.le h1_9_1).ch h1_10_1 (fun h => (show g1_9_1 ≠ gp from by have := f2.lt; omega) (Option.some.inj h))).le (h2_2_1.trans h2_7_1))
    have f68 := (((f22.le h1_9_1).ch h1_10_1 (fun h => (show g1_9_1 ≠ gs from by have := f22.lt; omega) (Option.some.inj h))).le (h2_2_1.trans h2_7_1))
    have f69 := (((hH0.le (h0_0.trans h1_9_1)).ch h1_10_1 (fun h => (show g1_9_1 ≠ gh from by have := hH0.lt; have := h0_0.size; omega) (Option.some.inj h))).le (h2_2_1.trans h2_7_1))
    refine E.retG1 rfl rfl ?_
    exact ⟨L28, .inl ⟨(fun h => by first | (exact absurd (coin_iff.2 h.1) (by assumption)) | (exact absurd (coin_iff.2 h.2) (by assumption))), rfl, ⟨f67, f66, f68, f69, n1, n2, n3, n4, n5, n6⟩⟩⟩
  ·refine W.any (.dec (.move rfl) (congrArg not ((Bool.eq_false_iff.2 q2_4)))) rfl rfl rfl ?_
   refine W.skip rfl rfl rfl (rfl) rfl rfl ?_
   refine W.skip rfl rfl rfl (rfl) rfl rfl ?_
   refine W.skip rfl rfl rfl (rfl) rfl rfl ?_
   refine W.skip rfl rfl rfl (rfl) rfl rfl ?_
   refine W.any (.pickT rfl rfl rfl) rfl rfl rfl ?_
   refine W.any (.assign rfl) rfl rfl rfl ?_
   refine W.nil (E.thenN ?_)
   refine WC.condT rfl ?_
   refine WC.seq (WC.region ?_)
   refine W.any (.assign rfl) rfl rfl rfl ?_
   refine W.nil (E.thenN (WC.ret (E.blkR (E.thenR ?_))))
   have f70 := (((hO0.le (h0_0.trans h1_9_1)).ch h1_10_1 (fun q hq => by cases hq; exact (fun he => by have := (hO0.row he).2; have := h0_0.size; omega))).le h2_2_1)
   have f71 := (((f2.le h1_9_1).ch h1_10_1 (fun h => (show g1_9_1 ≠ gp from by have := f2.lt; omega) (Option.some.inj h))).le h2_2_1)
   have f72 := (((f22.le h1_9_1).ch h1_10_1 (fun h => (show g1_9_1 ≠ gs from by have := f22.lt; omega) (Option.some.inj h))).le h2_2_1)
   have f73 := (((hH0.le (h0_0.trans h1_9_1)).ch h1_10_1 (fun h => (show g1_9_1 ≠ gh from by have := hH0.lt; have := h0_0.size; omega) (Option.some.inj h))).le h2_2_1)
   refine E.retG1 rfl rfl ?_
   exact ⟨L26, .inl ⟨(fun h => by first | (exact absurd (coin_iff.2 h.1) (by assumption)) | (exact absurd (coin_iff.2 h.2) (by assumption))), rfl, ⟨f71, f70, f72, f73, n1, n2, n3, n4, n5, n6⟩⟩⟩
end Go.Proofs.YtmgfgbplbemklaaGreat

namespace Go.Proofs.YtmgfgbplbemklaaGreat
open Go Go.Sx Go.Num Go.Gsp Go.Lsp
set_option maxRecDepth 20000
set_option linter.unusedSimpArgs false
set_option linter.unusedVariables false
theorem coin_max {d : Int} : coinL (max d (negW d)) = true ↔ -1125899906842624 ≤ d ∧ d ≤ 1125899906842624 := by
  rw [coin_iff]
  unfold negW
  split <;> omega
theorem lsplice_ok {gp gs gh c cs ck : Nat} {A : Option Addr} {own : List Int} {ls : SM} {lh : HM} {lost : Int} (ch : Int) (d fee : Pair) (w : World) (hL : LedL w gp gs gh A c cs ck own ls lh lost) (hd : ∀ k, k < 2 → -9223372036854775808 ≤ d.ix k ∧ d.ix k ≤ 9223372036854775807) (hs : ∀ x ∈ ls, seatOk own.length x.2.2) (hw : ∀ i, 0 ≤ own.getD i 0 ∧ own.getD i 0 ≤ 1125899906842624) (hl : 0 ≤ lost ∧ lost ≤ 1125899906842624) : Calls Tryz.prog 21 #[.pointer (some ⟨gp, 0, none⟩), .int .i64 (ch), .agg (pairV d).toArray, .agg (pairV fee).toArray] w fun r w' => ChP w w' (LF gp gs gh A c) ∧ ((¬ spOk d fee ∧ r = .returned (.int .i64 1) ∧ LedL w' gp gs gh A c cs ck own ls lh lost) ∨ (spOk d fee ∧ getG ch ls = none ∧ r = .returned (.int .i64 5) ∧ LedL w' gp gs gh A c cs ck own ls lh lost) ∨ (spOk d fee ∧ ∃ s, getG ch ls = some s ∧ (((∃ k, k < 2 ∧ spNo own s d fee k) ∧ r = .returned (.int .i64 8) ∧ LedL w' gp gs gh A c cs ck own ls lh lost) ∨ ((∀ k, k < 2 → ¬ spNo own s d fee k) ∧ r = .returned (.int .i64 0) ∧ LedL w' gp gs gh A c cs ck (spO own (addK s d 2) d fee 2) (updM ch (addK s d 2) ls) lh (backF lost fee 2))))) := by
 have hp0 := hL.hp
 have hO0 := hL.hO
 have hS0 := hL.hS
 have hH0 := hL.hH
 have n1 := hL.ps
 have n2 := hL.ph
 have n3 := hL.sh
 have n4 := hL.op
 have n5 := hL.os
 have n6 := hL.oh
 refine enter Tryz.func21 rfl rfl ?_
 have L0 := ChP.refl w (LF gp gs gh A c)
 refine WC.seq (WC.region ?_)
 refine W.ef rfl rfl rfl ?_
 refine Ef.boxA rfl ?_
 intro g0_0 w0_0 hg0_0 b0_0 h0_0
 have L1 := L0.le h0_0
 have b0_0 : Blk w0_0 g0_0 35 (pairV d).toArray := b0_0
 refine W.ef rfl rfl rfl ?_
 refine Ef.boxA rfl ?_
 intro g0_1 w0_1 hg0_1 b0_1 h0_1
 have L2 := L1.le h0_1
 have b0_1 : Blk w0_1 g0_1 35 (pairV fee).toArray := b0_1
 refine W.any (.assign rfl) rfl rfl rfl ?_
 refine W.nil (E.thenN (WC.seq (WC.seq (WC.region ?_))))
 have f3 := (b0_0.le h0_1)
 refine W.rd (.loadAll ag35 (by rfl) rfl f3) rfl rfl rfl ?_
 refine W.any (.move rfl) rfl rfl rfl ?_
 refine W.nil (E.thenN (WC.block ?_))
 have f4 := (hp0.le (h0_0.trans h0_1))
 have f5 := (hO0.le (h0_0.trans h0_1))
 have f6 := (hS0.le (h0_0.trans h0_1))
 have f7 := (hH0.le (h0_0.trans h0_1))
 refine WC.loop (ι := Nat) (fun k => [(0, .pointer (some ⟨gp, 0, none⟩)), (1, .int .i64 (ch)), (6, .pointer (some ⟨g0_0, 0, none⟩)), (7, .pointer (some ⟨g0_1, 0, none⟩)), (17, .agg (pairV d).toArray), (18, .int .i64 (((k : Nat) : Int)))]) (fun k wl0 => (k ≤ 2) ∧ (∀ i, i < k → (-1125899906842624 ≤ d.ix i ∧ d.ix i ≤ 1125899906842624) ∧ 0 ≤ fee.ix i ∧ fee.ix i ≤ 1125899906842624) ∧ ChP w wl0 (LF gp gs gh A c) ∧ w0_1.heap.size ≤ wl0.heap.size ∧ Blk wl0 gp 66 #[.slice A own.length c, .map (some gs), .map (some gh), .int .i64 (lost)] ∧ OVec wl0 0 3 iv 1 A own.length c own ∧ MapG wl0 ikf seatf gs ls cs ∧ MapG wl0 plf holdf gh lh ck ∧ Blk wl0 g0_0 35 (pairV d).toArray ∧ Blk wl0 g0_1 35 (pairV fee).toArray) (fun k => 2 - k) 0 ?_ ?_ ?_
 ·exact .cons rfl (.cons rfl (.cons rfl (.cons rfl (.cons rfl (.cons rfl (.nil _))))))
 ·exact ⟨Nat.zero_le _, fun i hi => by omega, L2, Nat.le_refl _, f4, f5, f6, f7, f3, b0_1⟩
 ·rintro k wl0 ⟨hk, hall, Ll0, zl0, f0_0, f0_1, f0_2, f0_3, f0_4, f0_5⟩
  refine WC.seq (WC.region ?_)
  refine W.any (.lss rfl rfl) rfl rfl rfl ?_
  refine W.nil (E.thenN (WC.seq ?_))
  by_cases c0 : ((k : Nat) : Int) < 2
  ·refine WC.condY rfl (decide_eq_true c0) ?_
   refine WC.skip (E.thenN (WC.seq (WC.block (WC.seq (WC.region ?_)))))
   refine W.any (.move rfl) rfl rfl rfl ?_
   refine W.any (.index1 (v := .int .i64 ((d.ix k))) (k) Tryz.underlying35 sz3 na3 rfl rfl (rfl) (by omega) (pair_ix d (by omega))) rfl rfl rfl ?_
   refine W.any (.assign rfl) rfl rfl rfl ?_
   refine W.any (.assign rfl) rfl rfl rfl ?_
   refine W.nil (E.thenN (WC.seq (WC.region ?_)))
   refine W.any (.move rfl) rfl rfl rfl ?_
   refine W.any (.move rfl) rfl rfl rfl ?_
   refine W.any (.negW Tryz.underlying3 rfl (hd k (by omega))) rfl rfl rfl ?_
   refine W.rd (.max2 rfl rfl) rfl rfl rfl ?_
   refine W.ef rfl rfl rfl ?_
   refine Ef.call go45 rfl rfl (coin_ok (max (d.ix k) (negW (d.ix k))) wl0) ?_
   rintro _ w4_4 ⟨rfl, h4_4⟩
   refine ⟨_, rfl, ?_⟩
   have L8 := Ll0.le h4_4
   refine W.any (.not rfl) rfl rfl rfl ?_
   by_cases q4_6 : (coinL (max (d.ix k) (negW (d.ix k)))) = true
   ·refine W.any (.dec (.move rfl) (congrArg not (q4_6))) rfl rfl rfl ?_
    refine W.rdg (Any.rd (.move rfl) _) rfl rfl rfl (rfl) rfl rfl ?_
    refine W.rdg (Any.rd (.idxAo (k) Tryz.underlying35 sz3 rfl rfl (rfl) (by omega)) _) rfl rfl rfl (rfl) rfl rfl ?_
    have f9 := (f0_5.le h4_4)
    refine W.rdg (.loadB (v := .int .i64 ((fee.ix k))) na3 rfl f9 (pair_at fee (by omega))) rfl rfl rfl (rfl) rfl rfl ?_
    refine W.efg rfl rfl rfl (rfl) rfl rfl ?_
    refine Ef.call go45 rfl rfl (coin_ok (fee.ix k) w4_4) ?_
    rintro _ w4_10 ⟨rfl, h4_10⟩
    refine ⟨_, rfl, ?_⟩
    have L10 := L8.le h4_10
    refine W.rdg (Any.rd (.not rfl) _) rfl rfl rfl (rfl) rfl rfl ?_
    refine W.any (.pickF rfl rfl rfl) rfl rfl rfl ?_
    refine W.nil (E.thenN ?_)
    by_cases c1 : (coinL (fee.ix k)) = true
    ·refine WC.condN rfl (congrArg not (c1)) ?_
     refine WC.skip (E.blkN (E.thenN (WC.region ?_)))
     refine W.any (.add rfl rfl (by omega)) rfl rfl rfl ?_
     refine W.any (.move rfl) rfl rfl rfl ?_
     refine W.nil ?_
     have f11 := (f0_0.le (h4_4.trans h4_10))
     have f12 := (f0_1.le (h4_4.trans h4_10))
     have f13 := (f0_2.le (h4_4.trans h4_10))
     have f14 := (f0_3.le (h4_4.trans h4_10))
     have f15 := (f0_4.le (h4_4.trans h4_10))
     have f16 := (f9.le h4_10)
     refine E.again (k + 1) (.cons rfl (.cons rfl (.cons rfl (.cons rfl (.cons rfl (.cons rfl (.nil _))))))) ?_ ?_
     ·exact ⟨by omega, fun i hi => (Nat.lt_succ_iff_lt_or_eq.1 hi).elim (hall i) (fun hh => by subst hh; exact ⟨coin_max.1 (by assumption), coin_iff.1 (by assumption)⟩), L10, by have := zl0; have := h4_4.size; have := h4_10.size; omega, f11, f12, f13, f14, f15, f16⟩
     ·first | omega | (simp only []; omega)
    ·refine WC.condY rfl (congrArg not ((Bool.eq_false_iff.2 c1))) ?_
     refine WC.seq (WC.region ?_)
     refine W.any (.assign rfl) rfl rfl rfl ?_
     refine W.nil (E.thenN (WC.ret (E.blkR (E.thenR (E.thenR (E.blkR (E.thenR ?_)))))))
     have f17 := (f0_1.le (h4_4.trans h4_10))
     have f18 := (f0_0.le (h4_4.trans h4_10))
     have f19 := (f0_2.le (h4_4.trans h4_10))
     have f20 := (f0_3.le (h4_4.trans h4_10))
     refine E.retG1 rfl rfl ?_
     exact ⟨L10, .inl ⟨(fun h => by have hh := h k (by omega); first | (exact absurd (coin_max.2 hh.1) (by assumption)) | (exact absurd (coin_iff.2 hh.2) (by assumption))), rfl, ⟨f18, f17, f19, f20, n1, n2, n3, n4, n5, n6⟩⟩⟩
   ·refine W.any (.dec (.move rfl) (congrArg not ((Bool.eq_false_iff.2 q4_6)))) rfl rfl rfl ?_
    refine W.skip rfl rfl rfl (rfl) rfl rfl ?_
    refine W.skip rfl rfl rfl (rfl) rfl rfl ?_
    refine W.skip rfl rfl rfl (rfl) rfl rfl ?_
    refine W.skip rfl rfl rfl (rfl) rfl rfl ?_
    refine W.skip rfl rfl rfl (rfl) rfl rfl ?_
    refine W.any (.pickT rfl rfl rfl) rfl rfl rfl ?_
    refine W.nil (E.thenN ?_)
    refine WC.condT rfl ?_
    refine WC.seq (WC.region ?_)
    refine W.any (.assign rfl) rfl rfl rfl ?_
    refine W.nil (E.thenN (WC.ret (E.blkR (E.thenR (E.thenR (E.blkR (E.thenR ?_)))))))
    have f21 := (f0_1.le h4_4)
    have f22 := (f0_0.le h4_4)
    have f23 := (f0_2.le h4_4)
    have f24 := (f0_3.le h4_4)
    refine E.retG1 rfl rfl ?_
    exact ⟨L8, .inl ⟨(fun h => by have hh := h k (by omega); first | (exact absurd (coin_max.2 hh.1) (by assumption)) | (exact absurd (coin_iff.2 hh.2) (by assumption))), rfl, ⟨f22, f21, f23, f24, n1, n2, n3, n4, n5, n6⟩⟩⟩
  ·refine WC.condN rfl (decide_eq_false c0) ?_
   refine WC.exit (E.thenX (E.thenX (E.blkH (E.thenN (WC.seq (WC.region ?_))))))
   have hok : spOk d fee := fun i hi => hall i (by omega)
   refine W.any (.move rfl) rfl rfl rfl ?_
   refine W.any (.nilCheck rfl) rfl rfl rfl ?_
   refine W.any (.field0 fa66_1 rfl) rfl rfl rfl ?_
   refine W.rd (.loadB (v := .map (some gs)) na63 rfl f0_0 rfl) rfl rfl rfl ?_
   refine W.any (.move rfl) rfl rfl rfl ?_
   rcases optG (getG ch ls) with hk7_5 | ⟨vhk7_5, hk7_5⟩
   ·refine W.rd (.as (.lookup2 (key := ch) Tryz.underlying63 kint z44 rfl rfl f0_2) (by rw [hk7_5] <;> rfl)) rfl rfl rfl ?_
    refine W.any (.move rfl) rfl rfl rfl ?_
    refine W.any (.extract (v := .agg (seatV noSeat).toArray) rfl rfl) rfl rfl rfl ?_
    refine W.any (.extract (v := .bool false) rfl rfl) rfl rfl rfl ?_
    refine W.ef rfl rfl rfl ?_
    refine Ef.allocA z44 ?_
    intro g7_9 w7_9 hg7_9 b7_9 h7_9
    have L25 := Ll0.le h7_9
    have b7_9 : Blk w7_9 g7_9 44 (seatV noSeat).toArray := b7_9
    refine W.ef0 rfl rfl ?_
    refine Ef.storeAll sz44 (by rfl) rfl rfl b7_9 (by simp only [List.size_toArray, seatV_row.len]) (seatV_row.one noSeat) ?_
    intro w7_10 b7_10 h7_10
    have b7_10 : Blk w7_10 g7_9 44 (seatV noSeat).toArray := b7_10
    have L26 : ChP w w7_10 (LF gp gs gh A c) := L25.ch h7_10 (fun i hi hlt => by cases hi; exact absurd hlt (by have := Ll0.size; have := hg7_9; omega))
    refine W.any (.assign rfl) rfl rfl rfl ?_
    refine W.nil (E.thenN (WC.seq (WC.seq (WC.region ?_))))
    refine W.any (.move rfl) rfl rfl rfl ?_
    refine W.any (.not rfl) rfl rfl rfl ?_
    refine W.nil (E.thenN ?_)
    refine WC.condT rfl ?_
    refine WC.seq (WC.region ?_)
    refine W.any (.assign rfl) rfl rfl rfl ?_
    refine W.nil (E.thenN (WC.ret (E.thenR ?_)))
    have f27 := ((f0_1.le h7_9).ch h7_10 (fun q hq => by cases hq; exact (fun he => by have := (f0_1.row he).2; omega)))
    have f28 := ((f0_0.le h7_9).ch h7_10 (fun h => (show g7_9 ≠ gp from by have := f0_0.lt; omega) (Option.some.inj h)))
    have f29 := ((f0_2.le h7_9).ch h7_10 (fun h => (show g7_9 ≠ gs from by have := f0_2.lt; omega) (Option.some.inj h)))
    have f30 := ((f0_3.le h7_9).ch h7_10 (fun h => (show g7_9 ≠ gh from by have := f0_3.lt; omega) (Option.some.inj h)))
    refine E.retG1 rfl rfl ?_
    exact ⟨L26, .inr (.inl ⟨hok, hk7_5, rfl, ⟨f28, f27, f29, f30, n1, n2, n3, n4, n5, n6⟩⟩)⟩
   ·obtain ⟨bh, hbh⟩ := getG_mem hk7_5
    have hso : seatOk own.length vhk7_5 := hs _ hbh
    refine W.rd (.as (.lookup2 (key := ch) Tryz.underlying63 kint z44 rfl rfl f0_2) (by rw [hk7_5] <;> rfl)) rfl rfl rfl ?_
    refine W.any (.move rfl) rfl rfl rfl ?_
    refine W.any (.extract (v := .agg (seatV vhk7_5).toArray) rfl rfl) rfl rfl rfl ?_
    refine W.any (.extract (v := .bool true) rfl rfl) rfl rfl rfl ?_
    refine W.ef rfl rfl rfl ?_
    refine Ef.allocA z44 ?_
    intro g7_9_1 w7_9_1 hg7_9_1 b7_9_1 h7_9_1
    have L31 := Ll0.le h7_9_1
    have b7_9_1 : Blk w7_9_1 g7_9_1 44 (seatV noSeat).toArray := b7_9_1
    refine W.ef0 rfl rfl ?_
    refine Ef.storeAll sz44 (by rfl) rfl rfl b7_9_1 (by simp only [List.size_toArray, seatV_row.len]) (seatV_row.one vhk7_5) ?_
    intro w7_10_1 b7_10_1 h7_10_1
    have b7_10_1 : Blk w7_10_1 g7_9_1 44 (seatV vhk7_5).toArray := b7_10_1
    have L32 : ChP w w7_10_1 (LF gp gs gh A c) := L31.ch h7_10_1 (fun i hi hlt => by cases hi; exact absurd hlt (by have := Ll0.size; have := hg7_9_1; omega))
    refine W.any (.assign rfl) rfl rfl rfl ?_
    refine W.nil (E.thenN (WC.seq (WC.seq (WC.region ?_))))
    refine W.any (.move rfl) rfl rfl rfl ?_
    refine W.any (.not rfl) rfl rfl rfl ?_
    refine W.nil (E.thenN ?_)
    refine WC.condF rfl ?_
    refine WC.skip (E.thenN (WC.seq (WC.seq (WC.region ?_))))
    have f33 := ((f0_4.le h7_9_1).ch h7_10_1 (fun h => (show g7_9_1 ≠ g0_0 from by have := f0_4.lt; omega) (Option.some.inj h)))
    refine W.rd (.loadAll ag35 (by rfl) rfl f33) rfl rfl rfl ?_
    refine W.any (.move rfl) rfl rfl rfl ?_
    refine W.nil (E.thenN (WC.block ?_))
    have f34 := ((f0_0.le h7_9_1).ch h7_10_1 (fun h => (show g7_9_1 ≠ gp from by have := f0_0.lt; omega) (Option.some.inj h)))
    have f35 := ((f0_1.le h7_9_1).ch h7_10_1 (fun q hq => by cases hq; exact (fun he => by have := (f0_1.row he).2; omega)))
    have f36 := ((f0_2.le h7_9_1).ch h7_10_1 (fun h => (show g7_9_1 ≠ gs from by have := f0_2.lt; omega) (Option.some.inj h)))
    have f37 := ((f0_3.le h7_9_1).ch h7_10_1 (fun h => (show g7_9_1 ≠ gh from by have := f0_3.lt; omega) (Option.some.inj h)))
    have f38 := ((f0_5.le h7_9_1).ch h7_10_1 (fun h => (show g7_9_1 ≠ g0_1 from by have := f0_5.lt; omega) (Option.some.inj h)))
    refine WC.loop (ι := Nat) (fun k2 => [(0, .pointer (some ⟨gp, 0, none⟩)), (1, .int .i64 (ch)), (6, .pointer (some ⟨g0_0, 0, none⟩)), (7, .pointer (some ⟨g0_1, 0, none⟩)), (11, .pointer (some ⟨g7_9_1, 0, none⟩)), (47, .agg (pairV d).toArray), (48, .int .i64 (((k2 : Nat) : Int)))]) (fun k2 wl1 => (k2 ≤ 2) ∧ (∀ i, i < k2 → ¬ spNo own vhk7_5 d fee i) ∧ ChP w wl1 (LF gp gs gh A c) ∧ w7_10_1.heap.size ≤ wl1.heap.size ∧ Blk wl1 gp 66 #[.slice A own.length c, .map (some gs), .map (some gh), .int .i64 (lost)] ∧ OVec wl1 0 3 iv 1 A own.length c own ∧ MapG wl1 ikf seatf gs ls cs ∧ MapG wl1 plf holdf gh lh ck ∧ Blk wl1 g0_0 35 (pairV d).toArray ∧ Blk wl1 g0_1 35 (pairV fee).toArray ∧ Blk wl1 g7_9_1 44 (seatV (addK vhk7_5 d k2)).toArray) (fun k2 => 2 - k2) 0 ?_ ?_ ?_
    ·exact .cons rfl (.cons rfl (.cons rfl (.cons rfl (.cons rfl (.cons rfl (.cons rfl (.nil _)))))))
    ·exact ⟨Nat.zero_le _, fun i hi => by omega, L32, Nat.le_refl _, f34, f35, f36, f37, f33, f38, b7_10_1⟩
    ·rintro k2 wl1 ⟨hk2, hno, Ll1, zl1, f1_0, f1_1, f1_2, f1_3, f1_4, f1_5, f1_6⟩
     have hd2 := hok k2
     have hse := fun h => (seatOk_at hso (k := k2) h)
     refine WC.seq (WC.region ?_)
     refine W.any (.lss rfl rfl) rfl rfl rfl ?_
     refine W.nil (E.thenN (WC.seq ?_))
     by_cases c3 : ((k2 : Nat) : Int) < 2
     ·refine WC.condY rfl (decide_eq_true c3) ?_
      refine WC.skip (E.thenN (WC.seq (WC.block (WC.seq (WC.region ?_)))))
      refine W.any (.move rfl) rfl rfl rfl ?_
      refine W.any (.index1 (v := .int .i64 ((d.ix k2))) (k2) Tryz.underlying35 sz3 na3 rfl rfl (rfl) (by omega) (pair_ix d (by omega))) rfl rfl rfl ?_
      refine W.any (.assign rfl) rfl rfl rfl ?_
      refine W.any (.assign rfl) rfl rfl rfl ?_
      refine W.nil (E.thenN (WC.seq (WC.region ?_)))
      refine W.any (.move rfl) rfl rfl rfl ?_
      refine W.any (.field0 fa44_2 rfl) rfl rfl rfl ?_
      refine W.any (.idxAo (k2) Tryz.underlying35 sz3 rfl rfl (rfl) (by omega)) rfl rfl rfl ?_
      refine W.rd (.loadB (v := .int .i64 (((addK vhk7_5 d k2).h k2))) na3 rfl f1_6 (seatH_at (addK vhk7_5 d k2) (by omega))) rfl rfl rfl ?_
      refine W.any (.move rfl) rfl rfl rfl ?_
      refine W.any (.add rfl rfl (by rw [addK_h (by omega)]; have := hse (by omega); have := hd2 (by omega); omega)) rfl rfl rfl ?_
      refine W.any (.field0 fa44_2 rfl) rfl rfl rfl ?_
      refine W.any (.idxAo (k2) Tryz.underlying35 sz3 rfl rfl (rfl) (by omega)) rfl rfl rfl ?_
      refine W.ef0 rfl rfl ?_
      refine Ef.store sz3 rfl rfl f1_6 (by simp [seatV_row.len, -List.getD_eq_getElem?_getD]; omega) rfl ?_
      intro w13_8 b13_8 h13_8
      have b13_8 : Blk w13_8 g7_9_1 44 (seatV ((addK vhk7_5 d k2).setH k2 (((addK vhk7_5 d k2).h k2) + (d.ix k2)))).toArray := b13_8.cast (seatH_set (addK vhk7_5 d k2) (((addK vhk7_5 d k2).h k2) + (d.ix k2)) (by omega))
      have L39 : ChP w w13_8 (LF gp gs gh A c) := Ll1.ch h13_8 (fun i hi hlt => by cases hi; exact absurd hlt (by have := Ll0.size; have := hg7_9_1; omega))
      refine W.nil (E.thenN (WC.seq ?_))
      refine WC.draw [0, 1, 2, 3, 4, 5, 6, 7, 8, 9, 10, 11, 12, 13, 14, 15, 16, 17, 18, 19, 20, 21, 22] mixed (by kernel_rfl) ?_
      intro w14 d14
      have L40 := L39.le d14
      refine G.any rfl rfl (.move rfl) rfl rfl rfl ?_
      refine G.any rfl rfl (.field0 fa44_2 rfl) rfl rfl rfl ?_
      refine G.any rfl rfl (.idxAo (k2) Tryz.underlying35 sz3 rfl rfl (rfl) (by omega)) rfl rfl rfl ?_
      have f41 := (b13_8.le d14)
      refine G.rd rfl rfl (.loadB (v := .int .i64 ((((addK vhk7_5 d k2).setH k2 (((addK vhk7_5 d k2).h k2) + (d.ix k2))).h k2))) na3 rfl f41 (seatH_at ((addK vhk7_5 d k2).setH k2 (((addK vhk7_5 d k2).h k2) + (d.ix k2))) (by omega))) rfl rfl rfl ?_
      refine G.any rfl rfl (.lss rfl rfl) rfl rfl rfl ?_
      by_cases q14_5 : (((addK vhk7_5 d k2).setH k2 (((addK vhk7_5 d k2).h k2) + (d.ix k2))).h k2) < 0
      ·refine G.any rfl rfl (.dec (.move rfl) (decide_eq_true q14_5)) rfl rfl rfl ?_
       refine G.skip rfl rfl rfl rfl (rfl) rfl rfl ?_
       refine G.skip rfl rfl rfl rfl (rfl) rfl rfl ?_
       refine G.skip rfl rfl rfl rfl (rfl) rfl rfl ?_
       refine G.skip rfl rfl rfl rfl (rfl) rfl rfl ?_
       refine G.skip rfl rfl rfl rfl (rfl) rfl rfl ?_
       refine G.skip rfl rfl rfl rfl (rfl) rfl rfl ?_
       refine G.skip rfl rfl rfl rfl (rfl) rfl rfl ?_
       refine G.skip rfl rfl rfl rfl (rfl) rfl rfl ?_
       refine G.skip rfl rfl rfl rfl (rfl) rfl rfl ?_
       refine G.skip rfl rfl rfl rfl (rfl) rfl rfl ?_
       refine G.skip rfl rfl rfl rfl (rfl) rfl rfl ?_
       refine G.skip rfl rfl rfl rfl (rfl) rfl rfl ?_
       refine G.skip rfl rfl rfl rfl (rfl) rfl rfl ?_
       refine G.skip rfl rfl rfl rfl (rfl) rfl rfl ?_
       refine G.skip rfl rfl rfl rfl (rfl) rfl rfl ?_
       refine G.skip rfl rfl rfl rfl (rfl) rfl rfl ?_
       refine G.any rfl rfl (.pickT rfl rfl rfl) rfl rfl rfl ?_
       refine G.nil (E.thenN ?_)
       refine WC.condT rfl ?_
       refine WC.seq (WC.region ?_)
       refine W.any (.assign rfl) rfl rfl rfl ?_
       refine W.nil (E.thenN (WC.ret (E.blkR (E.thenR (E.thenR (E.blkR (E.thenR ?_)))))))
       have f42 := ((f1_1.ch h13_8 (fun q hq => by cases hq; exact (fun he => by have := (f0_1.row he).2; omega))).le d14)
       have f43 := ((f1_0.ch h13_8 (fun h => (show g7_9_1 ≠ gp from by have := f0_0.lt; omega) (Option.some.inj h))).le d14)
       have f44 := ((f1_2.ch h13_8 (fun h => (show g7_9_1 ≠ gs from by have := f0_2.lt; omega) (Option.some.inj h))).le d14)
       have f45 := ((f1_3.ch h13_8 (fun h => (show g7_9_1 ≠ gh from by have := f0_3.lt; omega) (Option.some.inj h))).le d14)
       refine E.retG1 rfl rfl ?_
       exact ⟨L40, .inr (.inr ⟨hok, _, hk7_5, .inl ⟨⟨k2, by omega, (by unfold spNo; simp only [setH_h (show k2 < 2 by omega), addK_h (show k2 < 2 by omega), setH_p, addK_p] at *; omega)⟩, rfl, ⟨f43, f42, f44, f45, n1, n2, n3, n4, n5, n6⟩⟩⟩)⟩
      ·refine G.any rfl rfl (.dec (.move rfl) (decide_eq_false q14_5)) rfl rfl rfl ?_
       refine G.anyg rfl rfl (.move rfl) rfl rfl rfl (rfl) rfl rfl ?_
       refine G.anyg rfl rfl (.nilCheck rfl) rfl rfl rfl (rfl) rfl rfl ?_
       refine G.anyg rfl rfl (.field0 fa66_0 rfl) rfl rfl rfl (rfl) rfl rfl ?_
       have f46 := ((f1_0.ch h13_8 (fun h => (show g7_9_1 ≠ gp from by have := f0_0.lt; omega) (Option.some.inj h))).le d14)
       refine G.rdg rfl rfl (.loadB (v := .slice A own.length c) na22 rfl f46 rfl) rfl rfl rfl (rfl) rfl rfl ?_
       refine G.anyg rfl rfl (.move rfl) rfl rfl rfl (rfl) rfl rfl ?_
       refine G.anyg rfl rfl (.field0 fa44_1 rfl) rfl rfl rfl (rfl) rfl rfl ?_
       refine G.anyg rfl rfl (.idxAo (k2) Tryz.underlying35 sz3 rfl rfl (rfl) (by omega)) rfl rfl rfl (rfl) rfl rfl ?_
       refine G.rdg rfl rfl (.loadB (v := .int .i64 ((((addK vhk7_5 d k2).setH k2 (((addK vhk7_5 d k2).h k2) + (d.ix k2))).p k2))) na3 rfl f41 (seatP_at ((addK vhk7_5 d k2).setH k2 (((addK vhk7_5 d k2).h k2) + (d.ix k2))) (by omega))) rfl rfl rfl (rfl) rfl rfl ?_
       refine G.anyg rfl rfl (.idxS ((vhk7_5.p k2).toNat) Tryz.underlying22 sz3 rfl rfl (hO0.vec.isSome iv_row (by omega)) (by rw [setH_p, addK_p]; have := (hse (by omega)).1; omega) (by have := (hse (by omega)).1; omega)) rfl rfl rfl (rfl) rfl rfl ?_
       have f47 := ((f1_1.ch h13_8 (fun q hq => by cases hq; exact (fun he => by have := (f0_1.row he).2; omega))).le d14)
       refine G.rdg rfl rfl (.vone (v := .int .i64 ((own.getD ((vhk7_5.p k2).toNat) 0))) na3 rfl f47.vec iv_row (getS own 0 (by first | omega | (simp only [List.length_cons, List.length_nil]; omega))) rfl) rfl rfl rfl (rfl) rfl rfl ?_
       refine G.anyg rfl rfl (.move rfl) rfl rfl rfl (rfl) rfl rfl ?_
       refine G.anyg rfl rfl (.move rfl) rfl rfl rfl (rfl) rfl rfl ?_
       refine G.anyg rfl rfl (.idxAo (k2) Tryz.underlying35 sz3 rfl rfl (rfl) (by omega)) rfl rfl rfl (rfl) rfl rfl ?_
       have f48 := ((f1_5.ch h13_8 (fun h => (show g7_9_1 ≠ g0_1 from by have := f0_5.lt; omega) (Option.some.inj h))).le d14)
       refine G.rdg rfl rfl (.loadB (v := .int .i64 ((fee.ix k2))) na3 rfl f48 (pair_at fee (by omega))) rfl rfl rfl (rfl) rfl rfl ?_
       refine G.anyg rfl rfl (.add rfl rfl (by have := hd2 (by omega); omega)) rfl rfl rfl (rfl) rfl rfl ?_
       refine G.anyg rfl rfl (.lss rfl rfl) rfl rfl rfl (rfl) rfl rfl ?_
       refine G.any rfl rfl (.pickF rfl rfl rfl) rfl rfl rfl ?_
       refine G.nil (E.thenN ?_)
       by_cases c4 : (own.getD ((vhk7_5.p k2).toNat) 0) < ((d.ix k2) + (fee.ix k2))
       ·refine WC.condY rfl (decide_eq_true c4) ?_
        refine WC.seq (WC.region ?_)
        refine W.any (.assign rfl) rfl rfl rfl ?_
        refine W.nil (E.thenN (WC.ret (E.blkR (E.thenR (E.thenR (E.blkR (E.thenR ?_)))))))
        have f49 := ((f1_2.ch h13_8 (fun h => (show g7_9_1 ≠ gs from by have := f0_2.lt; omega) (Option.some.inj h))).le d14)
        have f50 := ((f1_3.ch h13_8 (fun h => (show g7_9_1 ≠ gh from by have := f0_3.lt; omega) (Option.some.inj h))).le d14)
        refine E.retG1 rfl rfl ?_
        exact ⟨L40, .inr (.inr ⟨hok, _, hk7_5, .inl ⟨⟨k2, by omega, (by unfold spNo; simp only [setH_h (show k2 < 2 by omega), addK_h (show k2 < 2 by omega), setH_p, addK_p] at *; omega)⟩, rfl, ⟨f46, f47, f49, f50, n1, n2, n3, n4, n5, n6⟩⟩⟩)⟩
       ·refine WC.condN rfl (decide_eq_false c4) ?_
        refine WC.skip (E.blkN (E.thenN (WC.region ?_)))
        refine W.any (.add rfl rfl (by omega)) rfl rfl rfl ?_
        refine W.any (.move rfl) rfl rfl rfl ?_
        refine W.nil ?_
        have f51 := ((f1_2.ch h13_8 (fun h => (show g7_9_1 ≠ gs from by have := f0_2.lt; omega) (Option.some.inj h))).le d14)
        have f52 := ((f1_3.ch h13_8 (fun h => (show g7_9_1 ≠ gh from by have := f0_3.lt; omega) (Option.some.inj h))).le d14)
        have f53 := ((f1_4.ch h13_8 (fun h => (show g7_9_1 ≠ g0_0 from by have := f0_4.lt; omega) (Option.some.inj h))).le d14)
        refine E.again (k2 + 1) (.cons rfl (.cons rfl (.cons rfl (.cons rfl (.cons rfl (.cons rfl (.cons rfl (.nil _)))))))) ?_ ?_
        ·exact ⟨by omega, fun i hi => (Nat.lt_succ_iff_lt_or_eq.1 hi).elim (hno i) (fun hh => by subst hh; unfold spNo; simp only [setH_h (show i < 2 by omega), addK_h (show i < 2 by omega), setH_p, addK_p] at *; omega), L40, by have := zl1; have := h13_8.size; have := d14.size; omega, f46, f47, f51, f52, f53, f48, f41⟩
        ·first | omega | (simp only []; omega)
     ·refine WC.condN rfl (decide_eq_false c3) ?_
      refine WC.exit (E.thenX (E.thenX (E.blkH (E.thenN (WC.seq (WC.seq (WC.region ?_)))))))
      refine W.rd (.loadAll ag35 (by rfl) rfl f1_4) rfl rfl rfl ?_
      refine W.any (.move rfl) rfl rfl rfl ?_
      refine W.nil (E.thenN (WC.block ?_))
      refine WC.loop (ι := Nat) (fun k3 => [(0, .pointer (some ⟨gp, 0, none⟩)), (1, .int .i64 (ch)), (7, .pointer (some ⟨g0_1, 0, none⟩)), (11, .pointer (some ⟨g7_9_1, 0, none⟩)), (84, .agg (pairV d).toArray), (85, .int .i64 (((k3 : Nat) : Int)))]) (fun k3 wl2 => (k3 ≤ 2) ∧ ChP w wl2 (LF gp gs gh A c) ∧ wl1.heap.size ≤ wl2.heap.size ∧ Blk wl2 gp 66 #[.slice A own.length c, .map (some gs), .map (some gh), .int .i64 ((backF lost fee k3))] ∧ OVec wl2 0 3 iv 1 A own.length c (spO own (addK vhk7_5 d k2) d fee k3) ∧ MapG wl2 ikf seatf gs ls cs ∧ MapG wl2 plf holdf gh lh ck ∧ Blk wl2 g0_1 35 (pairV fee).toArray ∧ Blk wl2 g7_9_1 44 (seatV (addK vhk7_5 d k2)).toArray) (fun k3 => 2 - k3) 0 ?_ ?_ ?_
      ·exact .cons rfl (.cons rfl (.cons rfl (.cons rfl (.cons rfl (.cons rfl (.nil _))))))
      ·exact ⟨Nat.zero_le _, Ll1, Nat.le_refl _, f1_0, f1_1, f1_2, f1_3, f1_5, f1_6⟩
      ·rintro k3 wl2 ⟨hk3, Ll2, zl2, f2_0, f2_1, f2_2, f2_3, f2_4, f2_5⟩
       have hfl := backF_le (lost := lost) (fee := fee) hk3 hl (hok 0 (by omega)).2 (hok 1 (by omega)).2
       refine WC.seq (WC.region ?_)
       refine W.any (.lss rfl rfl) rfl rfl rfl ?_
       refine W.nil (E.thenN (WC.seq ?_))
       by_cases c5 : ((k3 : Nat) : Int) < 2
       ·refine WC.condY rfl (decide_eq_true c5) ?_
        refine WC.skip (E.thenN (WC.seq (WC.block (WC.seq (WC.region ?_)))))
        refine W.any (.move rfl) rfl rfl rfl ?_
        refine W.any (.index1 (v := .int .i64 ((d.ix k3))) (k3) Tryz.underlying35 sz3 na3 rfl rfl (rfl) (by omega) (pair_ix d (by omega))) rfl rfl rfl ?_
        refine W.any (.assign rfl) rfl rfl rfl ?_
        refine W.any (.assign rfl) rfl rfl rfl ?_
        refine W.nil (E.thenN ?_)
        refine WC.draw [0, 1, 2, 3, 4, 5, 6, 7] mixed (by kernel_rfl) ?_
        intro w20 d20
        have L54 := Ll2.le d20
        refine G.any rfl rfl (.move rfl) rfl rfl rfl ?_
        have f55 := (f2_5.le d20)
        refine G.rd rfl rfl (.loadAll ag44 (by rfl) rfl f55) rfl rfl rfl ?_
        refine G.any rfl rfl (.move rfl) rfl rfl rfl ?_
        refine G.any rfl rfl (.move rfl) rfl rfl rfl ?_
        refine G.any rfl rfl (.move rfl) rfl rfl rfl ?_
        refine G.any rfl rfl (.idxAo (k3) Tryz.underlying35 sz3 rfl rfl (rfl) (by omega)) rfl rfl rfl ?_
        have f56 := (f2_4.le d20)
        refine G.rd rfl rfl (.loadB (v := .int .i64 ((fee.ix k3))) na3 rfl f56 (pair_at fee (by omega))) rfl rfl rfl ?_
        have f57 := (f2_0.le d20)
        have f58 := (f2_1.le d20)
        refine G.ef rfl rfl rfl rfl rfl ?_
        refine Ef.call go46 rfl rfl (give_ok (own := (spO own (addK vhk7_5 d k2) d fee k3)) (lost := (backF lost fee k3)) (addK vhk7_5 d k2) k3 (d.ix k3) (fee.ix k3) w20 f57 f58 n4 (by omega) (by rw [addK_p]; exact (seatOk_at hso (by omega)).1) (by have := (hok k3 (by omega)).1; omega) ((hok k3 (by omega)).2) (by rw [spO_at (by omega) (by rw [addK_p]; exact hso.1.1) (by rw [addK_p]; exact hso.2.1.1) (by rw [addK_p, addK_p]; exact hso.2.2.1)]; have := hw ((addK vhk7_5 d k2).p k3).toNat; omega) (by omega)) ?_
        rintro _ w20_7 ⟨rfl, bp20_7, bo20_7, h20_7⟩
        refine ⟨_, rfl, ?_⟩
        refine ⟨fun h => absurd h (ne_true_of_eq_false (by kernel_rfl)), ?_⟩
        have L59 := L54.sub h20_7 (fun i hi hlt => Or.elim hi (fun hi => (by subst hi; exact Or.inl rfl)) (fun hi => ((fun i hi => Or.inr (Or.inr (Or.inr hi))) i hi)))
        refine G.nil (E.blkN (E.thenN (WC.region ?_)))
        refine W.any (.add rfl rfl (by omega)) rfl rfl rfl ?_
        refine W.any (.move rfl) rfl rfl rfl ?_
        refine W.nil ?_
        have f60 := ((f2_2.le d20).chP h20_7 (fun hF => Or.elim hF (fun hF => (Ne.symm n1) hF) (fun hF => n5 hF)))
        have f61 := ((f2_3.le d20).chP h20_7 (fun hF => Or.elim hF (fun hF => (Ne.symm n2) hF) (fun hF => n6 hF)))
        have f62 := (f56.chP h20_7 (fun hF => Or.elim hF (fun hF => (show g0_1 ≠ gp from by have := hp0.lt; have := h0_0.size; omega) hF) (fun hF => (fun he => by have := (hO0.row he).2; have := h0_0.size; omega) hF)))
        have f63 := (f55.chP h20_7 (fun hF => Or.elim hF (fun hF => (show g7_9_1 ≠ gp from by have := f0_0.lt; omega) hF) (fun hF => (fun he => by have := (f0_1.row he).2; omega) hF)))
        refine E.again (k3 + 1) (.cons rfl (.cons rfl (.cons rfl (.cons rfl (.cons rfl (.cons rfl (.nil _))))))) ?_ ?_
        ·exact ⟨by omega, L59, by have := zl2; have := d20.size; have := h20_7.size; omega, bp20_7, bo20_7, f60, f61, f62, f63⟩
        ·first | omega | (simp only []; omega)
       ·refine WC.condN rfl (decide_eq_false c5) ?_
        refine WC.exit (E.thenX (E.thenX (E.blkH (E.thenN (WC.seq ?_)))))
        refine WC.draw [0, 1, 2, 3, 4, 5, 6] mixed (by kernel_rfl) ?_
        intro w22 d22
        have L64 := Ll2.le d22
        refine G.any rfl rfl (.move rfl) rfl rfl rfl ?_
        refine G.any rfl rfl (.nilCheck rfl) rfl rfl rfl ?_
        refine G.any rfl rfl (.field0 fa66_1 rfl) rfl rfl rfl ?_
        have f65 := (f2_0.le d22)
        refine G.rd rfl rfl (.loadB (v := .map (some gs)) na63 rfl f65 rfl) rfl rfl rfl ?_
        refine G.any rfl rfl (.move rfl) rfl rfl rfl ?_
        have f66 := (f2_5.le d22)
        refine G.rd rfl rfl (.loadAll ag44 (by rfl) rfl f66) rfl rfl rfl ?_
        have f67 := (f2_2.le d22)
        refine G.ef0 rfl rfl rfl rfl ?_
        refine Ef.updateG (key := ch) (u := (addK vhk7_5 d k2)) Tryz.underlying63 kint rfl rfl rfl f67 stay_i (hk7_5) ?_
        intro w22_6 b22_6 h22_6
        refine ⟨fun h => absurd h (ne_true_of_eq_false (by kernel_rfl)), ?_⟩
        have L68 : ChP w w22_6 (LF gp gs gh A c) := L64.ch h22_6 (fun i hi _ => by cases hi; exact Or.inr (Or.inl rfl))
        refine G.nil (E.thenN (WC.seq (WC.region ?_)))
        refine W.any (.assign rfl) rfl rfl rfl ?_
        refine W.nil (E.thenN (WC.ret ?_))
        have f69 := ((f2_1.le d22).ch h22_6 (fun q hq => by cases hq; exact n5))
        have f70 := (f65.ch h22_6 (fun h => (Ne.symm n1) (Option.some.inj h)))
        have f71 := ((f2_3.le d22).ch h22_6 (fun h => n3 (Option.some.inj h)))
        refine E.retG1 rfl rfl ?_
        have ek2 : k2 = 2 := (by omega); subst ek2; have ek : k3 = 2 := (by omega); subst ek; exact ⟨L68, .inr (.inr ⟨hok, _, hk7_5, .inr ⟨(fun i hi => hno i (by omega)), rfl, ⟨(by rw [spO_len]; exact f70), (by rw [spO_len]; exact f69), b22_6, f71, n1, n2, n3, n4, n5, n6⟩⟩⟩)⟩
end Go.Proofs.YtmgfgbplbemklaaGreat

