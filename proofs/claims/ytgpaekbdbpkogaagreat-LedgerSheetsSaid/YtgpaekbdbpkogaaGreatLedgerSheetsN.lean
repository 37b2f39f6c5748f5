/- LedgerSheets: for every input the law answers true and leaves its arguments as they were. -/
import Derived.Test.YtgpaekbdbpkogaaGreatLedgerSheetsM
set_option linter.unusedVariables false
set_option linter.unusedSimpArgs false
namespace Go.Proofs.YtgpaekbdbpkogaaGreat
open Tryz
open Go Go.Sx Go.Num Go.Gsp Go.Lsp
set_option maxRecDepth 20000
def pairV (d : Pair) : List Value := [.int .i64 d.a, .int .i64 d.b]
theorem pair_at (d : Pair) {j : Nat} (h : j < 2) : (pairV d).toArray[0 + j]? = some (.int .i64 (d.ix j)) := by
  have : j = 0 \/ j = 1 := by omega
  rcases this with rfl | rfl <;> rfl
theorem pair_ix (d : Pair) {j : Nat} (h : j < 2) : (pairV d).toArray[j]? = some (.int .i64 (d.ix j)) := by
  have : j = 0 \/ j = 1 := by omega
  rcases this with rfl | rfl <;> rfl
theorem ltotal_ok {gp gs gh c cs ck : Nat} {A : Option Addr} {own : List Int} {ls : SM} {lh : HM} {lost : Int} (w : World) (hL : LedL w gp gs gh A c cs ck own ls lh lost) (hb : ∀ x ∈ lh, 0 <= x.2.2.am) (hw : ∀ x ∈ ls, 0 <= x.2.2.h0 /\ 0 <= x.2.2.h1) (ho : ∀ i : Nat, 0 <= ownL own (i : Int)) (hn : own.length <= 1000) (ht : ∀ i : Nat, 0 <= worthL own ls lh (i : Int) /\ worthL own ls lh (i : Int) <= 2251799813685248) : Calls prog 19 #[.pointer (some ⟨gp, 0, none⟩)] w fun r w' => r = .returned (.int .i64 (totalL own ls lh own.length)) /\ Le w w' := by
 refine enter func19 rfl rfl ?_
 have L0 := Le.refl w
 refine WC.sr (W.run 1 rfl (W.nx (WC.sr (W.run 1 rfl (W.nx (WC.seq (WC.sr (W.run 1 rfl ?_))))))))
 refine W.a (.nilCheck rfl) ?_
 refine W.a (.field0 fa100_0 rfl) ?_
 refine W.r (.loadB (v := .slice A own.length c) na56 rfl (hL.hp.le L0) rfl) ?_
 refine W.r (.len underlying56 rfl) ?_
 refine W.run 1 rfl (W.nx (WC.block ?_))
 refine WC.loop (ι := Nat) (fun k => [(0, .pointer (some ⟨gp, 0, none⟩)), (3, .int .i64 ((totalL own ls lh k))), (9, .int .i64 (((own.length : Nat) : Int))), (10, .int .i64 (((k : Nat) : Int)))]) (fun k wl0 => (k <= own.length) /\ (0 <= totalL own ls lh k /\ totalL own ls lh k <= 2251799813685248 * k) /\ Le w wl0 /\ w.heap.size <= wl0.heap.size /\ MapG wl0 ikf seatf gs ls cs /\ MapG wl0 plf holdf gh lh ck) (fun k => own.length - k) 0 ?_ ?_ ?_
 ·exact .cons rfl (.cons' rfl (int_eq (by simp [totalL])) (.cons rfl (.cons rfl (.nil _))))
 ·exact ⟨Nat.zero_le _, by simp [totalL], L0, Nat.le_refl _, (hL.hS.le L0), (hL.hH.le L0)⟩
 rintro k wl0 ⟨hk, hs, Ll0, zl0, f0_0, f0_1⟩
 have htk := ht k
 refine WC.sr (W.run 1 rfl (W.nx (WC.seq ?_)))
 by_cases c0 : ((k : Nat) : Int) < ((own.length : Nat) : Int)
 ·refine WC.condY rfl (decide_eq_true c0) ?_
  refine WC.sn (WC.seq (WC.block (WC.sr (W.run 2 rfl (W.nx (WC.region (W.run 3 rfl ?_)))))))
  refine W.cl go17 rfl rfl (lworth_ok ((k : Nat) : Int) wl0 (hL.le Ll0) hb hw (ho k) (by omega)) ?_
  rintro _ w5_3 ⟨rfl, h5_3⟩
  have L1 := Ll0.trans h5_3
  refine W.a (.add rfl rfl (by omega)) ?_
  refine W.run 1 rfl (W.nil (E.blkN (E.thenN (WC.region ?_))))
  refine W.a (.add rfl rfl (by omega)) ?_
  refine W.run 1 rfl (W.nil ?_)
  have f2 := (f0_0.le h5_3)
  have f3 := (f0_1.le h5_3)
  refine E.again (k + 1) (.cons rfl (.cons' rfl (int_eq (by rw [totalL_next])) (.cons rfl (.cons rfl (.nil _))))) ?_ ?_
  ·exact ⟨by omega, by rw [totalL_next]; omega, L1, by have := zl0; have := h5_3.size; omega, f2, f3⟩
  first | omega | (simp only []; omega)
 refine WC.condN rfl (decide_eq_false c0) ?_
 refine WC.exit (E.thenX (E.thenX (E.blkH (E.thenN (WC.sr (W.run 2 rfl (W.nx (WC.ret ?_))))))))
 refine E.retG1 rfl rfl ?_
 have ek : k = own.length := (by omega); subst ek; exact ⟨rfl, Ll0⟩

theorem lclose_ok {gp gs gh c cs ck : Nat} {A : Option Addr} {own : List Int} {ls : SM} {lh : HM} {lost : Int} (ch : Int) (fee : Pair) (w : World) (hL : LedL w gp gs gh A c cs ck own ls lh lost) (hb : ∀ x ∈ lh, 0 <= x.2.2.am) (hq : ∀ ch side, heldL lh ch side <= 1125899906842624) (hs : ∀ x ∈ ls, seatOk own.length x.2.2) (hw : ∀ i, 0 <= own.getD i 0 /\ own.getD i 0 <= 1125899906842624) (hl : 0 <= lost /\ lost <= 1125899906842624) : Calls prog 23 #[.pointer (some ⟨gp, 0, none⟩), .int .i64 (ch), .agg (pairV fee).toArray] w fun r w' => ChP w w' (LF gp gs gh A c) /\ ((¬ ((0 <= fee.a /\ fee.a <= 1125899906842624) /\ 0 <= fee.b /\ fee.b <= 1125899906842624) /\ r = .returned (.int .i64 1) /\ LedL w' gp gs gh A c cs ck own ls lh lost) \/ (((0 <= fee.a /\ fee.a <= 1125899906842624) /\ 0 <= fee.b /\ fee.b <= 1125899906842624) /\ getG ch ls = none /\ r = .returned (.int .i64 5) /\ LedL w' gp gs gh A c cs ck own ls lh lost) \/ (((0 <= fee.a /\ fee.a <= 1125899906842624) /\ 0 <= fee.b /\ fee.b <= 1125899906842624) /\ ∃ s, getG ch ls = some s /\ ((¬ heldL lh ch 0 + heldL lh ch 1 = 0 /\ r = .returned (.int .i64 14) /\ LedL w' gp gs gh A c cs ck own ls lh lost) \/ (heldL lh ch 0 + heldL lh ch 1 = 0 /\ (s.h0 < fee.a \/ s.h1 < fee.b) /\ r = .returned (.int .i64 8) /\ LedL w' gp gs gh A c cs ck own ls lh lost) \/ (heldL lh ch 0 + heldL lh ch 1 = 0 /\ ¬ (s.h0 < fee.a \/ s.h1 < fee.b) /\ r = .returned (.int .i64 0) /\ LedL w' gp gs gh A c cs ck (backO own s fee 2) (delM ch ls) lh (backF lost fee 2))))) := by
 have hp0 := hL.hp
 have hO0 := hL.hO
 have hS0 := hL.hS
 have hH0 := hL.hH
 have n1 := hL.ps
 have n2 := hL.ph
 have n3 := hL.sh
 have n4 := hL.op
 have n5 := hL.os
 have n6 := hL.oh
 refine enter func23 rfl rfl ?_
 have L0 := ChP.refl w (LF gp gs gh A c)
 refine WC.sr (W.ef rfl rfl rfl ?_)
 refine Ef.boxA rfl ?_
 intro g0_0 w0_0 hg0_0 b0_0 h0_0
 have L1 := L0.le h0_0
 have b0_0 : Blk w0_0 g0_0 48 (pairV fee).toArray := b0_0
 refine W.run 1 rfl (W.nx (WC.sr (W.run 1 rfl ?_)))
 refine W.a (.nilCheck rfl) ?_
 refine W.a (.field0 fa100_1 rfl) ?_
 have f2 := (hp0.le h0_0)
 refine W.r (.loadB (v := .map (some gs)) na97 rfl f2 rfl) ?_
 refine W.run 1 rfl ?_
 rcases optG (getG ch ls) with hk1_5 | ⟨vhk1_5, hk1_5⟩
 ·have f3 := (hS0.le h0_0)
  refine W.r (.as (.lookup2 (key := ch) underlying97 kint z60 rfl rfl f3) (by rw [hk1_5] <;> rfl)) ?_
  refine W.run 1 rfl ?_
  refine W.a (.extract (v := .agg (seatV noSeat).toArray) rfl rfl) ?_
  refine W.run 1 rfl (W.ef rfl rfl rfl ?_)
  refine Ef.allocA z60 ?_
  intro g1_9 w1_9 hg1_9 b1_9 h1_9
  have L4 := L1.le h1_9
  have b1_9 : Blk w1_9 g1_9 60 (seatV noSeat).toArray := b1_9
  refine W.ef0 rfl rfl ?_
  refine Ef.storeAll sz60 (by rfl) rfl rfl b1_9 (by simp only [List.size_toArray, seatV_row.len]) (seatV_row.one noSeat) ?_
  intro w1_10 b1_10 h1_10
  have L5 : ChP w w1_10 (LF gp gs gh A c) := L4.ch h1_10 (fun i hi hlt => by cases hi; exact absurd hlt (by have := L1.size; have := hg1_9; omega))
  refine W.run 1 rfl (W.nx (WC.seq (WC.block (WC.sr ?_))))
  refine W.a (.idxAo (0) underlying48 sz3 rfl rfl (rfl) (by omega)) ?_
  have f6 := ((b0_0.le h1_9).ch h1_10 (fun h => (show g1_9 ≠ g0_0 from by have := b0_0.lt; omega) (oI h)))
  refine W.r (.loadB (v := .int .i64 (fee.a)) na3 rfl f6 rfl) ?_
  refine W.cl go36 rfl rfl (coin_ok fee.a w1_10) ?_
  rintro _ w2_2 ⟨rfl, h2_2⟩
  have L7 := L5.le h2_2
  refine W.run 1 rfl ?_
  by_cases q2_4 : (coinL fee.a) = true
  ·refine W.a (.dec (.move rfl) (congrArg not (q2_4))) ?_
   refine W.g (Any.rd (.idxAo (1) underlying48 sz3 rfl rfl (rfl) (by omega)) _) ?_
   have f8 := (f6.le h2_2)
   refine W.g (.loadB (v := .int .i64 (fee.b)) na3 rfl f8 rfl) ?_
   refine W.efg rfl rfl rfl (rfl) rfl rfl ?_
   refine Ef.call go36 rfl rfl (coin_ok fee.b w2_2) ?_
   rintro _ w2_7 ⟨rfl, h2_7⟩
   refine ⟨_, rfl, ?_⟩
   have L9 := L7.le h2_7
   refine W.run 3 rfl (W.nx ?_)
   by_cases c0 : (coinL fee.b) = true
   ·refine WC.condN rfl (congrArg not (c0)) ?_
    have hco : ((0 <= fee.a /\ fee.a <= 1125899906842624) /\ 0 <= fee.b /\ fee.b <= 1125899906842624) := ⟨coin_iff.1 (by assumption), coin_iff.1 (by assumption)⟩
    refine WC.sr (W.run 3 rfl (W.nx (WC.condT rfl (WC.sr (W.run 1 rfl (W.nx (WC.ret (E.blkR (E.thenR ?_)))))))))
    have f10 := (((hO0.le (h0_0.trans h1_9)).ch h1_10 (fun q hq => by cases hq; exact (fun he => by have := (hO0.row he).2; have := h0_0.size; omega))).le (h2_2.trans h2_7))
    have f11 := (((f2.le h1_9).ch h1_10 (fun h => (show g1_9 ≠ gp from by have := f2.lt; omega) (oI h))).le (h2_2.trans h2_7))
    have f12 := (((f3.le h1_9).ch h1_10 (fun h => (show g1_9 ≠ gs from by have := f3.lt; omega) (oI h))).le (h2_2.trans h2_7))
    have f13 := (((hH0.le (h0_0.trans h1_9)).ch h1_10 (fun h => (show g1_9 ≠ gh from by have := hH0.lt; have := h0_0.size; omega) (oI h))).le (h2_2.trans h2_7))
    refine E.retG1 rfl rfl ?_
    exact ⟨L9, .inr (.inl ⟨hco, hk1_5, rfl, ⟨f11, f10, f12, f13, n1, n2, n3, n4, n5, n6⟩⟩)⟩
   refine WC.condY rfl (congrArg not ((Bool.eq_false_iff.2 c0))) ?_
   refine WC.sr (W.run 1 rfl (W.nx (WC.ret (E.blkR (E.thenR ?_)))))
   have f14 := (((hO0.le (h0_0.trans h1_9)).ch h1_10 (fun q hq => by cases hq; exact (fun he => by have := (hO0.row he).2; have := h0_0.size; omega))).le (h2_2.trans h2_7))
   have f15 := (((f2.le h1_9).ch h1_10 (fun h => (show g1_9 ≠ gp from by have := f2.lt; omega) (oI h))).le (h2_2.trans h2_7))
   have f16 := (((f3.le h1_9).ch h1_10 (fun h => (show g1_9 ≠ gs from by have := f3.lt; omega) (oI h))).le (h2_2.trans h2_7))
   have f17 := (((hH0.le (h0_0.trans h1_9)).ch h1_10 (fun h => (show g1_9 ≠ gh from by have := hH0.lt; have := h0_0.size; omega) (oI h))).le (h2_2.trans h2_7))
   refine E.retG1 rfl rfl ?_
   exact ⟨L9, .inl ⟨(fun h => by first | (exact absurd (coin_iff.2 h.1) (by assumption)) | (exact absurd (coin_iff.2 h.2) (by assumption))), rfl, ⟨f15, f14, f16, f17, n1, n2, n3, n4, n5, n6⟩⟩⟩
  refine W.a (.dec (.move rfl) (congrArg not ((Bool.eq_false_iff.2 q2_4)))) ?_
  refine W.run 6 rfl (W.nx (WC.condT rfl (WC.sr (W.run 1 rfl (W.nx (WC.ret (E.blkR (E.thenR ?_))))))))
  have f18 := (((hO0.le (h0_0.trans h1_9)).ch h1_10 (fun q hq => by cases hq; exact (fun he => by have := (hO0.row he).2; have := h0_0.size; omega))).le h2_2)
  have f19 := (((f2.le h1_9).ch h1_10 (fun h => (show g1_9 ≠ gp from by have := f2.lt; omega) (oI h))).le h2_2)
  have f20 := (((f3.le h1_9).ch h1_10 (fun h => (show g1_9 ≠ gs from by have := f3.lt; omega) (oI h))).le h2_2)
  have f21 := (((hH0.le (h0_0.trans h1_9)).ch h1_10 (fun h => (show g1_9 ≠ gh from by have := hH0.lt; have := h0_0.size; omega) (oI h))).le h2_2)
  refine E.retG1 rfl rfl ?_
  exact ⟨L7, .inl ⟨(fun h => by first | (exact absurd (coin_iff.2 h.1) (by assumption)) | (exact absurd (coin_iff.2 h.2) (by assumption))), rfl, ⟨f19, f18, f20, f21, n1, n2, n3, n4, n5, n6⟩⟩⟩
 obtain ⟨bh, hbh⟩ := getG_mem hk1_5
 have hso : seatOk own.length vhk1_5 := hs _ hbh
 have f22 := (hS0.le h0_0)
 refine W.r (.as (.lookup2 (key := ch) underlying97 kint z60 rfl rfl f22) (by rw [hk1_5] <;> rfl)) ?_
 refine W.run 1 rfl ?_
 refine W.a (.extract (v := .agg (seatV vhk1_5).toArray) rfl rfl) ?_
 refine W.run 1 rfl (W.ef rfl rfl rfl ?_)
 refine Ef.allocA z60 ?_
 intro g1_9_1 w1_9_1 hg1_9_1 b1_9_1 h1_9_1
 have L23 := L1.le h1_9_1
 have b1_9_1 : Blk w1_9_1 g1_9_1 60 (seatV noSeat).toArray := b1_9_1
 refine W.ef0 rfl rfl ?_
 refine Ef.storeAll sz60 (by rfl) rfl rfl b1_9_1 (by simp only [List.size_toArray, seatV_row.len]) (seatV_row.one vhk1_5) ?_
 intro w1_10_1 b1_10_1 h1_10_1
 have b1_10_1 : Blk w1_10_1 g1_9_1 60 (seatV vhk1_5).toArray := b1_10_1
 have L24 : ChP w w1_10_1 (LF gp gs gh A c) := L23.ch h1_10_1 (fun i hi hlt => by cases hi; exact absurd hlt (by have := L1.size; have := hg1_9_1; omega))
 refine W.run 1 rfl (W.nx (WC.seq (WC.block (WC.sr ?_))))
 refine W.a (.idxAo (0) underlying48 sz3 rfl rfl (rfl) (by omega)) ?_
 have f25 := ((b0_0.le h1_9_1).ch h1_10_1 (fun h => (show g1_9_1 ≠ g0_0 from by have := b0_0.lt; omega) (oI h)))
 refine W.r (.loadB (v := .int .i64 (fee.a)) na3 rfl f25 rfl) ?_
 refine W.cl go36 rfl rfl (coin_ok fee.a w1_10_1) ?_
 rintro _ w2_2_1 ⟨rfl, h2_2_1⟩
 have L26 := L24.le h2_2_1
 refine W.run 1 rfl ?_
 by_cases q2_4 : (coinL fee.a) = true
 ·refine W.a (.dec (.move rfl) (congrArg not (q2_4))) ?_
  refine W.g (Any.rd (.idxAo (1) underlying48 sz3 rfl rfl (rfl) (by omega)) _) ?_
  have f27 := (f25.le h2_2_1)
  refine W.g (.loadB (v := .int .i64 (fee.b)) na3 rfl f27 rfl) ?_
  refine W.efg rfl rfl rfl (rfl) rfl rfl ?_
  refine Ef.call go36 rfl rfl (coin_ok fee.b w2_2_1) ?_
  rintro _ w2_7_1 ⟨rfl, h2_7_1⟩
  refine ⟨_, rfl, ?_⟩
  have L28 := L26.le h2_7_1
  refine W.run 3 rfl (W.nx ?_)
  by_cases c0 : (coinL fee.b) = true
  ·refine WC.condN rfl (congrArg not (c0)) ?_
   have hco : ((0 <= fee.a /\ fee.a <= 1125899906842624) /\ 0 <= fee.b /\ fee.b <= 1125899906842624) := ⟨coin_iff.1 (by assumption), coin_iff.1 (by assumption)⟩
   refine WC.sr (W.run 3 rfl (W.nx (WC.condF rfl (WC.sr (W.run 2 rfl ?_)))))
   have f29 := (((f2.le h1_9_1).ch h1_10_1 (fun h => (show g1_9_1 ≠ gp from by have := f2.lt; omega) (oI h))).le (h2_2_1.trans h2_7_1))
   have f30 := (((hO0.le (h0_0.trans h1_9_1)).ch h1_10_1 (fun q hq => by cases hq; exact (fun he => by have := (hO0.row he).2; have := h0_0.size; omega))).le (h2_2_1.trans h2_7_1))
   have f31 := (((f22.le h1_9_1).ch h1_10_1 (fun h => (show g1_9_1 ≠ gs from by have := f22.lt; omega) (oI h))).le (h2_2_1.trans h2_7_1))
   have f32 := (((hH0.le (h0_0.trans h1_9_1)).ch h1_10_1 (fun h => (show g1_9_1 ≠ gh from by have := hH0.lt; have := h0_0.size; omega) (oI h))).le (h2_2_1.trans h2_7_1))
   refine W.cl go49 rfl rfl (lfree_ok ch w2_7_1 (LedL.mk f29 f30 f31 f32 n1 n2 n3 n4 n5 n6) hb (hq _ 0) (hq _ 1)) ?_
   rintro _ w6_2 ⟨rfl, h6_2⟩
   have L33 := L28.le h6_2
   refine W.run 2 rfl (W.nx ?_)
   by_cases c2 : heldL lh ch 0 + heldL lh ch 1 = 0
   ·refine WC.condN rfl (congrArg not (decide_eq_true c2)) ?_
    refine WC.sr ?_
    refine W.a (.field0 fa60_2 rfl) ?_
    refine W.a (.idxAo (0) underlying48 sz3 rfl rfl (rfl) (by omega)) ?_
    have f34 := (b1_10_1.le (h2_2_1.trans (h2_7_1.trans h6_2)))
    refine W.r (.loadB (v := .int .i64 (vhk1_5.h0)) na3 rfl f34 rfl) ?_
    refine W.a (.idxAo (0) underlying48 sz3 rfl rfl (rfl) (by omega)) ?_
    have f35 := (f27.le (h2_7_1.trans h6_2))
    refine W.r (.loadB (v := .int .i64 (fee.a)) na3 rfl f35 rfl) ?_
    refine W.run 1 rfl ?_
    by_cases q8_6 : vhk1_5.h0 < fee.a
    ·refine W.dt q8_6 rfl rfl (W.run 8 rfl (W.nx (WC.condT rfl (WC.sr (W.run 1 rfl (W.nx (WC.ret (E.blkR (E.thenR ?_)))))))))
     have f36 := (f30.le h6_2)
     have f37 := (f29.le h6_2)
     have f38 := (f31.le h6_2)
     have f39 := (f32.le h6_2)
     refine E.retG1 rfl rfl ?_
     exact ⟨L33, .inr (.inr ⟨hco, _, hk1_5, .inr (.inl ⟨c2, (by omega), rfl, ⟨f37, f36, f38, f39, n1, n2, n3, n4, n5, n6⟩⟩)⟩)⟩
    refine W.df q8_6 rfl rfl ?_
    refine W.g (Any.rd (.field0 fa60_2 rfl) _) ?_
    refine W.g (Any.rd (.idxAo (1) underlying48 sz3 rfl rfl (rfl) (by omega)) _) ?_
    refine W.g (.loadB (v := .int .i64 (vhk1_5.h1)) na3 rfl f34 rfl) ?_
    refine W.g (Any.rd (.idxAo (1) underlying48 sz3 rfl rfl (rfl) (by omega)) _) ?_
    refine W.g (.loadB (v := .int .i64 (fee.b)) na3 rfl f35 rfl) ?_
    refine W.run 3 rfl (W.nx ?_)
    by_cases c3 : vhk1_5.h1 < fee.b
    ·refine WC.condY rfl (decide_eq_true c3) ?_
     refine WC.sr (W.run 1 rfl (W.nx (WC.ret (E.blkR (E.thenR ?_)))))
     have f40 := (f30.le h6_2)
     have f41 := (f29.le h6_2)
     have f42 := (f31.le h6_2)
     have f43 := (f32.le h6_2)
     refine E.retG1 rfl rfl ?_
     exact ⟨L33, .inr (.inr ⟨hco, _, hk1_5, .inr (.inl ⟨c2, (by omega), rfl, ⟨f41, f40, f42, f43, n1, n2, n3, n4, n5, n6⟩⟩)⟩)⟩
    refine WC.condN rfl (decide_eq_false c3) ?_
    refine WC.skip (E.blkN (E.thenN (WC.seq (WC.sr (W.run 1 rfl (W.nx (WC.block ?_)))))))
    have f44 := (f29.le h6_2)
    have f45 := (f30.le h6_2)
    have f46 := (f31.le h6_2)
    have f47 := (f32.le h6_2)
    refine WC.loop (ι := Nat) (fun k => [(0, .pointer (some ⟨gp, 0, none⟩)), (1, .int .i64 (ch)), (5, .pointer (some ⟨g0_0, 0, none⟩)), (7, .pointer (some ⟨g1_9_1, 0, none⟩)), (53, .int .i64 (((k : Nat) : Int)))]) (fun k wl0 => (k <= 2) /\ ChP w wl0 (LF gp gs gh A c) /\ w6_2.heap.size <= wl0.heap.size /\ Blk wl0 gp 100 #[.slice A own.length c, .map (some gs), .map (some gh), .int .i64 ((backF lost fee k))] /\ OVec wl0 0 3 iv 1 A own.length c (backO own vhk1_5 fee k) /\ MapG wl0 ikf seatf gs ls cs /\ MapG wl0 plf holdf gh lh ck /\ Blk wl0 g0_0 48 (pairV fee).toArray /\ Blk wl0 g1_9_1 60 (seatV vhk1_5).toArray) (fun k => 2 - k) 0 ?_ ?_ ?_
    ·exact .cons rfl (.cons rfl (.cons rfl (.cons rfl (.cons rfl (.nil _)))))
    ·exact ⟨Nat.zero_le _, L33, Nat.le_refl _, f44, f45, f46, f47, f35, f34⟩
    rintro k wl0 ⟨hk, Ll0, zl0, f0_0, f0_1, f0_2, f0_3, f0_4, f0_5⟩
    have hfl := backF_le (lost := lost) (fee := fee) hk hl hco.1 hco.2
    refine WC.sr (W.run 1 rfl (W.nx (WC.seq ?_)))
    by_cases c4 : ((k : Nat) : Int) < 2
    ·refine WC.condY rfl (decide_eq_true c4) ?_
     refine WC.sn (WC.seq (WC.block (WC.sr (W.run 2 rfl (W.nx ?_)))))
     refine WC.draw [0, 1, 2, 3, 4, 5, 6, 7, 8, 9, 10, 11] mixed (by kernel_rfl) ?_
     intro w13 d13
     have L48 := Ll0.le d13
     refine G.run 1 rfl ?_
     have f49 := (f0_5.le d13)
     refine G.r rfl (.loadAll ag60 (by rfl) rfl f49) ?_
     refine G.run 2 rfl ?_
     refine G.a rfl (.field0 fa60_2 rfl) ?_
     refine G.a rfl (.idxAo (k) underlying48 sz3 rfl rfl (rfl) (by omega)) ?_
     refine G.r rfl (.loadB (v := .int .i64 ((vhk1_5.h k))) na3 rfl f49 (seatH_at vhk1_5 (by omega))) ?_
     refine G.a rfl (.negI underlying3 rfl (by have := (seatOk_at hso (k := k) (by omega)).2; omega)) ?_
     refine G.run 1 rfl ?_
     refine G.a rfl (.idxAo (k) underlying48 sz3 rfl rfl (rfl) (by omega)) ?_
     have f50 := (f0_4.le d13)
     refine G.r rfl (.loadB (v := .int .i64 ((fee.ix k))) na3 rfl f50 (pair_at fee (by omega))) ?_
     have f51 := (f0_0.le d13)
     have f52 := (f0_1.le d13)
     refine G.ef rfl rfl rfl rfl rfl ?_
     refine Ef.call go37 rfl rfl (give_ok (own := (backO own vhk1_5 fee k)) (lost := (backF lost fee k)) vhk1_5 k (-(vhk1_5.h k)) (fee.ix k) w13 f51 f52 n4 (by omega) ((seatOk_at hso (by omega)).1) (by have := (seatOk_at hso (k := k) (by omega)).2; omega) (by unfold Pair.ix; split; exact hco.1; exact hco.2) (by rw [backO_at (by omega) hso.1.1 hso.2.1.1 hso.2.2.1]; have := hw (vhk1_5.p k).toNat; omega) (by omega)) ?_
     rintro _ w13_11 ⟨rfl, bp13_11, bo13_11, h13_11⟩
     refine ⟨_, rfl, ?_⟩
     refine noT (by kernel_rfl) ?_
     have L53 := L48.sub h13_11 (fun i hi hlt => Or.elim hi (fun hi => (by subst hi; exact Or.inl rfl)) (fun hi => ((fun i hi => Or.inr (Or.inr (Or.inr hi))) i hi)))
     refine G.nil (E.blkN (E.thenN (WC.region ?_)))
     refine W.a (.add rfl rfl (by omega)) ?_
     refine W.run 1 rfl (W.nil ?_)
     have f54 := ((f0_2.le d13).chP h13_11 (fun hF => Or.elim hF (fun hF => (Ne.symm n1) hF) (fun hF => n5 hF)))
     have f55 := ((f0_3.le d13).chP h13_11 (fun hF => Or.elim hF (fun hF => (Ne.symm n2) hF) (fun hF => n6 hF)))
     have f56 := (f50.chP h13_11 (fun hF => Or.elim hF (fun hF => (show g0_0 ≠ gp from by have := hp0.lt; omega) hF) (fun hF => (fun he => by have := (hO0.row he).2; omega) hF)))
     have f57 := (f49.chP h13_11 (fun hF => Or.elim hF (fun hF => (show g1_9_1 ≠ gp from by have := f2.lt; omega) hF) (fun hF => (fun he => by have := (hO0.row he).2; have := h0_0.size; omega) hF)))
     refine E.again (k + 1) (.cons rfl (.cons rfl (.cons rfl (.cons rfl (.cons rfl (.nil _)))))) ?_ ?_
     ·exact ⟨by omega, L53, by have := zl0; have := d13.size; have := h13_11.size; omega, bp13_11, bo13_11, f54, f55, f56, f57⟩
     first | omega | (simp only []; omega)
    refine WC.condN rfl (decide_eq_false c4) ?_
    refine WC.exit (E.thenX (E.thenX (E.blkH (E.thenN (WC.sr (W.run 1 rfl ?_))))))
    refine W.a (.nilCheck rfl) ?_
    refine W.a (.field0 fa100_1 rfl) ?_
    refine W.r (.loadB (v := .map (some gs)) na97 rfl f0_0 rfl) ?_
    refine W.run 1 rfl ?_
    refine W.ef0 rfl rfl ?_
    refine Ef.deleteG (key := ch) underlying97 kint rfl rfl f0_2 ?_
    intro w15_5 b15_5 h15_5
    have L58 : ChP w w15_5 (LF gp gs gh A c) := Ll0.ch h15_5 (fun i hi _ => by cases hi; exact Or.inr (Or.inl rfl))
    refine W.nx (WC.sr (W.run 1 rfl (W.nx (WC.ret ?_))))
    have f59 := (f0_1.ch h15_5 (fun q hq => by cases hq; exact n5))
    have f60 := (f0_0.ch h15_5 (fun h => (Ne.symm n1) (oI h)))
    have f61 := (f0_3.ch h15_5 (fun h => n3 (oI h)))
    refine E.retG1 rfl rfl ?_
    have ek : k = 2 := (by omega); subst ek; exact ⟨L58, .inr (.inr ⟨hco, _, hk1_5, .inr (.inr ⟨c2, (by omega), rfl, ⟨(by rw [backO_len]; exact f60), (by rw [backO_len]; exact f59), b15_5, f61, n1, n2, n3, n4, n5, n6⟩⟩)⟩)⟩
   refine WC.condY rfl (congrArg not (decide_eq_false c2)) ?_
   refine WC.sr (W.run 1 rfl (W.nx (WC.ret (E.blkR (E.thenR ?_)))))
   have f62 := (f30.le h6_2)
   have f63 := (f29.le h6_2)
   have f64 := (f31.le h6_2)
   have f65 := (f32.le h6_2)
   refine E.retG1 rfl rfl ?_
   exact ⟨L33, .inr (.inr ⟨hco, _, hk1_5, .inl ⟨c2, rfl, ⟨f63, f62, f64, f65, n1, n2, n3, n4, n5, n6⟩⟩⟩)⟩
  refine WC.condY rfl (congrArg not ((Bool.eq_false_iff.2 c0))) ?_
  refine WC.sr (W.run 1 rfl (W.nx (WC.ret (E.blkR (E.thenR ?_)))))
  have f66 := (((hO0.le (h0_0.trans h1_9_1)).ch h1_10_1 (fun q hq => by cases hq; exact (fun he => by have := (hO0.row he).2; have := h0_0.size; omega))).le (h2_2_1.trans h2_7_1))
  have f67 := (((f2.le h1_9_1).ch h1_10_1 (fun h => (show g1_9_1 ≠ gp from by have := f2.lt; omega) (oI h))).le (h2_2_1.trans h2_7_1))
  have f68 := (((f22.le h1_9_1).ch h1_10_1 (fun h => (show g1_9_1 ≠ gs from by have := f22.lt; omega) (oI h))).le (h2_2_1.trans h2_7_1))
  have f69 := (((hH0.le (h0_0.trans h1_9_1)).ch h1_10_1 (fun h => (show g1_9_1 ≠ gh from by have := hH0.lt; have := h0_0.size; omega) (oI h))).le (h2_2_1.trans h2_7_1))
  refine E.retG1 rfl rfl ?_
  exact ⟨L28, .inl ⟨(fun h => by first | (exact absurd (coin_iff.2 h.1) (by assumption)) | (exact absurd (coin_iff.2 h.2) (by assumption))), rfl, ⟨f67, f66, f68, f69, n1, n2, n3, n4, n5, n6⟩⟩⟩
 refine W.a (.dec (.move rfl) (congrArg not ((Bool.eq_false_iff.2 q2_4)))) ?_
 refine W.run 6 rfl (W.nx (WC.condT rfl (WC.sr (W.run 1 rfl (W.nx (WC.ret (E.blkR (E.thenR ?_))))))))
 have f70 := (((hO0.le (h0_0.trans h1_9_1)).ch h1_10_1 (fun q hq => by cases hq; exact (fun he => by have := (hO0.row he).2; have := h0_0.size; omega))).le h2_2_1)
 have f71 := (((f2.le h1_9_1).ch h1_10_1 (fun h => (show g1_9_1 ≠ gp from by have := f2.lt; omega) (oI h))).le h2_2_1)
 have f72 := (((f22.le h1_9_1).ch h1_10_1 (fun h => (show g1_9_1 ≠ gs from by have := f22.lt; omega) (oI h))).le h2_2_1)
 have f73 := (((hH0.le (h0_0.trans h1_9_1)).ch h1_10_1 (fun h => (show g1_9_1 ≠ gh from by have := hH0.lt; have := h0_0.size; omega) (oI h))).le h2_2_1)
 refine E.retG1 rfl rfl ?_
 exact ⟨L26, .inl ⟨(fun h => by first | (exact absurd (coin_iff.2 h.1) (by assumption)) | (exact absurd (coin_iff.2 h.2) (by assumption))), rfl, ⟨f71, f70, f72, f73, n1, n2, n3, n4, n5, n6⟩⟩⟩
end Go.Proofs.YtgpaekbdbpkogaaGreat

namespace Go.Proofs.YtgpaekbdbpkogaaGreat
open Tryz
open Go Go.Sx Go.Num Go.Gsp Go.Lsp
set_option maxRecDepth 20000
theorem coin_max {d : Int} : coinL (max d (negW d)) = true ↔ -1125899906842624 <= d /\ d <= 1125899906842624 := by
  rw [coin_iff]
  unfold negW
  split <;> omega
theorem lsplice_ok {gp gs gh c cs ck : Nat} {A : Option Addr} {own : List Int} {ls : SM} {lh : HM} {lost : Int} (ch : Int) (d fee : Pair) (w : World) (hL : LedL w gp gs gh A c cs ck own ls lh lost) (hd : ∀ k, k < 2 -> -9223372036854775808 <= d.ix k /\ d.ix k <= 9223372036854775807) (hs : ∀ x ∈ ls, seatOk own.length x.2.2) (hw : ∀ i, 0 <= own.getD i 0 /\ own.getD i 0 <= 1125899906842624) (hl : 0 <= lost /\ lost <= 1125899906842624) : Calls prog 26 #[.pointer (some ⟨gp, 0, none⟩), .int .i64 (ch), .agg (pairV d).toArray, .agg (pairV fee).toArray] w fun r w' => ChP w w' (LF gp gs gh A c) /\ ((¬ spOk d fee /\ r = .returned (.int .i64 1) /\ LedL w' gp gs gh A c cs ck own ls lh lost) \/ (spOk d fee /\ getG ch ls = none /\ r = .returned (.int .i64 5) /\ LedL w' gp gs gh A c cs ck own ls lh lost) \/ (spOk d fee /\ ∃ s, getG ch ls = some s /\ (((∃ k, k < 2 /\ spNo own s d fee k) /\ r = .returned (.int .i64 8) /\ LedL w' gp gs gh A c cs ck own ls lh lost) \/ ((∀ k, k < 2 -> ¬ spNo own s d fee k) /\ r = .returned (.int .i64 0) /\ LedL w' gp gs gh A c cs ck (spO own (addK s d 2) d fee 2) (updM ch (addK s d 2) ls) lh (backF lost fee 2))))) := by
 have hp0 := hL.hp
 have hO0 := hL.hO
 have hS0 := hL.hS
 have hH0 := hL.hH
 have n1 := hL.ps
 have n2 := hL.ph
 have n3 := hL.sh
 have n4 := hL.op
 have n5 := hL.os
 have n6 := hL.oh
 refine enter func26 rfl rfl ?_
 have L0 := ChP.refl w (LF gp gs gh A c)
 refine WC.sr (W.ef rfl rfl rfl ?_)
 refine Ef.boxA rfl ?_
 intro g0_0 w0_0 hg0_0 b0_0 h0_0
 have L1 := L0.le h0_0
 have b0_0 : Blk w0_0 g0_0 48 (pairV d).toArray := b0_0
 refine W.ef rfl rfl rfl ?_
 refine Ef.boxA rfl ?_
 intro g0_1 w0_1 hg0_1 b0_1 h0_1
 have L2 := L1.le h0_1
 have b0_1 : Blk w0_1 g0_1 48 (pairV fee).toArray := b0_1
 refine W.run 1 rfl (W.nx (WC.seq (WC.sr ?_)))
 have f3 := (b0_0.le h0_1)
 refine W.r (.loadAll ag48 (by rfl) rfl f3) ?_
 refine W.run 1 rfl (W.nx (WC.block ?_))
 have f4 := (hp0.le (h0_0.trans h0_1))
 have f5 := (hO0.le (h0_0.trans h0_1))
 have f6 := (hS0.le (h0_0.trans h0_1))
 have f7 := (hH0.le (h0_0.trans h0_1))
 refine WC.loop (ι := Nat) (fun k => [(0, .pointer (some ⟨gp, 0, none⟩)), (1, .int .i64 (ch)), (6, .pointer (some ⟨g0_0, 0, none⟩)), (7, .pointer (some ⟨g0_1, 0, none⟩)), (17, .agg (pairV d).toArray), (18, .int .i64 (((k : Nat) : Int)))]) (fun k wl0 => (k <= 2) /\ (∀ i, i < k -> (-1125899906842624 <= d.ix i /\ d.ix i <= 1125899906842624) /\ 0 <= fee.ix i /\ fee.ix i <= 1125899906842624) /\ ChP w wl0 (LF gp gs gh A c) /\ w0_1.heap.size <= wl0.heap.size /\ Blk wl0 gp 100 #[.slice A own.length c, .map (some gs), .map (some gh), .int .i64 (lost)] /\ OVec wl0 0 3 iv 1 A own.length c own /\ MapG wl0 ikf seatf gs ls cs /\ MapG wl0 plf holdf gh lh ck /\ Blk wl0 g0_0 48 (pairV d).toArray /\ Blk wl0 g0_1 48 (pairV fee).toArray) (fun k => 2 - k) 0 ?_ ?_ ?_
 ·exact .cons rfl (.cons rfl (.cons rfl (.cons rfl (.cons rfl (.cons rfl (.nil _))))))
 ·exact ⟨Nat.zero_le _, fun i hi => by omega, L2, Nat.le_refl _, f4, f5, f6, f7, f3, b0_1⟩
 rintro k wl0 ⟨hk, hall, Ll0, zl0, f0_0, f0_1, f0_2, f0_3, f0_4, f0_5⟩
 refine WC.sr (W.run 1 rfl (W.nx (WC.seq ?_)))
 by_cases c0 : ((k : Nat) : Int) < 2
 ·refine WC.condY rfl (decide_eq_true c0) ?_
  refine WC.sn (WC.seq (WC.block (WC.sr (W.run 1 rfl ?_))))
  refine W.a (.index1 (v := .int .i64 ((d.ix k))) (k) underlying48 sz3 na3 rfl rfl (rfl) (by omega) (pair_ix d (by omega))) ?_
  refine W.run 2 rfl (W.nx (WC.sr (W.run 2 rfl ?_)))
  refine W.a (.negW underlying3 rfl (hd k (by omega))) ?_
  refine W.r (.max2 rfl rfl) ?_
  refine W.cl go36 rfl rfl (coin_ok (max (d.ix k) (negW (d.ix k))) wl0) ?_
  rintro _ w4_4 ⟨rfl, h4_4⟩
  have L8 := Ll0.le h4_4
  refine W.run 1 rfl ?_
  by_cases q4_6 : (coinL (max (d.ix k) (negW (d.ix k)))) = true
  ·refine W.a (.dec (.move rfl) (congrArg not (q4_6))) ?_
   refine W.run 1 rfl ?_
   refine W.g (Any.rd (.idxAo (k) underlying48 sz3 rfl rfl (rfl) (by omega)) _) ?_
   have f9 := (f0_5.le h4_4)
   refine W.g (.loadB (v := .int .i64 ((fee.ix k))) na3 rfl f9 (pair_at fee (by omega))) ?_
   refine W.efg rfl rfl rfl (rfl) rfl rfl ?_
   refine Ef.call go36 rfl rfl (coin_ok (fee.ix k) w4_4) ?_
   rintro _ w4_10 ⟨rfl, h4_10⟩
   refine ⟨_, rfl, ?_⟩
   have L10 := L8.le h4_10
   refine W.run 2 rfl (W.nx ?_)
   by_cases c1 : (coinL (fee.ix k)) = true
   ·refine WC.condN rfl (congrArg not (c1)) ?_
    refine WC.skip (E.blkN (E.thenN (WC.region ?_)))
    refine W.a (.add rfl rfl (by omega)) ?_
    refine W.run 1 rfl (W.nil ?_)
    have f11 := (f0_0.le (h4_4.trans h4_10))
    have f12 := (f0_1.le (h4_4.trans h4_10))
    have f13 := (f0_2.le (h4_4.trans h4_10))
    have f14 := (f0_3.le (h4_4.trans h4_10))
    have f15 := (f0_4.le (h4_4.trans h4_10))
    have f16 := (f9.le h4_10)
    refine E.again (k + 1) (.cons rfl (.cons rfl (.cons rfl (.cons rfl (.cons rfl (.cons rfl (.nil _))))))) ?_ ?_
    ·exact ⟨by omega, fun i hi => (Nat.lt_succ_iff_lt_or_eq.1 hi).elim (hall i) (fun hh => by subst hh; exact ⟨coin_max.1 (by assumption), coin_iff.1 (by assumption)⟩), L10, by have := zl0; have := h4_4.size; have := h4_10.size; omega, f11, f12, f13, f14, f15, f16⟩
    first | omega | (simp only []; omega)
   refine WC.condY rfl (congrArg not ((Bool.eq_false_iff.2 c1))) ?_
   refine WC.sr (W.run 1 rfl (W.nx (WC.ret (E.blkR (E.thenR (E.thenR (E.blkR (E.thenR ?_))))))))
   have f17 := (f0_1.le (h4_4.trans h4_10))
   have f18 := (f0_0.le (h4_4.trans h4_10))
   have f19 := (f0_2.le (h4_4.trans h4_10))
   have f20 := (f0_3.le (h4_4.trans h4_10))
   refine E.retG1 rfl rfl ?_
   exact ⟨L10, .inl ⟨(fun h => by have hh := h k (by omega); first | (exact absurd (coin_max.2 hh.1) (by assumption)) | (exact absurd (coin_iff.2 hh.2) (by assumption))), rfl, ⟨f18, f17, f19, f20, n1, n2, n3, n4, n5, n6⟩⟩⟩
  refine W.a (.dec (.move rfl) (congrArg not ((Bool.eq_false_iff.2 q4_6)))) ?_
  refine W.run 6 rfl (W.nx (WC.condT rfl (WC.sr (W.run 1 rfl (W.nx (WC.ret (E.blkR (E.thenR (E.thenR (E.blkR (E.thenR ?_)))))))))))
  have f21 := (f0_1.le h4_4)
  have f22 := (f0_0.le h4_4)
  have f23 := (f0_2.le h4_4)
  have f24 := (f0_3.le h4_4)
  refine E.retG1 rfl rfl ?_
  exact ⟨L8, .inl ⟨(fun h => by have hh := h k (by omega); first | (exact absurd (coin_max.2 hh.1) (by assumption)) | (exact absurd (coin_iff.2 hh.2) (by assumption))), rfl, ⟨f22, f21, f23, f24, n1, n2, n3, n4, n5, n6⟩⟩⟩
 refine WC.condN rfl (decide_eq_false c0) ?_
 refine WC.exit (E.thenX (E.thenX (E.blkH (E.thenN (WC.sr ?_)))))
 have hok : spOk d fee := fun i hi => hall i (by omega)
 refine W.run 1 rfl ?_
 refine W.a (.nilCheck rfl) ?_
 refine W.a (.field0 fa100_1 rfl) ?_
 refine W.r (.loadB (v := .map (some gs)) na97 rfl f0_0 rfl) ?_
 refine W.run 1 rfl ?_
 rcases optG (getG ch ls) with hk7_5 | ⟨vhk7_5, hk7_5⟩
 ·refine W.r (.as (.lookup2 (key := ch) underlying97 kint z60 rfl rfl f0_2) (by rw [hk7_5] <;> rfl)) ?_
  refine W.run 1 rfl ?_
  refine W.a (.extract (v := .agg (seatV noSeat).toArray) rfl rfl) ?_
  refine W.run 1 rfl (W.ef rfl rfl rfl ?_)
  refine Ef.allocA z60 ?_
  intro g7_9 w7_9 hg7_9 b7_9 h7_9
  have L25 := Ll0.le h7_9
  have b7_9 : Blk w7_9 g7_9 60 (seatV noSeat).toArray := b7_9
  refine W.ef0 rfl rfl ?_
  refine Ef.storeAll sz60 (by rfl) rfl rfl b7_9 (by simp only [List.size_toArray, seatV_row.len]) (seatV_row.one noSeat) ?_
  intro w7_10 b7_10 h7_10
  have L26 : ChP w w7_10 (LF gp gs gh A c) := L25.ch h7_10 (fun i hi hlt => by cases hi; exact absurd hlt (by have := Ll0.size; have := hg7_9; omega))
  refine W.run 1 rfl (W.nx (WC.seq (WC.sr (W.run 2 rfl (W.nx (WC.condT rfl (WC.sr (W.run 1 rfl (W.nx (WC.ret (E.thenR ?_)))))))))))
  have f27 := ((f0_1.le h7_9).ch h7_10 (fun q hq => by cases hq; exact (fun he => by have := (f0_1.row he).2; omega)))
  have f28 := ((f0_0.le h7_9).ch h7_10 (fun h => (show g7_9 ≠ gp from by have := f0_0.lt; omega) (oI h)))
  have f29 := ((f0_2.le h7_9).ch h7_10 (fun h => (show g7_9 ≠ gs from by have := f0_2.lt; omega) (oI h)))
  have f30 := ((f0_3.le h7_9).ch h7_10 (fun h => (show g7_9 ≠ gh from by have := f0_3.lt; omega) (oI h)))
  refine E.retG1 rfl rfl ?_
  exact ⟨L26, .inr (.inl ⟨hok, hk7_5, rfl, ⟨f28, f27, f29, f30, n1, n2, n3, n4, n5, n6⟩⟩)⟩
 obtain ⟨bh, hbh⟩ := getG_mem hk7_5
 have hso : seatOk own.length vhk7_5 := hs _ hbh
 refine W.r (.as (.lookup2 (key := ch) underlying97 kint z60 rfl rfl f0_2) (by rw [hk7_5] <;> rfl)) ?_
 refine W.run 1 rfl ?_
 refine W.a (.extract (v := .agg (seatV vhk7_5).toArray) rfl rfl) ?_
 refine W.run 1 rfl (W.ef rfl rfl rfl ?_)
 refine Ef.allocA z60 ?_
 intro g7_9_1 w7_9_1 hg7_9_1 b7_9_1 h7_9_1
 have L31 := Ll0.le h7_9_1
 have b7_9_1 : Blk w7_9_1 g7_9_1 60 (seatV noSeat).toArray := b7_9_1
 refine W.ef0 rfl rfl ?_
 refine Ef.storeAll sz60 (by rfl) rfl rfl b7_9_1 (by simp only [List.size_toArray, seatV_row.len]) (seatV_row.one vhk7_5) ?_
 intro w7_10_1 b7_10_1 h7_10_1
 have b7_10_1 : Blk w7_10_1 g7_9_1 60 (seatV vhk7_5).toArray := b7_10_1
 have L32 : ChP w w7_10_1 (LF gp gs gh A c) := L31.ch h7_10_1 (fun i hi hlt => by cases hi; exact absurd hlt (by have := Ll0.size; have := hg7_9_1; omega))
 refine W.run 1 rfl (W.nx (WC.seq (WC.sr (W.run 2 rfl (W.nx (WC.condF rfl (WC.sn (WC.seq (WC.sr ?_)))))))))
 have f33 := ((f0_4.le h7_9_1).ch h7_10_1 (fun h => (show g7_9_1 ≠ g0_0 from by have := f0_4.lt; omega) (oI h)))
 refine W.r (.loadAll ag48 (by rfl) rfl f33) ?_
 refine W.run 1 rfl (W.nx (WC.block ?_))
 have f34 := ((f0_0.le h7_9_1).ch h7_10_1 (fun h => (show g7_9_1 ≠ gp from by have := f0_0.lt; omega) (oI h)))
 have f35 := ((f0_1.le h7_9_1).ch h7_10_1 (fun q hq => by cases hq; exact (fun he => by have := (f0_1.row he).2; omega)))
 have f36 := ((f0_2.le h7_9_1).ch h7_10_1 (fun h => (show g7_9_1 ≠ gs from by have := f0_2.lt; omega) (oI h)))
 have f37 := ((f0_3.le h7_9_1).ch h7_10_1 (fun h => (show g7_9_1 ≠ gh from by have := f0_3.lt; omega) (oI h)))
 have f38 := ((f0_5.le h7_9_1).ch h7_10_1 (fun h => (show g7_9_1 ≠ g0_1 from by have := f0_5.lt; omega) (oI h)))
 refine WC.loop (ι := Nat) (fun k2 => [(0, .pointer (some ⟨gp, 0, none⟩)), (1, .int .i64 (ch)), (6, .pointer (some ⟨g0_0, 0, none⟩)), (7, .pointer (some ⟨g0_1, 0, none⟩)), (11, .pointer (some ⟨g7_9_1, 0, none⟩)), (47, .agg (pairV d).toArray), (48, .int .i64 (((k2 : Nat) : Int)))]) (fun k2 wl1 => (k2 <= 2) /\ (∀ i, i < k2 -> ¬ spNo own vhk7_5 d fee i) /\ ChP w wl1 (LF gp gs gh A c) /\ w7_10_1.heap.size <= wl1.heap.size /\ Blk wl1 gp 100 #[.slice A own.length c, .map (some gs), .map (some gh), .int .i64 (lost)] /\ OVec wl1 0 3 iv 1 A own.length c own /\ MapG wl1 ikf seatf gs ls cs /\ MapG wl1 plf holdf gh lh ck /\ Blk wl1 g0_0 48 (pairV d).toArray /\ Blk wl1 g0_1 48 (pairV fee).toArray /\ Blk wl1 g7_9_1 60 (seatV (addK vhk7_5 d k2)).toArray) (fun k2 => 2 - k2) 0 ?_ ?_ ?_
 ·exact .cons rfl (.cons rfl (.cons rfl (.cons rfl (.cons rfl (.cons rfl (.cons rfl (.nil _)))))))
 ·exact ⟨Nat.zero_le _, fun i hi => by omega, L32, Nat.le_refl _, f34, f35, f36, f37, f33, f38, b7_10_1⟩
 rintro k2 wl1 ⟨hk2, hno, Ll1, zl1, f1_0, f1_1, f1_2, f1_3, f1_4, f1_5, f1_6⟩
 have hd2 := hok k2
 have hse := fun h => (seatOk_at hso (k := k2) h)
 refine WC.sr (W.run 1 rfl (W.nx (WC.seq ?_)))
 by_cases c3 : ((k2 : Nat) : Int) < 2
 ·refine WC.condY rfl (decide_eq_true c3) ?_
  refine WC.sn (WC.seq (WC.block (WC.sr (W.run 1 rfl ?_))))
  refine W.a (.index1 (v := .int .i64 ((d.ix k2))) (k2) underlying48 sz3 na3 rfl rfl (rfl) (by omega) (pair_ix d (by omega))) ?_
  refine W.run 2 rfl (W.nx (WC.sr (W.run 1 rfl ?_)))
  refine W.a (.field0 fa60_2 rfl) ?_
  refine W.a (.idxAo (k2) underlying48 sz3 rfl rfl (rfl) (by omega)) ?_
  refine W.r (.loadB (v := .int .i64 (((addK vhk7_5 d k2).h k2))) na3 rfl f1_6 (seatH_at (addK vhk7_5 d k2) (by omega))) ?_
  refine W.run 1 rfl ?_
  refine W.a (.add rfl rfl (by rw [addK_h (by omega)]; have := hse (by omega); have := hd2 (by omega); omega)) ?_
  refine W.a (.field0 fa60_2 rfl) ?_
  refine W.a (.idxAo (k2) underlying48 sz3 rfl rfl (rfl) (by omega)) ?_
  refine W.ef0 rfl rfl ?_
  refine Ef.store sz3 rfl rfl f1_6 (by simp [seatV_row.len, -List.getD_eq_getElem?_getD]; omega) rfl ?_
  intro w13_8 b13_8 h13_8
  have b13_8 : Blk w13_8 g7_9_1 60 (seatV ((addK vhk7_5 d k2).setH k2 (((addK vhk7_5 d k2).h k2) + (d.ix k2)))).toArray := b13_8.cast (seatH_set (addK vhk7_5 d k2) (((addK vhk7_5 d k2).h k2) + (d.ix k2)) (by omega))
  have L39 : ChP w w13_8 (LF gp gs gh A c) := Ll1.ch h13_8 (fun i hi hlt => by cases hi; exact absurd hlt (by have := Ll0.size; have := hg7_9_1; omega))
  refine W.nx (WC.seq ?_)
  refine WC.draw [0, 1, 2, 3, 4, 5, 6, 7, 8, 9, 10, 11, 12, 13, 14, 15, 16, 17, 18, 19, 20, 21, 22] mixed (by kernel_rfl) ?_
  intro w14 d14
  have L40 := L39.le d14
  refine G.run 1 rfl ?_
  refine G.a rfl (.field0 fa60_2 rfl) ?_
  refine G.a rfl (.idxAo (k2) underlying48 sz3 rfl rfl (rfl) (by omega)) ?_
  have f41 := (b13_8.le d14)
  refine G.r rfl (.loadB (v := .int .i64 ((((addK vhk7_5 d k2).setH k2 (((addK vhk7_5 d k2).h k2) + (d.ix k2))).h k2))) na3 rfl f41 (seatH_at ((addK vhk7_5 d k2).setH k2 (((addK vhk7_5 d k2).h k2) + (d.ix k2))) (by omega))) ?_
  refine G.run 1 rfl ?_
  by_cases q14_5 : (((addK vhk7_5 d k2).setH k2 (((addK vhk7_5 d k2).h k2) + (d.ix k2))).h k2) < 0
  ·refine G.a rfl (.dec (.move rfl) (decide_eq_true q14_5)) ?_
   refine G.run 17 rfl (G.nil (E.thenN (WC.condT rfl (WC.sr (W.run 1 rfl (W.nx (WC.ret (E.blkR (E.thenR (E.thenR (E.blkR (E.thenR ?_))))))))))))
   have f42 := ((f1_1.ch h13_8 (fun q hq => by cases hq; exact (fun he => by have := (f0_1.row he).2; omega))).le d14)
   have f43 := ((f1_0.ch h13_8 (fun h => (show g7_9_1 ≠ gp from by have := f0_0.lt; omega) (oI h))).le d14)
   have f44 := ((f1_2.ch h13_8 (fun h => (show g7_9_1 ≠ gs from by have := f0_2.lt; omega) (oI h))).le d14)
   have f45 := ((f1_3.ch h13_8 (fun h => (show g7_9_1 ≠ gh from by have := f0_3.lt; omega) (oI h))).le d14)
   refine E.retG1 rfl rfl ?_
   exact ⟨L40, .inr (.inr ⟨hok, _, hk7_5, .inl ⟨⟨k2, by omega, (by unfold spNo; simp only [setH_h (show k2 < 2 by omega), addK_h (show k2 < 2 by omega), setH_p, addK_p] at *; omega)⟩, rfl, ⟨f43, f42, f44, f45, n1, n2, n3, n4, n5, n6⟩⟩⟩)⟩
  refine G.a rfl (.dec (.move rfl) (decide_eq_false q14_5)) ?_
  refine G.run 1 rfl ?_
  refine G.ag rfl (.nilCheck rfl) ?_
  refine G.ag rfl (.field0 fa100_0 rfl) ?_
  have f46 := ((f1_0.ch h13_8 (fun h => (show g7_9_1 ≠ gp from by have := f0_0.lt; omega) (oI h))).le d14)
  refine G.rg rfl (.loadB (v := .slice A own.length c) na56 rfl f46 rfl) ?_
  refine G.run 1 rfl ?_
  refine G.ag rfl (.field0 fa60_1 rfl) ?_
  refine G.ag rfl (.idxAo (k2) underlying48 sz3 rfl rfl (rfl) (by omega)) ?_
  refine G.rg rfl (.loadB (v := .int .i64 ((((addK vhk7_5 d k2).setH k2 (((addK vhk7_5 d k2).h k2) + (d.ix k2))).p k2))) na3 rfl f41 (seatP_at ((addK vhk7_5 d k2).setH k2 (((addK vhk7_5 d k2).h k2) + (d.ix k2))) (by omega))) ?_
  refine G.ag rfl (.idxS ((vhk7_5.p k2).toNat) underlying56 sz3 rfl rfl (hO0.vec.isSome iv_row (by omega)) (by rw [setH_p, addK_p]; have := (hse (by omega)).1; omega) (by have := (hse (by omega)).1; omega)) ?_
  have f47 := ((f1_1.ch h13_8 (fun q hq => by cases hq; exact (fun he => by have := (f0_1.row he).2; omega))).le d14)
  refine G.rg rfl (.vone (v := .int .i64 ((own.getD ((vhk7_5.p k2).toNat) 0))) na3 rfl f47.vec iv_row (getS own 0 (by omega)) rfl) ?_
  refine G.run 2 rfl ?_
  refine G.ag rfl (.idxAo (k2) underlying48 sz3 rfl rfl (rfl) (by omega)) ?_
  have f48 := ((f1_5.ch h13_8 (fun h => (show g7_9_1 ≠ g0_1 from by have := f0_5.lt; omega) (oI h))).le d14)
  refine G.rg rfl (.loadB (v := .int .i64 ((fee.ix k2))) na3 rfl f48 (pair_at fee (by omega))) ?_
  refine G.ag rfl (.add rfl rfl (by have := hd2 (by omega); omega)) ?_
  refine G.run 2 rfl (G.nil (E.thenN ?_))
  by_cases c4 : (own.getD ((vhk7_5.p k2).toNat) 0) < ((d.ix k2) + (fee.ix k2))
  ·refine WC.condY rfl (decide_eq_true c4) ?_
   refine WC.sr (W.run 1 rfl (W.nx (WC.ret (E.blkR (E.thenR (E.thenR (E.blkR (E.thenR ?_))))))))
   have f49 := ((f1_2.ch h13_8 (fun h => (show g7_9_1 ≠ gs from by have := f0_2.lt; omega) (oI h))).le d14)
   have f50 := ((f1_3.ch h13_8 (fun h => (show g7_9_1 ≠ gh from by have := f0_3.lt; omega) (oI h))).le d14)
   refine E.retG1 rfl rfl ?_
   exact ⟨L40, .inr (.inr ⟨hok, _, hk7_5, .inl ⟨⟨k2, by omega, (by unfold spNo; simp only [setH_h (show k2 < 2 by omega), addK_h (show k2 < 2 by omega), setH_p, addK_p] at *; omega)⟩, rfl, ⟨f46, f47, f49, f50, n1, n2, n3, n4, n5, n6⟩⟩⟩)⟩
  refine WC.condN rfl (decide_eq_false c4) ?_
  refine WC.skip (E.blkN (E.thenN (WC.region ?_)))
  refine W.a (.add rfl rfl (by omega)) ?_
  refine W.run 1 rfl (W.nil ?_)
  have f51 := ((f1_2.ch h13_8 (fun h => (show g7_9_1 ≠ gs from by have := f0_2.lt; omega) (oI h))).le d14)
  have f52 := ((f1_3.ch h13_8 (fun h => (show g7_9_1 ≠ gh from by have := f0_3.lt; omega) (oI h))).le d14)
  have f53 := ((f1_4.ch h13_8 (fun h => (show g7_9_1 ≠ g0_0 from by have := f0_4.lt; omega) (oI h))).le d14)
  refine E.again (k2 + 1) (.cons rfl (.cons rfl (.cons rfl (.cons rfl (.cons rfl (.cons rfl (.cons rfl (.nil _)))))))) ?_ ?_
  ·exact ⟨by omega, fun i hi => (Nat.lt_succ_iff_lt_or_eq.1 hi).elim (hno i) (fun hh => by subst hh; unfold spNo; simp only [setH_h (show i < 2 by omega), addK_h (show i < 2 by omega), setH_p, addK_p] at *; omega), L40, by have := zl1; have := h13_8.size; have := d14.size; omega, f46, f47, f51, f52, f53, f48, f41⟩
  first | omega | (simp only []; omega)
 refine WC.condN rfl (decide_eq_false c3) ?_
 refine WC.exit (E.thenX (E.thenX (E.blkH (E.thenN (WC.seq (WC.sr ?_))))))
 refine W.r (.loadAll ag48 (by rfl) rfl f1_4) ?_
 refine W.run 1 rfl (W.nx (WC.block ?_))
 refine WC.loop (ι := Nat) (fun k3 => [(0, .pointer (some ⟨gp, 0, none⟩)), (1, .int .i64 (ch)), (7, .pointer (some ⟨g0_1, 0, none⟩)), (11, .pointer (some ⟨g7_9_1, 0, none⟩)), (84, .agg (pairV d).toArray), (85, .int .i64 (((k3 : Nat) : Int)))]) (fun k3 wl2 => (k3 <= 2) /\ ChP w wl2 (LF gp gs gh A c) /\ wl1.heap.size <= wl2.heap.size /\ Blk wl2 gp 100 #[.slice A own.length c, .map (some gs), .map (some gh), .int .i64 ((backF lost fee k3))] /\ OVec wl2 0 3 iv 1 A own.length c (spO own (addK vhk7_5 d k2) d fee k3) /\ MapG wl2 ikf seatf gs ls cs /\ MapG wl2 plf holdf gh lh ck /\ Blk wl2 g0_1 48 (pairV fee).toArray /\ Blk wl2 g7_9_1 60 (seatV (addK vhk7_5 d k2)).toArray) (fun k3 => 2 - k3) 0 ?_ ?_ ?_
 ·exact .cons rfl (.cons rfl (.cons rfl (.cons rfl (.cons rfl (.cons rfl (.nil _))))))
 ·exact ⟨Nat.zero_le _, Ll1, Nat.le_refl _, f1_0, f1_1, f1_2, f1_3, f1_5, f1_6⟩
 rintro k3 wl2 ⟨hk3, Ll2, zl2, f2_0, f2_1, f2_2, f2_3, f2_4, f2_5⟩
 have hfl := backF_le (lost := lost) (fee := fee) hk3 hl (hok 0 (by omega)).2 (hok 1 (by omega)).2
 refine WC.sr (W.run 1 rfl (W.nx (WC.seq ?_)))
 by_cases c5 : ((k3 : Nat) : Int) < 2
 ·refine WC.condY rfl (decide_eq_true c5) ?_
  refine WC.sn (WC.seq (WC.block (WC.sr (W.run 1 rfl ?_))))
  refine W.a (.index1 (v := .int .i64 ((d.ix k3))) (k3) underlying48 sz3 na3 rfl rfl (rfl) (by omega) (pair_ix d (by omega))) ?_
  refine W.run 2 rfl (W.nx ?_)
  refine WC.draw [0, 1, 2, 3, 4, 5, 6, 7] mixed (by kernel_rfl) ?_
  intro w20 d20
  have L54 := Ll2.le d20
  refine G.run 1 rfl ?_
  have f55 := (f2_5.le d20)
  refine G.r rfl (.loadAll ag60 (by rfl) rfl f55) ?_
  refine G.run 3 rfl ?_
  refine G.a rfl (.idxAo (k3) underlying48 sz3 rfl rfl (rfl) (by omega)) ?_
  have f56 := (f2_4.le d20)
  refine G.r rfl (.loadB (v := .int .i64 ((fee.ix k3))) na3 rfl f56 (pair_at fee (by omega))) ?_
  have f57 := (f2_0.le d20)
  have f58 := (f2_1.le d20)
  refine G.ef rfl rfl rfl rfl rfl ?_
  refine Ef.call go37 rfl rfl (give_ok (own := (spO own (addK vhk7_5 d k2) d fee k3)) (lost := (backF lost fee k3)) (addK vhk7_5 d k2) k3 (d.ix k3) (fee.ix k3) w20 f57 f58 n4 (by omega) (by rw [addK_p]; exact (seatOk_at hso (by omega)).1) (by have := (hok k3 (by omega)).1; omega) ((hok k3 (by omega)).2) (by rw [spO_at (by omega) (by rw [addK_p]; exact hso.1.1) (by rw [addK_p]; exact hso.2.1.1) (by rw [addK_p, addK_p]; exact hso.2.2.1)]; have := hw ((addK vhk7_5 d k2).p k3).toNat; omega) (by omega)) ?_
  rintro _ w20_7 ⟨rfl, bp20_7, bo20_7, h20_7⟩
  refine ⟨_, rfl, ?_⟩
  refine noT (by kernel_rfl) ?_
  have L59 := L54.sub h20_7 (fun i hi hlt => Or.elim hi (fun hi => (by subst hi; exact Or.inl rfl)) (fun hi => ((fun i hi => Or.inr (Or.inr (Or.inr hi))) i hi)))
  refine G.nil (E.blkN (E.thenN (WC.region ?_)))
  refine W.a (.add rfl rfl (by omega)) ?_
  refine W.run 1 rfl (W.nil ?_)
  have f60 := ((f2_2.le d20).chP h20_7 (fun hF => Or.elim hF (fun hF => (Ne.symm n1) hF) (fun hF => n5 hF)))
  have f61 := ((f2_3.le d20).chP h20_7 (fun hF => Or.elim hF (fun hF => (Ne.symm n2) hF) (fun hF => n6 hF)))
  have f62 := (f56.chP h20_7 (fun hF => Or.elim hF (fun hF => (show g0_1 ≠ gp from by have := hp0.lt; have := h0_0.size; omega) hF) (fun hF => (fun he => by have := (hO0.row he).2; have := h0_0.size; omega) hF)))
  have f63 := (f55.chP h20_7 (fun hF => Or.elim hF (fun hF => (show g7_9_1 ≠ gp from by have := f0_0.lt; omega) hF) (fun hF => (fun he => by have := (f0_1.row he).2; omega) hF)))
  refine E.again (k3 + 1) (.cons rfl (.cons rfl (.cons rfl (.cons rfl (.cons rfl (.cons rfl (.nil _))))))) ?_ ?_
  ·exact ⟨by omega, L59, by have := zl2; have := d20.size; have := h20_7.size; omega, bp20_7, bo20_7, f60, f61, f62, f63⟩
  first | omega | (simp only []; omega)
 refine WC.condN rfl (decide_eq_false c5) ?_
 refine WC.exit (E.thenX (E.thenX (E.blkH (E.thenN (WC.seq ?_)))))
 refine WC.draw [0, 1, 2, 3, 4, 5, 6] mixed (by kernel_rfl) ?_
 intro w22 d22
 have L64 := Ll2.le d22
 refine G.run 1 rfl ?_
 refine G.a rfl (.nilCheck rfl) ?_
 refine G.a rfl (.field0 fa100_1 rfl) ?_
 have f65 := (f2_0.le d22)
 refine G.r rfl (.loadB (v := .map (some gs)) na97 rfl f65 rfl) ?_
 refine G.run 1 rfl ?_
 have f66 := (f2_5.le d22)
 refine G.r rfl (.loadAll ag60 (by rfl) rfl f66) ?_
 have f67 := (f2_2.le d22)
 refine G.ef0 rfl rfl rfl rfl ?_
 refine Ef.updateG (key := ch) (u := (addK vhk7_5 d k2)) underlying97 kint rfl rfl rfl f67 stay_i (hk7_5) ?_
 intro w22_6 b22_6 h22_6
 refine noT (by kernel_rfl) ?_
 have L68 : ChP w w22_6 (LF gp gs gh A c) := L64.ch h22_6 (fun i hi _ => by cases hi; exact Or.inr (Or.inl rfl))
 refine G.nil (E.thenN (WC.sr (W.run 1 rfl (W.nx (WC.ret ?_)))))
 have f69 := ((f2_1.le d22).ch h22_6 (fun q hq => by cases hq; exact n5))
 have f70 := (f65.ch h22_6 (fun h => (Ne.symm n1) (oI h)))
 have f71 := ((f2_3.le d22).ch h22_6 (fun h => n3 (oI h)))
 refine E.retG1 rfl rfl ?_
 have ek2 : k2 = 2 := (by omega); subst ek2; have ek : k3 = 2 := (by omega); subst ek; exact ⟨L68, .inr (.inr ⟨hok, _, hk7_5, .inr ⟨(fun i hi => hno i (by omega)), rfl, ⟨(by rw [spO_len]; exact f70), (by rw [spO_len]; exact f69), b22_6, f71, n1, n2, n3, n4, n5, n6⟩⟩⟩)⟩
end Go.Proofs.YtgpaekbdbpkogaaGreat

namespace Go.Proofs.YtgpaekbdbpkogaaGreat
open Tryz
open Go Go.Sx Go.Num
set_option maxRecDepth 20000
theorem dbl1 (D a n out : Nat) (h : n % 2 = 1) : ((out + a) % D + (a + a) % D * (n / 2)) % D = (out + a * n) % D := by
  have e : a * n = a + (a + a) * (n / 2) := by
    have hn2 : n = 2 * (n / 2) + 1 := by omega
    conv => lhs; rw [hn2]
    rw [Nat.mul_add, Nat.mul_one, <- Nat.mul_assoc, Nat.mul_two, Nat.add_comm]
  rw [e, <- Nat.add_assoc, Nat.add_mod, Nat.mod_mod, Nat.mul_mod, Nat.mod_mod, <- Nat.mul_mod, <- Nat.add_mod]
theorem dbl0 (D a n out : Nat) (h : ¬ n % 2 = 1) : (out + (a + a) % D * (n / 2)) % D = (out + a * n) % D := by
  have e : a * n = (a + a) * (n / 2) := by
    have hn2 : n = 2 * (n / 2) := by omega
    conv => lhs; rw [hn2]
    rw [<- Nat.mul_assoc, Nat.mul_two]
  rw [e, Nat.add_mod, Nat.mul_mod, Nat.mod_mod, <- Nat.mul_mod, <- Nat.add_mod]
theorem dbl_end (D a out : Nat) (h : out < D) : (out + a * 0) % D = out := by rw [Nat.mul_zero, Nat.add_zero, Nat.mod_eq_of_lt h]
def bitsTo (n b m : Nat) : Nat := (2 ^ (8 - m) * n + b / 2 ^ m) % 2305843009213688668
theorem bits_lt (n b m : Nat) : bitsTo n b m < 2305843009213688668 := Nat.mod_lt _ (by decide)
theorem bits_start (n b : Nat) (hn : n < 2305843009213688668) (hb : b < 256) : n = bitsTo n b 8 := by
  rw [bitsTo, Nat.div_eq_of_lt (by simpa using hb), Nat.sub_self, Nat.pow_zero, Nat.one_mul, Nat.add_zero, Nat.mod_eq_of_lt hn]
theorem bits_step (n b m : Nat) (h1 : 0 < m) (h8 : m <= 8) : (2 * bitsTo n b m + b / 2 ^ (m - 1) % 2) % 2305843009213688668 = bitsTo n b (m - 1) := by
  have e1 : 2 ^ (8 - (m - 1)) = 2 * 2 ^ (8 - m) := by rw [show 8 - (m - 1) = (8 - m) + 1 by omega, Nat.pow_succ, Nat.mul_comm]
  have e2 : b / 2 ^ (m - 1) = 2 * (b / 2 ^ m) + b / 2 ^ (m - 1) % 2 := by
    have : b / 2 ^ m = b / 2 ^ (m - 1) / 2 := by rw [Nat.div_div_eq_div_mul, <- Nat.pow_succ, show (m - 1).succ = m by omega]
    rw [this]; omega
  have e3 : 2 ^ (8 - (m - 1)) * n + b / 2 ^ (m - 1) = 2 * (2 ^ (8 - m) * n + b / 2 ^ m) + b / 2 ^ (m - 1) % 2 := by
    rw [e1, Nat.mul_add, Nat.mul_assoc, Nat.add_assoc, <- e2]
  rw [bitsTo, bitsTo, e3, Nat.add_mod, Nat.mul_mod, Nat.mod_mod, <- Nat.mul_mod, <- Nat.add_mod]
theorem bits_end (n b : Nat) : bitsTo n b 0 = (256 * n + b) % 2305843009213688668 := by rw [bitsTo, Nat.pow_zero, Nat.div_one]






theorem rtimes_ok (a b : Nat) (ha : a < M) (hb : b < 18446744073709551616) (w : World) : Calls prog 133 #[.int .u64 ((a : Nat) : Int), .int .u64 ((b : Nat) : Int)] w fun e w' => e = .returned (.int .u64 ((a * b % M : Nat) : Int)) /\ Le w w' := by
 refine enter func133 rfl rfl ?_
 have L0 := Le.refl w
 refine WC.sr (W.run 1 rfl (W.nx (WC.sr (W.run 1 rfl (W.nx (WC.seq (WC.block ?_)))))))
 refine WC.loop (ι := Nat × Nat × Nat) (fun ⟨x, y, out⟩ => [(0, .int .u64 ((x : Nat) : Int)), (1, .int .u64 ((y : Nat) : Int)), (5, .int .u64 ((out : Nat) : Int))]) (fun ⟨x, y, out⟩ wl => Le w wl /\ x < 4611686018427377339 /\ y < 18446744073709551616 /\ out < 4611686018427377339 /\ (out + x * y) % 4611686018427377339 = a * b % 4611686018427377339) (fun ⟨x, y, out⟩ => y) (a, b, 0) ?_ ?_ ?_
 ·exact .cons rfl (.cons rfl (.cons rfl (.nil _)))
 ·exact ⟨L0, ha, hb, by decide, by rw [Nat.zero_add]⟩
 rintro ⟨x, y, out⟩ wl ⟨Ll, hx, hy, ho, hi⟩
 refine WC.seq (WC.sr (W.run 2 rfl (W.nx ?_)))
 refine WC.cond rfl (fun c0 => ?_) (fun c0 => ?_)
 ·refine WC.sn (WC.block (WC.seq (WC.sr (W.run 1 rfl ?_))))
  refine W.a (.remN (y) (2) (y % 2) rfl rfl rfl rfl (by decide) (rfl)) ?_
  refine W.run 1 rfl (W.nx ?_)
  refine WC.cond rfl (fun c1 => ?_) (fun c1 => ?_)
  ·refine WC.region (W.run 2 rfl ?_)
   refine W.a (.addN (out) (x) (out + x) rfl rfl rfl rfl (Nat.mod_eq_of_lt (by omega))) ?_
   refine W.a (.remN (out + x) (4611686018427377339) ((out + x) % 4611686018427377339) rfl rfl rfl rfl (by decide) (rfl)) ?_
   refine W.run 1 rfl (W.nx (WC.sr (W.run 2 rfl ?_)))
   refine W.a (.addN (x) (x) (x + x) rfl rfl rfl rfl (Nat.mod_eq_of_lt (by omega))) ?_
   refine W.a (.remN (x + x) (4611686018427377339) ((x + x) % 4611686018427377339) rfl rfl rfl rfl (by decide) (rfl)) ?_
   refine W.run 1 rfl (W.nx (WC.region (W.run 1 rfl ?_)))
   refine W.a (.quoN (y) (2) (y / 2) rfl rfl rfl rfl (by omega) (by omega) (rfl)) ?_
   refine W.run 1 rfl (W.nil (E.blkN ?_))
   refine E.again ((x + x) % 4611686018427377339, y / 2, (out + x) % 4611686018427377339) (.cons rfl (.cons rfl (.cons rfl (.nil _)))) ?_ ?_
   ·exact ⟨Ll, Nat.mod_lt _ (by decide), by omega, Nat.mod_lt _ (by decide), by rw [dbl1 _ x y out (by omega)]; exact hi⟩
   first | omega | (simp only []; omega)
  refine WC.sn (WC.sr (W.run 2 rfl ?_))
  refine W.a (.addN (x) (x) (x + x) rfl rfl rfl rfl (Nat.mod_eq_of_lt (by omega))) ?_
  refine W.a (.remN (x + x) (4611686018427377339) ((x + x) % 4611686018427377339) rfl rfl rfl rfl (by decide) (rfl)) ?_
  refine W.run 1 rfl (W.nx (WC.region (W.run 1 rfl ?_)))
  refine W.a (.quoN (y) (2) (y / 2) rfl rfl rfl rfl (by omega) (by omega) (rfl)) ?_
  refine W.run 1 rfl (W.nil (E.blkN ?_))
  refine E.again ((x + x) % 4611686018427377339, y / 2, out) (.cons rfl (.cons rfl (.cons rfl (.nil _)))) ?_ ?_
  ·exact ⟨Ll, Nat.mod_lt _ (by decide), by omega, ho, by rw [dbl0 _ x y out (by omega)]; exact hi⟩
  first | omega | (simp only []; omega)
 have hy0 : y = 0 := by omega
 subst hy0
 rw [dbl_end _ _ _ ho] at hi
 refine WC.exit (E.thenX (E.thenX (E.blkH (E.thenN (WC.sr (W.run 2 rfl (W.nx (WC.ret ?_))))))))
 refine E.ret1 rfl rfl ?_
 exact ⟨by rw [hi]; rfl, Ll⟩

theorem rpower_ok (a n : Nat) (ha : a < M) (hn : n < 18446744073709551616) (w : World) : Calls prog 108 #[.int .u64 ((a : Nat) : Int), .int .u64 ((n : Nat) : Int)] w fun e w' => e = .returned (.int .u64 ((pw a n : Nat) : Int)) /\ Le w w' := by
 refine enter func108 rfl rfl ?_
 have L0 := Le.refl w
 refine WC.sr (W.run 1 rfl (W.nx (WC.sr (W.run 1 rfl (W.nx (WC.seq (WC.block ?_)))))))
 refine WC.loop (ι := Nat × Nat × Nat) (fun ⟨b, m, out⟩ => [(0, .int .u64 ((b : Nat) : Int)), (1, .int .u64 ((m : Nat) : Int)), (5, .int .u64 ((out : Nat) : Int))]) (fun ⟨b, m, out⟩ wl => Le w wl /\ b < M /\ m < 18446744073709551616 /\ out < M /\ out * b ^ m % M = pw a n) (fun ⟨b, m, out⟩ => m) (a, n, 1) ?_ ?_ ?_
 ·exact .cons rfl (.cons rfl (.cons rfl (.nil _)))
 ·exact ⟨L0, ha, hn, M_one, pw_start a n hn⟩
 rintro ⟨b, m, out⟩ wl ⟨Ll, hb, hm, ho, hi⟩
 refine WC.seq (WC.sr (W.run 2 rfl (W.nx ?_)))
 refine WC.cond rfl (fun c0 => ?_) (fun c0 => ?_)
 ·have hb2 : b < 18446744073709551616 := Nat.lt_trans hb (by decide)
  refine WC.sn (WC.block (WC.seq (WC.sr (W.run 1 rfl ?_))))
  refine W.a (.remN (m) (2) (m % 2) rfl rfl rfl rfl (by decide) (rfl)) ?_
  refine W.run 1 rfl (W.nx ?_)
  refine WC.cond rfl (fun c1 => ?_) (fun c1 => ?_)
  ·refine WC.region (W.run 2 rfl ?_)
   refine W.cl go133 rfl rfl (rtimes_ok out b ho hb2 wl) ?_
   rintro _ w4_2 ⟨rfl, h4_2⟩
   have L4_2 := Ll.trans h4_2
   refine W.run 1 rfl (W.nx (WC.sr (W.run 2 rfl ?_)))
   refine W.cl go133 rfl rfl (rtimes_ok b b hb hb2 w4_2) ?_
   rintro _ w5_2 ⟨rfl, h5_2⟩
   have L5_2 := L4_2.trans h5_2
   refine W.run 1 rfl (W.nx (WC.region (W.run 1 rfl ?_)))
   refine W.a (.quoN (m) (2) (m / 2) rfl rfl rfl rfl (by omega) (by omega) (rfl)) ?_
   refine W.run 1 rfl (W.nil (E.blkN ?_))
   refine E.again (b * b % M, m / 2, out * b % M) (.cons rfl (.cons rfl (.cons rfl (.nil _)))) ?_ ?_
   ·exact ⟨L5_2, Nat.mod_lt _ (by decide), by omega, Nat.mod_lt _ (by decide), by rw [step1 b m out (by omega)]; exact hi⟩
   first | omega | (simp only []; omega)
  refine WC.sn (WC.sr (W.run 2 rfl ?_))
  refine W.cl go133 rfl rfl (rtimes_ok b b hb hb2 wl) ?_
  rintro _ w5_2 ⟨rfl, h5_2⟩
  have L5_2 := Ll.trans h5_2
  refine W.run 1 rfl (W.nx (WC.region (W.run 1 rfl ?_)))
  refine W.a (.quoN (m) (2) (m / 2) rfl rfl rfl rfl (by omega) (by omega) (rfl)) ?_
  refine W.run 1 rfl (W.nil (E.blkN ?_))
  refine E.again (b * b % M, m / 2, out) (.cons rfl (.cons rfl (.cons rfl (.nil _)))) ?_ ?_
  ·exact ⟨L5_2, Nat.mod_lt _ (by decide), by omega, ho, by rw [step0 b m out (by omega)]; exact hi⟩
  first | omega | (simp only []; omega)
 have hm0 : m = 0 := by omega
 subst hm0
 rw [pw_end b out ho] at hi
 refine WC.exit (E.thenX (E.thenX (E.blkH (E.thenN (WC.sr (W.run 2 rfl (W.nx (WC.ret ?_))))))))
 refine E.ret1 rfl rfl ?_
 exact ⟨by rw [hi], Ll⟩

theorem rpright_ok (p : Nat) (hp : p < 18446744073709551616) (w : World) : Calls prog 93 #[.int .u64 ((p : Nat) : Int)] w fun e w' => e = .returned (.bool (right p)) /\ Le w w' := by
 refine enter func93 rfl rfl ?_
 have L0 := Le.refl w
 refine WC.sr (W.run 1 rfl (W.nx (WC.sr (W.run 1 rfl ?_))))
 by_cases h0 : 0 < p
 ·refine W.a (.dec (.geq rfl rfl) (dT (by omega))) ?_
  refine W.run 2 rfl ?_
  by_cases h1 : p < 4611686018427377339
  ·refine W.g (Any.rd (.dec (.lss rfl rfl) (dT (by omega))) _) ?_
   refine W.run 3 rfl ?_
   refine W.efg rfl rfl rfl (rfl) rfl rfl ?_
   refine Ef.call go108 rfl rfl (rpower_ok p 2305843009213688669 h1 (by decide) w) ?_
   rintro _ w1_8 ⟨rfl, h1_8⟩
   refine ⟨_, rfl, ?_⟩
   have L1_8 := L0.trans h1_8
   refine W.run 3 rfl (W.nx (WC.ret ?_))
   refine E.ret1 rfl rfl ?_
   exact ⟨by rw [right, decide_eq_true h0, dT (show p < M from h1), Bool.true_and, Bool.true_and, <- dec1]; rfl, L1_8⟩
  refine W.g (Any.rd (.dec (.lss rfl rfl) (dF (by omega))) _) ?_
  refine W.run 7 rfl (W.nx (WC.ret ?_))
  refine E.ret1 rfl rfl ?_
  exact ⟨by rw [right, dF (show ¬ p < M from h1), Bool.and_false, Bool.false_and], L0⟩
 refine W.a (.dec (.geq rfl rfl) (dF (by omega))) ?_
 refine W.run 10 rfl (W.nx (WC.ret ?_))
 refine E.ret1 rfl rfl ?_
 exact ⟨by rw [right, decide_eq_false h0, Bool.false_and, Bool.false_and], L0⟩

theorem rtaken_ok (p : Nat) (hp : p < 18446744073709551616) (w : World) : Calls prog 109 #[.int .u64 ((p : Nat) : Int)] w fun e w' => e = .returned (.int .u64 ((taken p : Nat) : Int)) /\ Le w w' := by
 refine enter func109 rfl rfl ?_
 have L0 := Le.refl w
 refine WC.sr (W.run 1 rfl (W.nx (WC.seq (WC.sr (W.run 1 rfl ?_)))))
 refine W.cl go93 rfl rfl (rpright_ok p hp w) ?_
 rintro _ w1_1 ⟨rfl, h1_1⟩
 have L1_1 := L0.trans h1_1
 refine W.nx ?_
 refine WC.condB rfl (fun c0 => ?_) (fun c0 => ?_)
 ·refine WC.sr (W.run 2 rfl (W.nx (WC.ret (E.thenR ?_))))
  refine E.ret1 rfl rfl ?_
  exact ⟨by rw [taken, if_pos c0], L1_1⟩
 refine WC.sn (WC.sr (W.run 1 rfl (W.nx (WC.ret ?_))))
 refine E.ret1 rfl rfl ?_
 exact ⟨by rw [taken, if_neg (by rw [c0]; simp)]; rfl, L1_1⟩

theorem taken_M (p : Nat) : taken p < M := ((right_iff _).1 (right_taken p)).2.1

theorem rscale_ok (p k : Nat) (hp : p < 18446744073709551616) (w : World) : Calls prog 89 #[.int .u64 ((p : Nat) : Int), .int .u64 ((k : Nat) : Int)] w fun e w' => e = .returned (.int .u64 ((scale p k : Nat) : Int)) /\ Le w w' := by
 refine enter func89 rfl rfl ?_
 have L0 := Le.refl w
 refine WC.sr (W.run 1 rfl (W.nx (WC.sr (W.run 1 rfl ?_))))
 refine W.cl go109 rfl rfl (rtaken_ok p hp w) ?_
 rintro _ w1_1 ⟨rfl, h1_1⟩
 have L1_1 := L0.trans h1_1
 refine W.run 1 rfl ?_
 refine W.a (.remN (k) (2305843009213688669) (k % 2305843009213688669) rfl rfl rfl rfl (by decide) (rfl)) ?_
 refine W.cl go108 rfl rfl (rpower_ok (taken p) (k % 2305843009213688669) (taken_M p) (by omega) w1_1) ?_
 rintro _ w1_4 ⟨rfl, h1_4⟩
 have L1_4 := L1_1.trans h1_4
 refine W.run 1 rfl (W.nx (WC.ret ?_))
 refine E.ret1 rfl rfl ?_
 exact ⟨rfl, L1_4⟩

theorem rbase_ok (k : Nat) (w : World) : Calls prog 58 #[.int .u64 ((k : Nat) : Int)] w fun e w' => e = .returned (.int .u64 ((base k : Nat) : Int)) /\ Le w w' := by
 refine enter func58 rfl rfl ?_
 have L0 := Le.refl w
 refine WC.sr (W.run 1 rfl (W.nx (WC.sr (W.run 1 rfl ?_))))
 refine W.cl go89 rfl rfl (rscale_ok 4 k (by decide) w) ?_
 rintro _ w1_1 ⟨rfl, h1_1⟩
 have L1_1 := L0.trans h1_1
 refine W.run 1 rfl (W.nx (WC.ret ?_))
 refine E.ret1 rfl rfl ?_
 exact ⟨rfl, L1_1⟩

theorem rfrom_ok (h : List (BitVec 8)) (hh : h.length = 32) (w : World) : Calls prog 56 #[.agg (h.map u8v).toArray] w fun e w' => e = .returned (.int .u64 ((fromB h : Nat) : Int)) /\ Le w w' := by
 refine enter func56 rfl rfl ?_
 have L0 := Le.refl w
 refine WC.sr (W.ef rfl rfl rfl ?_)
 refine Ef.boxA rfl ?_
 intro g0_0 w0_0 hg0_0 b0_0 h0_0
 have L0_0 := L0.trans h0_0
 refine W.run 1 rfl (W.nx (WC.sr (W.run 1 rfl (W.nx (WC.seq (WC.sr (W.run 1 rfl (W.nx (WC.block ?_)))))))))
 refine WC.loop (ι := Nat) (fun k => [(1, .pointer (some ⟨g0_0, 0, none⟩)), (3, .int .u64 ((fromTo 0 (h.take k) : Nat) : Int)), (4, .int .i64 (k : Int))]) (fun k wl => k <= 32 /\ Le w0_0 wl) (fun k => 32 - k) 0 ?_ ?_ ?_
 ·exact .cons rfl (.cons rfl (.cons rfl (.nil _)))
 ·exact ⟨by omega, Le.refl _⟩
 rintro k wl ⟨hk, Ll⟩
 have hlt : fromTo 0 (h.take k) < 2305843009213688668 := fromTo_lt _ 0 (by decide)
 refine WC.seq (WC.sr (W.run 2 rfl (W.nx ?_)))
 refine WC.cond rfl (fun c0 => ?_) (fun c0 => ?_)
 ·have hb : h[k]? = some (h.getD k 0) := by rw [List.getElem?_eq_getElem (by omega), List.getD_eq_getElem?_getD, List.getElem?_eq_getElem (by omega)]; rfl
  have hbl := (h.getD k 0).isLt
  refine WC.sn (WC.seq (WC.block (WC.sr (W.run 1 rfl (W.nx (WC.block ?_))))))
  refine WC.loop (ι := Nat) (fun m => [(1, .pointer (some ⟨g0_0, 0, none⟩)), (3, .int .u64 ((bitsTo (fromTo 0 (h.take k)) ((h.getD k 0).toNat) m : Nat) : Int)), (4, .int .i64 (k : Int)), (5, .int .i64 ((m : Int) - 1))]) (fun m wm => m <= 8 /\ Le w0_0 wm) (fun m => m) 8 ?_ ?_ ?_
  ·exact .cons rfl (.cons' rfl (int_eq (congrArg Nat.cast (bits_start _ _ hlt hbl))) (.cons rfl (.cons rfl (.nil _))))
  ·exact ⟨by omega, Ll⟩
  rintro m wm ⟨hm, Lm⟩
  have hbt := bits_lt (fromTo 0 (h.take k)) ((h.getD k 0).toNat) m
  refine WC.seq (WC.sr (W.run 2 rfl (W.nx ?_)))
  refine WC.cond rfl (fun c1 => ?_) (fun c1 => ?_)
  ·have hm1 : 0 < m := by omega
   have hb1 : (h.getD k 0).toNat / 2 ^ (m - 1) % 2 < 2 := Nat.mod_lt _ (by decide)
   have hd1 : (h.getD k 0).toNat / 2 ^ (m - 1) <= (h.getD k 0).toNat := Nat.div_le_self _ _
   refine WC.sn (WC.seq (WC.block (WC.sr (W.run 1 rfl ?_))))
   refine W.a (.idxA1 (k) underlying23 sz5 rfl rfl (rfl) (by omega)) ?_
   refine W.r (.loadB na5 rfl (b0_0.le Lm) (getbA h (by omega))) ?_
   refine W.r (.u8to64 (isS underlying5) underlying34 rfl) ?_
   refine W.run 1 rfl ?_
   refine W.r (.convEq (isS underlying3) underlying147 rfl (IntWalk.u64_in _ (by omega))) ?_
   refine W.a (.shrE ((h.getD k 0).toNat) (m - 1) ((h.getD k 0).toNat / 2 ^ (m - 1)) rfl rfl rfl (by omega) (by show m - 1 <= 64; omega) rfl) ?_
   refine W.a (.andE ((h.getD k 0).toNat / 2 ^ (m - 1)) (1) ((h.getD k 0).toNat / 2 ^ (m - 1) % 2) rfl rfl rfl rfl (by omega) (by omega) (mask1 _)) ?_
   refine W.run 1 rfl (W.nx (WC.region (W.run 1 rfl ?_)))
   refine W.a (.mulN (2) (bitsTo (fromTo 0 (h.take k)) ((h.getD k 0).toNat) m) (2 * bitsTo (fromTo 0 (h.take k)) ((h.getD k 0).toNat) m) rfl rfl rfl rfl (by omega)) ?_
   refine W.run 1 rfl ?_
   refine W.a (.addN (2 * bitsTo (fromTo 0 (h.take k)) ((h.getD k 0).toNat) m) ((h.getD k 0).toNat / 2 ^ (m - 1) % 2) (2 * bitsTo (fromTo 0 (h.take k)) ((h.getD k 0).toNat) m + (h.getD k 0).toNat / 2 ^ (m - 1) % 2) rfl rfl rfl rfl (by omega)) ?_
   refine W.a (.remN (2 * bitsTo (fromTo 0 (h.take k)) ((h.getD k 0).toNat) m + (h.getD k 0).toNat / 2 ^ (m - 1) % 2) (2305843009213688668) ((2 * bitsTo (fromTo 0 (h.take k)) ((h.getD k 0).toNat) m + (h.getD k 0).toNat / 2 ^ (m - 1) % 2) % 2305843009213688668) rfl rfl rfl rfl (by decide) (rfl)) ?_
   refine W.run 1 rfl (W.nil (E.blkN (E.thenN (WC.region (W.run 1 rfl ?_)))))
   refine W.a (.sub rfl rfl (by omega)) ?_
   refine W.run 1 rfl (W.nil ?_)
   refine E.again (m - 1) (.cons rfl (.cons' rfl (int_eq (congrArg Nat.cast (bits_step _ _ m (by omega) hm))) (.cons rfl (.cons' rfl (int_eq (by omega)) (.nil _))))) ?_ ?_
   ·exact ⟨by omega, Lm⟩
   first | omega | (simp only []; omega)
  have hm0 : m = 0 := by omega
  subst hm0
  refine WC.exit (E.thenX (E.thenX (E.blkH (E.blkN (E.thenN (WC.region (W.run 1 rfl ?_)))))))
  refine W.a (.add rfl rfl (by omega)) ?_
  refine W.run 1 rfl (W.nil ?_)
  refine E.again (k + 1) (.cons rfl (.cons' rfl (int_eq (congrArg Nat.cast (by rw [fromTo_snoc h k 0 _ hb, bits_end]; rfl))) (.cons rfl (.nil _)))) ?_ ?_
  ·exact ⟨by omega, Lm⟩
  first | omega | (simp only []; omega)
 have hk32 : k = 32 := by omega
 subst hk32
 refine WC.exit (E.thenX (E.thenX (E.blkH (E.thenN (WC.sr (W.run 1 rfl ?_))))))
 refine W.a (.addN (fromTo 0 (h.take 32)) (1) (fromTo 0 (h.take 32) + 1) rfl rfl rfl rfl (Nat.mod_eq_of_lt (by omega))) ?_
 refine W.run 1 rfl (W.nx (WC.ret ?_))
 refine E.ret1 rfl rfl ?_
 exact ⟨by rw [fromB, List.take_of_length_le (by omega)], h0_0.trans Ll⟩
end Go.Proofs.YtgpaekbdbpkogaaGreat

