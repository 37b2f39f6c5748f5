/- LedgerTells: for every input the law answers true and leaves its arguments as they were. -/
import Derived.Test.YtmgfgbplbemklaaGreatLedgerTellsO
import Derived.OrdersHeld
import Derived.WalkKit
import Derived.Deep.AppendSrc
import Derived.Deep.MidRow
import Derived.Laws.OwnMore
import Derived.WalkSpells
import Derived.Lib.ConvBytes
import Derived.Lib.AppendZerosOnto
import Derived.Laws.StructEq
import Derived.Maps.RangeRun
import Derived.Laws.Pointers
import Derived.Test.YtmgfgbplbemklaaGreatProg
import Derived.KernelRfl
import Derived.Lib.Mul64
import Derived.Shelf.SlIterI.Nil
import Derived.Shelf.SortM.Plain
import Derived.Shelf.SortM.SortNone
import Derived.Ground.GgzProg
import Derived.Ground.SlgmProg
namespace Go.Proofs.YtmgfgbplbemklaaGreat
open Go Go.Sx Go.Num Go.Gsp Go.Lsp
set_option maxRecDepth 20000
set_option linter.unusedSimpArgs false
set_option linter.unusedVariables false
theorem same46_ok {base base2 gp gm : Nat} {F Fm : Nat → Prop} {s : Led} (w : World) (hP : LPool w base gp F s) (hQ : RLPool w base2 gm Fm s) (hfw : s.lh.length ≤ 40) : Calls Tryz.prog 10 #[.pointer (some ⟨gp, 0, none⟩), .pointer (some ⟨gm, 0, none⟩)] w fun r w' => r = .returned (.bool true) ∧ Le w w' := by
 have hgd := hP.good
 have hsl := seatsL_len s.ls
 have hfew := hgd.few
 refine enter Tryz.func10 rfl rfl ?_
 have L0 := Le.refl w
 refine WC.seq (WC.region ?_)
 refine W.any (.assign rfl) rfl rfl rfl ?_
 refine W.nil (E.thenN (WC.seq (WC.region ?_)))
 refine W.any (.move rfl) rfl rfl rfl ?_
 refine W.ef rfl rfl rfl ?_
 refine Ef.call go23 rfl rfl (seats_led (s := s) hP) ?_
 rintro _ w1_1 ⟨A1_1, c1_1, rfl, o1_1, h1_1⟩
 refine ⟨_, rfl, ?_⟩
 have L1 := L0.trans h1_1
 refine W.any (.assign rfl) rfl rfl rfl ?_
 refine W.nil (E.thenN (WC.seq (WC.region ?_)))
 refine W.any (.move rfl) rfl rfl rfl ?_
 have f2 := (hQ.le h1_1)
 refine W.ef rfl rfl rfl ?_
 refine Ef.call go38 rfl rfl (seats_rled (s := s) f2 hfw) ?_
 rintro _ w2_1 ⟨A2_1, c2_1, rfl, o2_1, h2_1⟩
 refine ⟨_, rfl, ?_⟩
 have L3 := L1.trans h2_1
 refine W.any (.assign rfl) rfl rfl rfl ?_
 refine W.nil (E.thenN (WC.seq (WC.seq (WC.region ?_))))
 refine W.any (.move rfl) rfl rfl rfl ?_
 refine W.rd (.len Tryz.underlying37 rfl) rfl rfl rfl ?_
 refine W.any (.move rfl) rfl rfl rfl ?_
 refine W.rd (.len Tryz.underlying68 rfl) rfl rfl rfl ?_
 refine W.any (.dec (.neq rfl rfl) (decide_eq_false (fun h => h rfl))) rfl rfl rfl ?_
 refine W.any (.move rfl) rfl rfl rfl ?_
 refine W.rdg (Any.rd (.move rfl) _) rfl rfl rfl (rfl) rfl rfl ?_
 have f4 := (hP.le (h1_1.trans h2_1))
 refine W.efg rfl rfl rfl (rfl) rfl rfl ?_
 refine Ef.call go25 rfl rfl (lost_led (s := s) f4) ?_
 rintro _ w3_7 ⟨rfl, h3_7⟩
 refine ⟨_, rfl, ?_⟩
 have L5 := L3.trans h3_7
 refine W.rdg (Any.rd (.move rfl) _) rfl rfl rfl (rfl) rfl rfl ?_
 have f6 := (f2.le (h2_1.trans h3_7))
 refine W.efg rfl rfl rfl (rfl) rfl rfl ?_
 refine Ef.call go39 rfl rfl (lost_rled (s := s) f6 hfw) ?_
 rintro _ w3_9 ⟨rfl, h3_9⟩
 refine ⟨_, rfl, ?_⟩
 have L7 := L5.trans h3_9
 refine W.rdg (Any.rd (.dec (.neq rfl rfl) (decide_eq_false (fun h => h rfl))) _) rfl rfl rfl (rfl) rfl rfl ?_
 refine W.any (.pickF rfl rfl rfl) rfl rfl rfl ?_
 refine W.any (.move rfl) rfl rfl rfl ?_
 refine W.rdg (Any.rd (.move rfl) _) rfl rfl rfl (rfl) rfl rfl ?_
 have f8 := (f4.le (h3_7.trans h3_9))
 refine W.efg rfl rfl rfl (rfl) rfl rfl ?_
 refine Ef.call go24 rfl rfl (total_led (s := s) f8) ?_
 rintro _ w3_14 ⟨rfl, h3_14⟩
 refine ⟨_, rfl, ?_⟩
 have L9 := L7.trans h3_14
 refine W.rdg (Any.rd (.move rfl) _) rfl rfl rfl (rfl) rfl rfl ?_
 have f10 := (f6.le (h3_9.trans h3_14))
 refine W.efg rfl rfl rfl (rfl) rfl rfl ?_
 refine Ef.call go40 rfl rfl (total_rled (s := s) f10 hfw) ?_
 rintro _ w3_16 ⟨rfl, h3_16⟩
 refine ⟨_, rfl, ?_⟩
 have L11 := L9.trans h3_16
 refine W.rdg (Any.rd (.dec (.neq rfl rfl) (decide_eq_false (fun h => h rfl))) _) rfl rfl rfl (rfl) rfl rfl ?_
 refine W.any (.pickF rfl rfl rfl) rfl rfl rfl ?_
 refine W.nil (E.thenN ?_)
 refine WC.condF rfl ?_
 refine WC.skip (E.thenN (WC.seq (WC.seq (WC.region ?_))))
 refine W.any (.assign rfl) rfl rfl rfl ?_
 refine W.nil (E.thenN (WC.block ?_))
 have f12 := (f8.le (h3_14.trans h3_16))
 have f13 := (f10.le h3_16)
 have f14 := (o1_1.le (h2_1.trans (h3_7.trans (h3_9.trans (h3_14.trans h3_16)))))
 have f15 := (o2_1.le (h3_7.trans (h3_9.trans (h3_14.trans h3_16))))
 refine WC.loop (ι := Nat) (fun q => [(0, .pointer (some ⟨gp, 0, none⟩)), (1, .pointer (some ⟨gm, 0, none⟩)), (5, .slice A1_1 ((seatsL s.ls).length) c1_1), (6, .slice A2_1 ((seatsL s.ls).length) c2_1), (7, .int .i64 (((q : Nat) : Int)))]) (fun q wl0 => (q ≤ (seatsL s.ls).length) ∧ Le w wl0 ∧ w3_16.heap.size ≤ wl0.heap.size ∧ LPool wl0 base gp F s ∧ RLPool wl0 base2 gm Fm s ∧ OVec wl0 w.heap.size 44 seatV 5 A1_1 ((seatsL s.ls).length) c1_1 (seatsL s.ls) ∧ OVec wl0 w1_1.heap.size 73 seatV 5 A2_1 ((seatsL s.ls).length) c2_1 (seatsL s.ls)) (fun q => (seatsL s.ls).length - q) 0 ?_ ?_ ?_
 ·exact .cons rfl (.cons rfl (.cons rfl (.cons rfl (.cons rfl (.nil _)))))
 ·exact ⟨Nat.zero_le _, L11, Nat.le_refl _, f12, f13, f14, f15⟩
 ·rintro q wl0 ⟨hq, Ll0, zl0, f0_0, f0_1, f0_2, f0_3⟩
  have lb0_3 : w.heap.size ≤ wl0.heap.size := by have := h1_1.size; have := h2_1.size; have := h3_7.size; have := h3_9.size; have := h3_14.size; have := h3_16.size; omega
  have lb0_4 : w1_1.heap.size ≤ wl0.heap.size := by have := h2_1.size; have := h3_7.size; have := h3_9.size; have := h3_14.size; have := h3_16.size; omega
  refine WC.seq (WC.seq (WC.region ?_))
  refine W.any (.move rfl) rfl rfl rfl ?_
  refine W.any (.move rfl) rfl rfl rfl ?_
  refine W.rd (.len Tryz.underlying37 rfl) rfl rfl rfl ?_
  refine W.any (.lss rfl rfl) rfl rfl rfl ?_
  refine W.nil (E.thenN ?_)
  by_cases c1 : ((q : Nat) : Int) < (((seatsL s.ls).length : Nat) : Int)
  ·refine WC.condY rfl (decide_eq_true c1) ?_
   obtain ⟨cc, cc1, cc2, cc3, cc4⟩ := seatsL_at hgd (k := q) (by omega)
   rw [cc3] at cc2
   have hsa : seatAt' s.ls ((seatsL s.ls).getD q noSeat).ch = ((seatsL s.ls).getD q noSeat) := by unfold seatAt'; rw [cc2]; rfl
   have hso : (getG ((seatsL s.ls).getD q noSeat).ch s.ls).isSome = true := by rw [cc2]; rfl
   refine WC.skip (E.thenN (WC.seq (WC.block (WC.seq (WC.region ?_)))))
   refine W.any (.move rfl) rfl rfl rfl ?_
   refine W.any (.move rfl) rfl rfl rfl ?_
   refine W.any (.move rfl) rfl rfl rfl ?_
   refine W.any (.idxS (q) Tryz.underlying68 sz73 rfl rfl (o2_1.vec.isSome seatV_row (by omega)) (rfl) (by omega)) rfl rfl rfl ?_
   refine W.any (.vfield fa73_0 (o2_1.vec.isSome seatV_row (by omega)) rfl) rfl rfl rfl ?_
   refine W.rd (.vcell (j := q) (o := 0) (v := .int .i64 (((seatsL s.ls).getD q noSeat).ch)) na3 rfl f0_3.vec seatV_row (getS (seatsL s.ls) noSeat (by first | omega | (simp only [List.length_cons, List.length_nil]; omega))) rfl) rfl rfl rfl ?_
   refine W.ef rfl rfl rfl ?_
   refine Ef.call go22 rfl rfl ((by have h := seat_led (s := s) (((seatsL s.ls).getD q noSeat).ch) f0_0; rw [hsa, hso] at h; exact h)) ?_
   rintro _ w8_6 ⟨rfl, h8_6⟩
   refine ⟨_, rfl, ?_⟩
   have L16 := Ll0.trans h8_6
   refine W.any (.move rfl) rfl rfl rfl ?_
   refine W.any (.extract (v := .agg (seatV ((seatsL s.ls).getD q noSeat)).toArray) rfl rfl) rfl rfl rfl ?_
   refine W.any (.extract (v := .bool true) rfl rfl) rfl rfl rfl ?_
   refine W.ef rfl rfl rfl ?_
   refine Ef.allocA z44 ?_
   intro g8_10 w8_10 hg8_10 b8_10 h8_10
   have L17 := L16.trans h8_10
   have b8_10 : Blk w8_10 g8_10 44 (seatV noSeat).toArray := b8_10
   refine W.ef0 rfl rfl ?_
   refine Ef.storeAll sz44 (by rfl) rfl rfl b8_10 (by simp only [List.size_toArray, seatV_row.len]) (seatV_row.one ((seatsL s.ls).getD q noSeat)) ?_
   intro w8_11 b8_11 h8_11
   have b8_11 : Blk w8_11 g8_10 44 (seatV ((seatsL s.ls).getD q noSeat)).toArray := b8_11
   have L18 : Le w w8_11 := L17.then_ h8_11 (fun q hq => by cases hq; exact Nat.le_trans L16.size hg8_10)
   refine W.any (.assign rfl) rfl rfl rfl ?_
   refine W.nil (E.thenN (WC.seq ?_))
   refine WC.draw [0, 1, 2, 3, 4, 5, 6, 7, 8, 9, 10, 11, 12, 13, 14, 15, 16, 17, 18, 19, 20, 21, 22, 23, 24, 25, 26, 27, 28, 29, 30, 31, 32, 33, 34, 35, 36, 37, 38, 39, 40, 41, 42, 43, 44, 45, 46, 47, 48, 49, 50, 51, 52, 53, 54, 55, 57, 58, 59, 60, 61, 62, 56, 63, 64, 65, 66, 67, 68, 69, 70, 71, 72, 74, 75, 76, 77, 78, 79, 73, 80, 81, 82] mixed (by kernel_rfl) ?_
   intro w9 d9
   have L19 := L18.trans d9
   refine G.any rfl rfl (.move rfl) rfl rfl rfl ?_
   refine G.any rfl rfl (.not rfl) rfl rfl rfl ?_
   refine G.any rfl rfl (.move rfl) rfl rfl rfl ?_
   have f20 := (b8_11.le d9)
   refine G.rdg rfl rfl (.loadAll ag44 (by rfl) rfl f20) rfl rfl rfl (rfl) rfl rfl ?_
   refine G.anyg rfl rfl (.move rfl) rfl rfl rfl (rfl) rfl rfl ?_
   refine G.anyg rfl rfl (.move rfl) rfl rfl rfl (rfl) rfl rfl ?_
   refine G.anyg rfl rfl (.idxS (q) Tryz.underlying37 sz44 rfl rfl (o1_1.vec.isSome seatV_row (by omega)) (rfl) (by omega)) rfl rfl rfl (rfl) rfl rfl ?_
   have f21 := (((f0_2.le (h8_6.trans h8_10)).ch h8_11 (fun q hq => by cases hq; exact (fun he => by have := (f0_2.row he).2; have := h8_6.size; omega))).le d9)
   refine G.rdg rfl rfl (.vload ag44 rfl f21.vec seatV_row (getS (seatsL s.ls) noSeat (by first | omega | (simp only [List.length_cons, List.length_nil]; omega)))) rfl rfl rfl (rfl) rfl rfl ?_
   refine G.anyg rfl rfl (.dec (.neA eg44 rfl rfl (eqv_seatV (d := 9997) _ _)) (congrArg not (decide_eq_true rfl))) rfl rfl rfl (rfl) rfl rfl ?_
   refine G.any rfl rfl (.pickF rfl rfl rfl) rfl rfl rfl ?_
   refine G.any rfl rfl (.move rfl) rfl rfl rfl ?_
   refine G.anyg rfl rfl (.move rfl) rfl rfl rfl (rfl) rfl rfl ?_
   refine G.anyg rfl rfl (.move rfl) rfl rfl rfl (rfl) rfl rfl ?_
   refine G.anyg rfl rfl (.idxS (q) Tryz.underlying37 sz44 rfl rfl (o1_1.vec.isSome seatV_row (by omega)) (rfl) (by omega)) rfl rfl rfl (rfl) rfl rfl ?_
   refine G.anyg rfl rfl (.vfield fa44_0 (o1_1.vec.isSome seatV_row (by omega)) rfl) rfl rfl rfl (rfl) rfl rfl ?_
   refine G.rdg rfl rfl (.vcell (j := q) (o := 0) (v := .int .i64 (((seatsL s.ls).getD q noSeat).ch)) na3 rfl f21.vec seatV_row (getS (seatsL s.ls) noSeat (by first | omega | (simp only [List.length_cons, List.length_nil]; omega))) rfl) rfl rfl rfl (rfl) rfl rfl ?_
   refine G.anyg rfl rfl (.move rfl) rfl rfl rfl (rfl) rfl rfl ?_
   refine G.anyg rfl rfl (.move rfl) rfl rfl rfl (rfl) rfl rfl ?_
   refine G.anyg rfl rfl (.idxS (q) Tryz.underlying68 sz73 rfl rfl (o2_1.vec.isSome seatV_row (by omega)) (rfl) (by omega)) rfl rfl rfl (rfl) rfl rfl ?_
   refine G.anyg rfl rfl (.vfield fa73_0 (o2_1.vec.isSome seatV_row (by omega)) rfl) rfl rfl rfl (rfl) rfl rfl ?_
   have f22 := (((f0_3.le (h8_6.trans h8_10)).ch h8_11 (fun q hq => by cases hq; exact (fun he => by have := (f0_3.row he).2; have := h8_6.size; omega))).le d9)
   refine G.rdg rfl rfl (.vcell (j := q) (o := 0) (v := .int .i64 (((seatsL s.ls).getD q noSeat).ch)) na3 rfl f22.vec seatV_row (getS (seatsL s.ls) noSeat (by first | omega | (simp only [List.length_cons, List.length_nil]; omega))) rfl) rfl rfl rfl (rfl) rfl rfl ?_
   refine G.anyg rfl rfl (.dec (.neq rfl rfl) (decide_eq_false (fun h => h rfl))) rfl rfl rfl (rfl) rfl rfl ?_
   refine G.any rfl rfl (.pickF rfl rfl rfl) rfl rfl rfl ?_
   refine G.any rfl rfl (.move rfl) rfl rfl rfl ?_
   refine G.anyg rfl rfl (.move rfl) rfl rfl rfl (rfl) rfl rfl ?_
   refine G.anyg rfl rfl (.move rfl) rfl rfl rfl (rfl) rfl rfl ?_
   refine G.anyg rfl rfl (.idxS (q) Tryz.underlying37 sz44 rfl rfl (o1_1.vec.isSome seatV_row (by omega)) (rfl) (by omega)) rfl rfl rfl (rfl) rfl rfl ?_
   refine G.anyg rfl rfl (.vfield fa44_1 (o1_1.vec.isSome seatV_row (by omega)) rfl) rfl rfl rfl (rfl) rfl rfl ?_
   refine G.rdg rfl rfl (.vpart (j := q) (o := 1) (pairV (⟨((seatsL s.ls).getD q noSeat).p0, ((seatsL s.ls).getD q noSeat).p1⟩ : Pair)) ag35 rfl (by decide) rfl f21.vec seatV_row (getS (seatsL s.ls) noSeat (by first | omega | (simp only [List.length_cons, List.length_nil]; omega))) rfl) rfl rfl rfl (rfl) rfl rfl ?_
   refine G.anyg rfl rfl (.move rfl) rfl rfl rfl (rfl) rfl rfl ?_
   refine G.anyg rfl rfl (.move rfl) rfl rfl rfl (rfl) rfl rfl ?_
   refine G.anyg rfl rfl (.idxS (q) Tryz.underlying68 sz73 rfl rfl (o2_1.vec.isSome seatV_row (by omega)) (rfl) (by omega)) rfl rfl rfl (rfl) rfl rfl ?_
   refine G.anyg rfl rfl (.vfield fa73_1 (o2_1.vec.isSome seatV_row (by omega)) rfl) rfl rfl rfl (rfl) rfl rfl ?_
   refine G.rdg rfl rfl (.vpart (j := q) (o := 1) (pairV (⟨((seatsL s.ls).getD q noSeat).p0, ((seatsL s.ls).getD q noSeat).p1⟩ : Pair)) ag35 rfl (by decide) rfl f22.vec seatV_row (getS (seatsL s.ls) noSeat (by first | omega | (simp only [List.length_cons, List.length_nil]; omega))) rfl) rfl rfl rfl (rfl) rfl rfl ?_
   refine G.anyg rfl rfl (.dec (.neA eg35 rfl rfl (eqv_pairV (d := 9998) _ _)) (congrArg not (decide_eq_true rfl))) rfl rfl rfl (rfl) rfl rfl ?_
   refine G.any rfl rfl (.pickF rfl rfl rfl) rfl rfl rfl ?_
   refine G.any rfl rfl (.move rfl) rfl rfl rfl ?_
   refine G.anyg rfl rfl (.move rfl) rfl rfl rfl (rfl) rfl rfl ?_
   refine G.anyg rfl rfl (.move rfl) rfl rfl rfl (rfl) rfl rfl ?_
   refine G.anyg rfl rfl (.idxS (q) Tryz.underlying37 sz44 rfl rfl (o1_1.vec.isSome seatV_row (by omega)) (rfl) (by omega)) rfl rfl rfl (rfl) rfl rfl ?_
   refine G.anyg rfl rfl (.vfield fa44_2 (o1_1.vec.isSome seatV_row (by omega)) rfl) rfl rfl rfl (rfl) rfl rfl ?_
   refine G.rdg rfl rfl (.vpart (j := q) (o := 3) (pairV (⟨((seatsL s.ls).getD q noSeat).h0, ((seatsL s.ls).getD q noSeat).h1⟩ : Pair)) ag35 rfl (by decide) rfl f21.vec seatV_row (getS (seatsL s.ls) noSeat (by first | omega | (simp only [List.length_cons, List.length_nil]; omega))) rfl) rfl rfl rfl (rfl) rfl rfl ?_
   refine G.anyg rfl rfl (.move rfl) rfl rfl rfl (rfl) rfl rfl ?_
   refine G.anyg rfl rfl (.move rfl) rfl rfl rfl (rfl) rfl rfl ?_
   refine G.anyg rfl rfl (.idxS (q) Tryz.underlying68 sz73 rfl rfl (o2_1.vec.isSome seatV_row (by omega)) (rfl) (by omega)) rfl rfl rfl (rfl) rfl rfl ?_
   refine G.anyg rfl rfl (.vfield fa73_2 (o2_1.vec.isSome seatV_row (by omega)) rfl) rfl rfl rfl (rfl) rfl rfl ?_
   refine G.rdg rfl rfl (.vpart (j := q) (o := 3) (pairV (⟨((seatsL s.ls).getD q noSeat).h0, ((seatsL s.ls).getD q noSeat).h1⟩ : Pair)) ag35 rfl (by decide) rfl f22.vec seatV_row (getS (seatsL s.ls) noSeat (by first | omega | (simp only [List.length_cons, List.length_nil]; omega))) rfl) rfl rfl rfl (rfl) rfl rfl ?_
   refine G.anyg rfl rfl (.dec (.neA eg35 rfl rfl (eqv_pairV (d := 9998) _ _)) (congrArg not (decide_eq_true rfl))) rfl rfl rfl (rfl) rfl rfl ?_
   refine G.any rfl rfl (.pickF rfl rfl rfl) rfl rfl rfl ?_
   refine G.any rfl rfl (.move rfl) rfl rfl rfl ?_
   refine G.anyg rfl rfl (.move rfl) rfl rfl rfl (rfl) rfl rfl ?_
   refine G.anyg rfl rfl (.move rfl) rfl rfl rfl (rfl) rfl rfl ?_
   refine G.anyg rfl rfl (.move rfl) rfl rfl rfl (rfl) rfl rfl ?_
   refine G.anyg rfl rfl (.idxS (q) Tryz.underlying68 sz73 rfl rfl (o2_1.vec.isSome seatV_row (by omega)) (rfl) (by omega)) rfl rfl rfl (rfl) rfl rfl ?_
   refine G.anyg rfl rfl (.vfield fa73_0 (o2_1.vec.isSome seatV_row (by omega)) rfl) rfl rfl rfl (rfl) rfl rfl ?_
   refine G.rdg rfl rfl (.vcell (j := q) (o := 0) (v := .int .i64 (((seatsL s.ls).getD q noSeat).ch)) na3 rfl f22.vec seatV_row (getS (seatsL s.ls) noSeat (by first | omega | (simp only [List.length_cons, List.length_nil]; omega))) rfl) rfl rfl rfl (rfl) rfl rfl ?_
   refine G.anyg rfl rfl (.move rfl) rfl rfl rfl (rfl) rfl rfl ?_
   refine G.anyg rfl rfl (.move rfl) rfl rfl rfl (rfl) rfl rfl ?_
   refine G.anyg rfl rfl (.move rfl) rfl rfl rfl (rfl) rfl rfl ?_
   refine G.anyg rfl rfl (.idxS (q) Tryz.underlying68 sz73 rfl rfl (o2_1.vec.isSome seatV_row (by omega)) (rfl) (by omega)) rfl rfl rfl (rfl) rfl rfl ?_
   refine G.anyg rfl rfl (.vfield fa73_0 (o2_1.vec.isSome seatV_row (by omega)) rfl) rfl rfl rfl (rfl) rfl rfl ?_
   refine G.rdg rfl rfl (.vcell (j := q) (o := 0) (v := .int .i64 (((seatsL s.ls).getD q noSeat).ch)) na3 rfl f22.vec seatV_row (getS (seatsL s.ls) noSeat (by first | omega | (simp only [List.length_cons, List.length_nil]; omega))) rfl) rfl rfl rfl (rfl) rfl rfl ?_
   have f23 := (((f0_0.le (h8_6.trans h8_10)).ch h8_11 (fun q hqq hF => by cases hqq; have := f0_0.lt hF; have := h8_6.size; have := hg8_10; omega)).le d9)
   refine G.efg rfl rfl rfl rfl rfl (rfl) rfl rfl ?_
   refine Ef.call go15 rfl rfl (held_led (s := s) (((seatsL s.ls).getD q noSeat).ch) 0 f23) ?_
   rintro _ w9_56 ⟨rfl, h9_56⟩
   refine ⟨_, rfl, ?_⟩
   refine ⟨fun _ => h9_56, ?_⟩
   have L24 := L19.trans h9_56
   have f25 := (((f0_1.le (h8_6.trans h8_10)).ch h8_11 (fun q hqq hF => by cases hqq; have := f0_1.lt hF; have := h8_6.size; have := hg8_10; omega)).le (d9.trans h9_56))
   refine G.efg rfl rfl rfl rfl rfl (rfl) rfl rfl ?_
   refine Ef.call go41 rfl rfl (held_rled (s := s) (((seatsL s.ls).getD q noSeat).ch) 0 f25 hfw) ?_
   rintro _ w9_63 ⟨rfl, h9_63⟩
   refine ⟨_, rfl, ?_⟩
   refine ⟨fun _ => h9_63, ?_⟩
   have L26 := L24.trans h9_63
   refine G.anyg rfl rfl (.dec (.neq rfl rfl) (decide_eq_false (fun h => h rfl))) rfl rfl rfl (rfl) rfl rfl ?_
   refine G.any rfl rfl (.pickF rfl rfl rfl) rfl rfl rfl ?_
   refine G.any rfl rfl (.move rfl) rfl rfl rfl ?_
   refine G.anyg rfl rfl (.move rfl) rfl rfl rfl (rfl) rfl rfl ?_
   refine G.anyg rfl rfl (.move rfl) rfl rfl rfl (rfl) rfl rfl ?_
   refine G.anyg rfl rfl (.move rfl) rfl rfl rfl (rfl) rfl rfl ?_
   refine G.anyg rfl rfl (.idxS (q) Tryz.underlying68 sz73 rfl rfl (o2_1.vec.isSome seatV_row (by omega)) (rfl) (by omega)) rfl rfl rfl (rfl) rfl rfl ?_
   refine G.anyg rfl rfl (.vfield fa73_0 (o2_1.vec.isSome seatV_row (by omega)) rfl) rfl rfl rfl (rfl) rfl rfl ?_
   have f27 := (f22.le (h9_56.trans h9_63))
   refine G.rdg rfl rfl (.vcell (j := q) (o := 0) (v := .int .i64 (((seatsL s.ls).getD q noSeat).ch)) na3 rfl f27.vec seatV_row (getS (seatsL s.ls) noSeat (by first | omega | (simp only [List.length_cons, List.length_nil]; omega))) rfl) rfl rfl rfl (rfl) rfl rfl ?_
   refine G.anyg rfl rfl (.move rfl) rfl rfl rfl (rfl) rfl rfl ?_
   refine G.anyg rfl rfl (.move rfl) rfl rfl rfl (rfl) rfl rfl ?_
   refine G.anyg rfl rfl (.move rfl) rfl rfl rfl (rfl) rfl rfl ?_
   refine G.anyg rfl rfl (.idxS (q) Tryz.underlying68 sz73 rfl rfl (o2_1.vec.isSome seatV_row (by omega)) (rfl) (by omega)) rfl rfl rfl (rfl) rfl rfl ?_
   refine G.anyg rfl rfl (.vfield fa73_0 (o2_1.vec.isSome seatV_row (by omega)) rfl) rfl rfl rfl (rfl) rfl rfl ?_
   refine G.rdg rfl rfl (.vcell (j := q) (o := 0) (v := .int .i64 (((seatsL s.ls).getD q noSeat).ch)) na3 rfl f27.vec seatV_row (getS (seatsL s.ls) noSeat (by first | omega | (simp only [List.length_cons, List.length_nil]; omega))) rfl) rfl rfl rfl (rfl) rfl rfl ?_
   have f28 := (f23.le (h9_56.trans h9_63))
   refine G.efg rfl rfl rfl rfl rfl (rfl) rfl rfl ?_
   refine Ef.call go15 rfl rfl (held_led (s := s) (((seatsL s.ls).getD q noSeat).ch) 1 f28) ?_
   rintro _ w9_73 ⟨rfl, h9_73⟩
   refine ⟨_, rfl, ?_⟩
   refine ⟨fun _ => h9_73, ?_⟩
   have L29 := L26.trans h9_73
   have f30 := (f25.le (h9_63.trans h9_73))
   refine G.efg rfl rfl rfl rfl rfl (rfl) rfl rfl ?_
   refine Ef.call go41 rfl rfl (held_rled (s := s) (((seatsL s.ls).getD q noSeat).ch) 1 f30 hfw) ?_
   rintro _ w9_80 ⟨rfl, h9_80⟩
   refine ⟨_, rfl, ?_⟩
   refine ⟨fun _ => h9_80, ?_⟩
   have L31 := L29.trans h9_80
   refine G.anyg rfl rfl (.dec (.neq rfl rfl) (decide_eq_false (fun h => h rfl))) rfl rfl rfl (rfl) rfl rfl ?_
   refine G.any rfl rfl (.pickF rfl rfl rfl) rfl rfl rfl ?_
   refine G.nil (E.thenN ?_)
   refine WC.condF rfl ?_
   refine WC.skip (E.blkN (E.thenN (WC.region ?_)))
   refine W.any (.move rfl) rfl rfl rfl ?_
   refine W.any (.add rfl rfl (by omega)) rfl rfl rfl ?_
   refine W.any (.assign rfl) rfl rfl rfl ?_
   refine W.nil ?_
   have f32 := (f28.le (h9_73.trans h9_80))
   have f33 := (f30.le h9_80)
   have f34 := (f21.le (h9_56.trans (h9_63.trans (h9_73.trans h9_80))))
   have f35 := (f27.le (h9_73.trans h9_80))
   refine E.again (q + 1) (.cons rfl (.cons rfl (.cons rfl (.cons rfl (.cons rfl (.nil _)))))) ?_ ?_
   ·exact ⟨by omega, L31, by have := zl0; have := h8_6.size; have := h8_10.size; have := h8_11.size; have := d9.size; have := h9_56.size; have := h9_63.size; have := h9_73.size; have := h9_80.size; omega, f32, f33, f34, f35⟩
   ·first | omega | (simp only []; omega)
  ·refine WC.condN rfl (decide_eq_false c1) ?_
   refine WC.exit (E.thenX (E.thenX (E.blkH (E.thenN (WC.seq (WC.seq (WC.region ?_)))))))
   refine W.any (.assign rfl) rfl rfl rfl ?_
   refine W.nil (E.thenN (WC.block ?_))
   refine WC.loop (ι := Nat) (fun p => [(0, .pointer (some ⟨gp, 0, none⟩)), (1, .pointer (some ⟨gm, 0, none⟩)), (10, .int .i64 ((((p : Nat) : Int) - 1)))]) (fun p wl1 => (p ≤ 14) ∧ Le w wl1 ∧ wl0.heap.size ≤ wl1.heap.size ∧ LPool wl1 base gp F s ∧ RLPool wl1 base2 gm Fm s) (fun p => 14 - p) 0 ?_ ?_ ?_
   ·exact .cons rfl (.cons rfl (.cons' rfl (int_eq (by omega)) (.nil _)))
   ·exact ⟨Nat.zero_le _, Ll0, Nat.le_refl _, f0_0, f0_1⟩
   ·rintro p wl1 ⟨hp, Ll1, zl1, f1_0, f1_1⟩
    refine WC.seq (WC.seq (WC.region ?_))
    refine W.any (.move rfl) rfl rfl rfl ?_
    refine W.any (.lss rfl rfl) rfl rfl rfl ?_
    refine W.nil (E.thenN ?_)
    by_cases c3 : (((p : Nat) : Int) - 1) < 13
    ·refine WC.condY rfl (decide_eq_true c3) ?_
     refine WC.skip (E.thenN (WC.seq (WC.block (WC.seq (WC.region ?_)))))
     refine W.any (.move rfl) rfl rfl rfl ?_
     refine W.any (.move rfl) rfl rfl rfl ?_
     refine W.ef rfl rfl rfl ?_
     refine Ef.call go12 rfl rfl (own_led (s := s) (((p : Nat) : Int) - 1) f1_0) ?_
     rintro _ w14_2 ⟨rfl, h14_2⟩
     refine ⟨_, rfl, ?_⟩
     have L36 := Ll1.trans h14_2
     refine W.any (.move rfl) rfl rfl rfl ?_
     refine W.any (.move rfl) rfl rfl rfl ?_
     have f37 := (f1_1.le h14_2)
     refine W.ef rfl rfl rfl ?_
     refine Ef.call go42 rfl rfl (own_rled (s := s) (((p : Nat) : Int) - 1) f37 hfw) ?_
     rintro _ w14_5 ⟨rfl, h14_5⟩
     refine ⟨_, rfl, ?_⟩
     have L38 := L36.trans h14_5
     refine W.any (.dec (.neq rfl rfl) (decide_eq_false (fun h => h rfl))) rfl rfl rfl ?_
     refine W.any (.move rfl) rfl rfl rfl ?_
     refine W.rdg (Any.rd (.move rfl) _) rfl rfl rfl (rfl) rfl rfl ?_
     refine W.rdg (Any.rd (.move rfl) _) rfl rfl rfl (rfl) rfl rfl ?_
     have f39 := (f1_0.le (h14_2.trans h14_5))
     refine W.efg rfl rfl rfl (rfl) rfl rfl ?_
     refine Ef.call go13 rfl rfl (worth_led (s := s) (((p : Nat) : Int) - 1) f39) ?_
     rintro _ w14_10 ⟨rfl, h14_10⟩
     refine ⟨_, rfl, ?_⟩
     have L40 := L38.trans h14_10
     refine W.rdg (Any.rd (.move rfl) _) rfl rfl rfl (rfl) rfl rfl ?_
     refine W.rdg (Any.rd (.move rfl) _) rfl rfl rfl (rfl) rfl rfl ?_
     have f41 := (f37.le (h14_5.trans h14_10))
     refine W.efg rfl rfl rfl (rfl) rfl rfl ?_
     refine Ef.call go43 rfl rfl (worth_rled (s := s) (((p : Nat) : Int) - 1) f41 hfw) ?_
     rintro _ w14_13 ⟨rfl, h14_13⟩
     refine ⟨_, rfl, ?_⟩
     have L42 := L40.trans h14_13
     refine W.rdg (Any.rd (.dec (.neq rfl rfl) (decide_eq_false (fun h => h rfl))) _) rfl rfl rfl (rfl) rfl rfl ?_
     refine W.any (.pickF rfl rfl rfl) rfl rfl rfl ?_
     refine W.nil (E.thenN ?_)
     refine WC.condF rfl ?_
     refine WC.skip (E.blkN (E.thenN (WC.region ?_)))
     refine W.any (.move rfl) rfl rfl rfl ?_
     refine W.any (.add rfl rfl (by omega)) rfl rfl rfl ?_
     refine W.any (.assign rfl) rfl rfl rfl ?_
     refine W.nil ?_
     have f43 := (f39.le (h14_10.trans h14_13))
     have f44 := (f41.le h14_13)
     refine E.again (p + 1) (.cons rfl (.cons rfl (.cons' rfl (int_eq (by omega)) (.nil _)))) ?_ ?_
     ·exact ⟨by omega, L42, by have := zl1; have := h14_2.size; have := h14_5.size; have := h14_10.size; have := h14_13.size; omega, f43, f44⟩
     ·first | omega | (simp only []; omega)
    ·refine WC.condN rfl (decide_eq_false c3) ?_
     refine WC.exit (E.thenX (E.thenX (E.blkH (E.thenN (WC.seq (WC.region ?_))))))
     refine W.any (.assign rfl) rfl rfl rfl ?_
     refine W.nil (E.thenN (WC.ret ?_))
     refine E.retG1 rfl rfl ?_
     exact ⟨rfl, Ll1⟩

theorem LedgerTells_ok {Aw Al : Option Addr} {nw cw nl cl : Nat} {own : List Int} {acts : List LAct} (w : World) (hO : Vec w iv 1 Aw nw own) (hl : Vec w lactV 17 Al nl acts) (hg : ∀ a ∈ acts, ActOk w a) (hcap : nl ≤ 9223372036854775807) : Calls Tryz.prog 3 #[.slice Aw nw cw, .slice Al nl cl] w fun r w' => r = .returned (.bool true) ∧ Le w w' := by
 have hon := hO.1
 have hln := hl.1
 refine enter Tryz.func3 rfl rfl ?_
 have L0 := Le.refl w
 refine WC.seq (WC.region ?_)
 refine W.any (.assign rfl) rfl rfl rfl ?_
 refine W.nil (E.thenN (WC.seq (WC.region ?_)))
 refine W.ef rfl rfl rfl ?_
 refine Ef.call go4 rfl rfl (small46_ok w) ?_
 rintro _ w1_0 ⟨rfl, h1_0⟩
 refine ⟨_, rfl, ?_⟩
 have L1 := L0.trans h1_0
 refine W.any (.assign rfl) rfl rfl rfl ?_
 refine W.nil (E.thenN (WC.seq (WC.seq (WC.region ?_))))
 refine W.any (.move rfl) rfl rfl rfl ?_
 refine W.any (.move rfl) rfl rfl rfl ?_
 refine W.ef rfl rfl rfl ?_
 refine Ef.call go5 rfl rfl (few46_ok w1_0 (hl.le L1) Aw nw cw (by omega)) ?_
 rintro _ w2_2 ⟨bf2_2, rfl, hbf2_2, h2_2⟩
 refine ⟨_, rfl, ?_⟩
 have L2 := L1.trans h2_2
 refine W.any (.not rfl) rfl rfl rfl ?_
 refine W.nil (E.thenN ?_)
 by_cases c0 : bf2_2 = true
 ·refine WC.condN rfl (congrArg not (c0)) ?_
  obtain ⟨w1, w2, w3⟩ := hbf2_2 (by simp_all)
  refine WC.skip (E.thenN (WC.seq (WC.region ?_)))
  refine W.any (.move rfl) rfl rfl rfl ?_
  by_cases qc4_1 : newOk own
  ·refine W.ef rfl rfl rfl ?_
   refine Ef.call go6 rfl rfl (new_led w2_2 (hO.le L2) (qc4_1)) ?_
   rintro _ w4_1 ⟨gp4_1, F4_1, rfl, p4_1, h4_1⟩
   refine ⟨_, rfl, ?_⟩
   have L3 := L2.trans h4_1
   refine W.any (.assign rfl) rfl rfl rfl ?_
   refine W.nil (E.thenN (WC.seq (WC.region ?_)))
   refine W.any (.move rfl) rfl rfl rfl ?_
   refine W.ef rfl rfl rfl ?_
   refine Ef.call go7 rfl rfl (new_rled w4_1 (hO.le L3) (qc4_1)) ?_
   rintro _ w5_1 ⟨gp5_1, F5_1, rfl, p5_1, h5_1⟩
   refine ⟨_, rfl, ?_⟩
   have L4 := L3.trans h5_1
   refine W.any (.assign rfl) rfl rfl rfl ?_
   refine W.nil (E.thenN (WC.seq (WC.seq (WC.region ?_))))
   refine W.any (.move rfl) rfl rfl rfl ?_
   refine W.any (.dec (.isNilP (by kernel_rfl) rfl) rfl) rfl rfl rfl ?_
   refine W.any (.move rfl) rfl rfl rfl ?_
   refine W.rdg (Any.rd (.move rfl) _) rfl rfl rfl (rfl) rfl rfl ?_
   refine W.rdg (Any.rd (.dec (.isNilP (by kernel_rfl) rfl) rfl) _) rfl rfl rfl (rfl) rfl rfl ?_
   refine W.any (.pickF rfl rfl rfl) rfl rfl rfl ?_
   refine W.nil (E.thenN ?_)
   refine WC.condF rfl ?_
   refine WC.skip (E.thenN (WC.seq (WC.seq (WC.region ?_))))
   refine W.any (.assign rfl) rfl rfl rfl ?_
   refine W.nil (E.thenN (WC.block ?_))
   have f5 := (p4_1.le h5_1)
   refine WC.loop (ι := Nat × (Nat → Prop) × (Nat → Prop) × Led) (fun ⟨i, F, Fm, s⟩ => [(1, .slice Al nl cl), (5, .bool true), (6, .pointer (some ⟨gp4_1, 0, none⟩)), (7, .pointer (some ⟨gp5_1, 0, none⟩)), (8, .int .i64 (((i : Nat) : Int)))]) (fun ⟨i, F, Fm, s⟩ wl0 => (i ≤ nl) ∧ (s.lh.length ≤ i) ∧ Le w wl0 ∧ w5_1.heap.size ≤ wl0.heap.size ∧ LPool wl0 w2_2.heap.size gp4_1 F s ∧ RLPool wl0 w4_1.heap.size gp5_1 Fm s ∧ (∀ k, F k → ¬ Fm k)) (fun ⟨i, F, Fm, s⟩ => nl - i) (0, F4_1, F5_1, (⟨own, [], 0, [], 0, 0⟩ : Led)) ?_ ?_ ?_
   ·exact .cons rfl (.cons rfl (.cons rfl (.cons rfl (.cons rfl (.nil _)))))
   ·exact ⟨Nat.zero_le _, Nat.zero_le _, L4, Nat.le_refl _, f5, p5_1, (fun k h1 h2 => by have := p5_1.old h2;  have := p4_1.lt h1; omega)⟩
   ·rintro ⟨i, F, Fm, s⟩ wl0 ⟨hi, hsl, Ll0, zl0, f0_0, f0_1, pn0_0⟩
    refine WC.seq (WC.seq (WC.region ?_))
    refine W.any (.move rfl) rfl rfl rfl ?_
    refine W.any (.move rfl) rfl rfl rfl ?_
    refine W.rd (.len Tryz.underlying23 rfl) rfl rfl rfl ?_
    refine W.any (.lss rfl rfl) rfl rfl rfl ?_
    refine W.nil (E.thenN ?_)
    by_cases c2 : ((i : Nat) : Int) < ((nl : Nat) : Int)
    ·refine WC.condY rfl (decide_eq_true c2) ?_
     refine WC.skip (E.thenN (WC.seq (WC.block (WC.seq (WC.region ?_)))))
     refine W.any (.move rfl) rfl rfl rfl ?_
     refine W.any (.move rfl) rfl rfl rfl ?_
     refine W.any (.move rfl) rfl rfl rfl ?_
     refine W.any (.idxS (i) Tryz.underlying23 sz39 rfl rfl (hl.isSome lactV_row (by omega)) (rfl) (by omega)) rfl rfl rfl ?_
     refine W.rd (.vload ag39 rfl (hl.le Ll0) lactV_row (getS acts noLAct (by first | omega | (simp only [List.length_cons, List.length_nil]; omega)))) rfl rfl rfl ?_
     refine W.ef rfl rfl rfl ?_
     refine Ef.call go8 rfl rfl (done46_ok f0_0 ⟨hg _ (getD_mem (z := noLAct) (show i < acts.length by omega)), Ll0, L2.size⟩ (w3 _ (getD_mem (z := noLAct) (show i < acts.length by omega)))) ?_
     rintro _ w11_5 ⟨F11_5, rfl, p11_5, g11_5, h11_5⟩
     refine ⟨_, rfl, ?_⟩
     have L6 := Ll0.chP_then h11_5 (fun i hi => Nat.le_trans L2.size (f0_0.old hi))
     have zq7n := (show ∀ k, Fm k → ¬ F k from (fun k h1 h2 => pn0_0 k h2 h1))
     have zq7 := f0_1.chP h11_5 zq7n
     have zq7g : ∀ k, Fm k → ¬ F11_5 k := fun k hk hF => (g11_5 _ hF).elim (zq7n k hk) (fun hz => by have := f0_1.lt hk; omega)
     refine W.any (.assign rfl) rfl rfl rfl ?_
     refine W.nil (E.thenN (WC.seq (WC.region ?_)))
     have hmo := actL_more s (acts.getD i noLAct)
     refine W.any (.move rfl) rfl rfl rfl ?_
     refine W.any (.move rfl) rfl rfl rfl ?_
     refine W.any (.move rfl) rfl rfl rfl ?_
     refine W.any (.move rfl) rfl rfl rfl ?_
     refine W.any (.idxS (i) Tryz.underlying23 sz39 rfl rfl (hl.isSome lactV_row (by omega)) (rfl) (by omega)) rfl rfl rfl ?_
     refine W.rd (.vload ag39 rfl (hl.le L6) lactV_row (getS acts noLAct (by first | omega | (simp only [List.length_cons, List.length_nil]; omega)))) rfl rfl rfl ?_
     refine W.ef rfl rfl rfl ?_
     refine Ef.call go9 rfl rfl (told46_ok zq7 ⟨hg _ (getD_mem (z := noLAct) (show i < acts.length by omega)), L6, L3.size⟩ (w3 _ (getD_mem (z := noLAct) (show i < acts.length by omega))) (by omega)) ?_
     rintro _ w12_6 ⟨F12_6, rfl, p12_6, g12_6, h12_6⟩
     refine ⟨_, rfl, ?_⟩
     have L8 := L6.chP_then h12_6 (fun i hi => Nat.le_trans L3.size (zq7.old hi))
     have zq9n := (show ∀ k, F11_5 k → ¬ Fm k from (fun k h1 h2 => zq7g k h2 h1))
     have zq9 := p11_5.chP h12_6 zq9n
     have zq9g : ∀ k, F11_5 k → ¬ F12_6 k := fun k hk hF => (g12_6 _ hF).elim (zq9n k hk) (fun hz => by have := p11_5.lt hk; omega)
     refine W.any (.dec (.neq rfl rfl) (decide_eq_false (fun h => h rfl))) rfl rfl rfl ?_
     refine W.any (.move rfl) rfl rfl rfl ?_
     refine W.rdg (Any.rd (.move rfl) _) rfl rfl rfl (rfl) rfl rfl ?_
     refine W.rdg (Any.rd (.move rfl) _) rfl rfl rfl (rfl) rfl rfl ?_
     refine W.efg rfl rfl rfl (rfl) rfl rfl ?_
     refine Ef.call go10 rfl rfl (same46_ok w12_6 zq9 p12_6 (by omega)) ?_
     rintro _ w12_11 ⟨rfl, h12_11⟩
     refine ⟨_, rfl, ?_⟩
     have L10 := L8.trans h12_11
     refine W.rdg (Any.rd (.not rfl) _) rfl rfl rfl (rfl) rfl rfl ?_
     refine W.any (.pickF rfl rfl rfl) rfl rfl rfl ?_
     refine W.nil (E.thenN ?_)
     refine WC.condF rfl ?_
     refine WC.skip (E.blkN (E.thenN (WC.region ?_)))
     refine W.any (.move rfl) rfl rfl rfl ?_
     refine W.any (.add rfl rfl (by omega)) rfl rfl rfl ?_
     refine W.any (.assign rfl) rfl rfl rfl ?_
     refine W.nil ?_
     have f11 := (zq9.le h12_11)
     have f12 := (p12_6.le h12_11)
     refine E.again (i + 1, F11_5, F12_6, (actL s (acts.getD i noLAct)).1) (.cons rfl (.cons rfl (.cons rfl (.cons rfl (.cons rfl (.nil _)))))) ?_ ?_
     ·exact ⟨by omega, by omega, L10, by have := zl0; have := h11_5.size; have := h12_6.size; have := h12_11.size; omega, f11, f12, zq9g⟩
     ·first | omega | (simp only []; omega)
    ·refine WC.condN rfl (decide_eq_false c2) ?_
     refine WC.exit (E.thenX (E.thenX (E.blkH (E.thenN (WC.seq (WC.region ?_))))))
     refine W.any (.move rfl) rfl rfl rfl ?_
     refine W.any (.assign rfl) rfl rfl rfl ?_
     refine W.nil (E.thenN (WC.ret ?_))
     refine E.retG1 rfl rfl ?_
     exact ⟨rfl, Ll0⟩
  ·refine W.ef rfl rfl rfl ?_
   refine Ef.call go6 rfl rfl (new_none w2_2 (hO.le L2) (qc4_1)) ?_
   rintro _ w4_1_1 ⟨rfl, h4_1_1⟩
   refine ⟨_, rfl, ?_⟩
   have L13 := L2.trans h4_1_1
   refine W.any (.assign rfl) rfl rfl rfl ?_
   refine W.nil (E.thenN (WC.seq (WC.region ?_)))
   refine W.any (.move rfl) rfl rfl rfl ?_
   refine W.ef rfl rfl rfl ?_
   refine Ef.call go7 rfl rfl (new_rnone w4_1_1 (hO.le L13) (qc4_1)) ?_
   rintro _ w5_1_1 ⟨rfl, h5_1_1⟩
   refine ⟨_, rfl, ?_⟩
   have L14 := L13.trans h5_1_1
   refine W.any (.assign rfl) rfl rfl rfl ?_
   refine W.nil (E.thenN (WC.seq (WC.seq (WC.region ?_))))
   refine W.any (.move rfl) rfl rfl rfl ?_
   refine W.any (.dec (.isNilP (by kernel_rfl) rfl) rfl) rfl rfl rfl ?_
   refine W.any (.move rfl) rfl rfl rfl ?_
   refine W.skip rfl rfl rfl (rfl) rfl rfl ?_
   refine W.skip rfl rfl rfl (rfl) rfl rfl ?_
   refine W.any (.pickT rfl rfl rfl) rfl rfl rfl ?_
   refine W.nil (E.thenN ?_)
   refine WC.condT rfl ?_
   refine WC.seq (WC.region ?_)
   refine W.any (.move rfl) rfl rfl rfl ?_
   refine W.any (.move rfl) rfl rfl rfl ?_
   refine W.rdg (Any.rd (.move rfl) _) rfl rfl rfl (rfl) rfl rfl ?_
   refine W.rdg (Any.rd (.dec (.isNilP (by kernel_rfl) rfl) rfl) _) rfl rfl rfl (rfl) rfl rfl ?_
   refine W.any (.pickT rfl rfl rfl) rfl rfl rfl ?_
   refine W.any (.move rfl) rfl rfl rfl ?_
   refine W.rdg (Any.rd (.move rfl) _) rfl rfl rfl (rfl) rfl rfl ?_
   refine W.rdg (Any.rd (.dec (.isNilP (by kernel_rfl) rfl) rfl) _) rfl rfl rfl (rfl) rfl rfl ?_
   refine W.any (.pickT rfl rfl rfl) rfl rfl rfl ?_
   refine W.any (.assign rfl) rfl rfl rfl ?_
   refine W.nil (E.thenN (WC.ret (E.thenR ?_)))
   refine E.retG1 rfl rfl ?_
   exact ⟨rfl, L14⟩
 ·refine WC.condY rfl (congrArg not ((Bool.eq_false_iff.2 c0))) ?_
  refine WC.seq (WC.region ?_)
  refine W.any (.move rfl) rfl rfl rfl ?_
  refine W.any (.assign rfl) rfl rfl rfl ?_
  refine W.nil (E.thenN (WC.ret (E.thenR ?_)))
  refine E.retG1 rfl rfl ?_
  exact ⟨rfl, L2⟩
end Go.Proofs.YtmgfgbplbemklaaGreat

