/- LedgerTells: for every input the law answers true and leaves its arguments as they were. -/
import Derived.Test.YtmgfgbplbemklaaGreatLedgerTellsM
import Derived.OrdersHeld
import Derived.WalkKit
import Derived.Deep.AppendSrc
import Derived.Deep.MidRow
import Derived.Laws.OwnMore
import Derived.WalkSpells
import Derived.Lib.ConvBytes
import Derived.Lib.AppendZerosOnto
import Derived.Laws.StructEq
import Derived.Maps.RangeRun
import Derived.Laws.Pointers
import Derived.Test.YtmgfgbplbemklaaGreatProg
import Derived.KernelRfl
import Derived.Lib.Mul64
import Derived.Shelf.SlIterI.Nil
import Derived.Shelf.SortM.Plain
import Derived.Shelf.SortM.SortNone
import Derived.Ground.GgzProg
import Derived.Ground.SlgmProg
namespace Go.Proofs.YtmgfgbplbemklaaGreat
open Go Go.Sx Go.Num Go.Gsp Go.Lsp
set_option maxRecDepth 20000
set_option linter.unusedSimpArgs false
set_option linter.unusedVariables false
def lactV (a : LAct) : List Value := [.int .i64 a.do_, .int .i64 a.ch, .int .i64 a.side, .int .i64 a.id, .int .i64 a.am, .int .u64 ((a.pt : Nat) : Int), .int .u64 ((a.sec : Nat) : Int), .int .i64 a.party.a, .int .i64 a.party.b, .int .i64 a.pair.a, .int .i64 a.pair.b, .int .i64 a.fee.a, .int .i64 a.fee.b, .slice a.lA a.lN a.lC, .slice a.oA a.oN a.oC, .slice a.sA a.sN a.sC, .slice a.fA a.fN a.fC]
theorem lactV_row : RowF lactV 17 := ⟨fun _ => rfl, fun x v hv => by simp [lactV] at hv; rcases hv with rfl | rfl | rfl | rfl | rfl | rfl | rfl | rfl | rfl | rfl | rfl | rfl | rfl | rfl | rfl | rfl | rfl <;> rfl, by decide⟩
/-- What is known of an act that came in. -/
structure ActOk (w : World) (a : LAct) : Prop where
  legs : Vec w legV 3 a.lA a.lN a.legs
  old : Vec w iv 1 a.oA a.oN a.old
  seats : Vec w seatV 5 a.sA a.sN a.seats
  fees : Vec w iv 1 a.fA a.fN a.fees
  do_ : -9223372036854775808 ≤ a.do_ ∧ a.do_ ≤ 9223372036854775807
  pt : a.pt < 18446744073709551616
  pair : ∀ k, k < 2 → -9223372036854775808 ≤ a.pair.ix k ∧ a.pair.ix k ≤ 9223372036854775807
def fewA (a : LAct) : Prop := a.lN ≤ 12 ∧ a.oN ≤ 12 ∧ a.sN ≤ 45 ∧ a.fN ≤ 20
theorem few_next {acts : List LAct} {k : Nat} (h : ∀ a ∈ acts.take k, fewA a) (hk : k < acts.length) (hf : fewA (acts.getD k noLAct)) : ∀ a ∈ acts.take (k + 1), fewA a := fun a ha => by
  rw [take_next (z := noLAct) hk] at ha
  rcases List.mem_append.1 ha with ha | ha
  · exact h a ha
  · simp only [List.mem_singleton] at ha; rw [ha]; exact hf
theorem seat46_ok (a : LAct) (w : World) : Calls Tryz.prog 29 #[.agg (lactV a).toArray] w fun r w' => r = .returned (.agg (seatV (⟨a.ch, a.party.a, a.party.b, a.pair.a, a.pair.b⟩ : Seat)).toArray) ∧ Le w w' := by
 refine enter Tryz.func29 rfl rfl ?_
 have L0 := Le.refl w
 refine WC.seq (WC.region ?_)
 refine W.ef rfl rfl rfl ?_
 refine Ef.boxA rfl ?_
 intro g0_0 w0_0 hg0_0 b0_0 h0_0
 have L1 := L0.trans h0_0
 have b0_0 : Blk w0_0 g0_0 39 (lactV a).toArray := b0_0
 refine W.ef rfl rfl rfl ?_
 refine Ef.allocA z44 ?_
 intro g0_1 w0_1 hg0_1 b0_1 h0_1
 have L2 := L1.trans h0_1
 have b0_1 : Blk w0_1 g0_1 44 (seatV noSeat).toArray := b0_1
 refine W.nil (E.thenN (WC.seq (WC.region ?_)))
 refine W.any (.field0 fa39_1 rfl) rfl rfl rfl ?_
 have f3 := (b0_0.le h0_1)
 refine W.rd (.loadB (v := .int .i64 (a.ch)) na3 rfl f3 rfl) rfl rfl rfl ?_
 refine W.any (.field0 fa39_7 rfl) rfl rfl rfl ?_
 refine W.rd (.bpart [.int .i64 (a.party.a), .int .i64 (a.party.b)] ag35 rfl (by decide) rfl f3 rfl) rfl rfl rfl ?_
 refine W.any (.field0 fa39_8 rfl) rfl rfl rfl ?_
 refine W.rd (.bpart [.int .i64 (a.pair.a), .int .i64 (a.pair.b)] ag35 rfl (by decide) rfl f3 rfl) rfl rfl rfl ?_
 refine W.any (.buildP (seatV (⟨a.ch, a.party.a, a.party.b, a.pair.a, a.pair.b⟩ : Seat)) pl44 z44 rfl rfl) rfl rfl rfl ?_
 refine W.ef0 rfl rfl ?_
 refine Ef.storeAll sz44 (by rfl) rfl rfl b0_1 (by simp only [List.size_toArray, seatV_row.len]) (seatV_row.one (⟨a.ch, a.party.a, a.party.b, a.pair.a, a.pair.b⟩ : Seat)) ?_
 intro w1_7 b1_7 h1_7
 have b1_7 : Blk w1_7 g0_1 44 (seatV (⟨a.ch, a.party.a, a.party.b, a.pair.a, a.pair.b⟩ : Seat)).toArray := b1_7
 have L4 : Le w w1_7 := L2.then_ h1_7 (fun q hq => by cases hq; exact Nat.le_trans L1.size hg0_1)
 refine W.nil (E.thenN (WC.ret ?_))
 refine E.retG1 rfl (resA rfl b1_7 ag44 (by rfl)) ?_
 exact ⟨rfl, L4⟩

theorem few46_ok {Al : Option Addr} {nl cl : Nat} {acts : List LAct} (w : World) (hl : Vec w lactV 17 Al nl acts) (AO : Option Addr) (nO cO : Nat) (hcap : nl ≤ 9223372036854775807) : Calls Tryz.prog 5 #[.slice AO nO cO, .slice Al nl cl] w fun r w' => ∃ b : Bool, r = .returned (.bool b) ∧ (b = true → nO ≤ 20 ∧ nl ≤ 30 ∧ ∀ a ∈ acts, fewA a) ∧ Le w w' := by
 have hln := hl.1
 refine enter Tryz.func5 rfl rfl ?_
 have L0 := Le.refl w
 refine WC.seq (WC.region ?_)
 refine W.any (.assign rfl) rfl rfl rfl ?_
 refine W.nil (E.thenN (WC.seq (WC.seq (WC.region ?_))))
 refine W.any (.assign rfl) rfl rfl rfl ?_
 refine W.nil (E.thenN (WC.block ?_))
 refine WC.loop (ι := Nat) (fun k => [(0, .slice AO nO cO), (1, .slice Al nl cl), (5, .int .i64 (((k : Nat) : Int)))]) (fun k wl0 => (k ≤ nl) ∧ (∀ a ∈ acts.take k, fewA a) ∧ Le w wl0 ∧ w.heap.size ≤ wl0.heap.size) (fun k => nl - k) 0 ?_ ?_ ?_
 ·exact .cons rfl (.cons rfl (.cons rfl (.nil _)))
 ·exact ⟨Nat.zero_le _, fun a ha => by simp at ha, L0, Nat.le_refl _⟩
 ·rintro k wl0 ⟨hk, hf, Ll0, zl0⟩
  refine WC.seq (WC.seq (WC.region ?_))
  refine W.any (.move rfl) rfl rfl rfl ?_
  refine W.any (.move rfl) rfl rfl rfl ?_
  refine W.rd (.len Tryz.underlying23 rfl) rfl rfl rfl ?_
  refine W.any (.lss rfl rfl) rfl rfl rfl ?_
  refine W.nil (E.thenN ?_)
  by_cases c0 : ((k : Nat) : Int) < ((nl : Nat) : Int)
  ·refine WC.condY rfl (decide_eq_true c0) ?_
   refine WC.skip (E.thenN (WC.seq (WC.block (WC.seq (WC.region ?_)))))
   refine W.any (.move rfl) rfl rfl rfl ?_
   refine W.any (.move rfl) rfl rfl rfl ?_
   refine W.any (.idxS (k) Tryz.underlying23 sz39 rfl rfl (hl.isSome lactV_row (by omega)) (rfl) (by omega)) rfl rfl rfl ?_
   refine W.any (.vfield fa39_10 (hl.isSome lactV_row (by omega)) rfl) rfl rfl rfl ?_
   refine W.rd (.vcell (j := k) (o := 13) (v := .slice ((acts.getD k noLAct).lA) ((acts.getD k noLAct).lN) ((acts.getD k noLAct).lC)) na36 rfl (hl.le Ll0) lactV_row (getS acts noLAct (by first | omega | (simp only [List.length_cons, List.length_nil]; omega))) rfl) rfl rfl rfl ?_
   refine W.rd (.len Tryz.underlying36 rfl) rfl rfl rfl ?_
   refine W.any (.gtr rfl rfl) rfl rfl rfl ?_
   by_cases q4_7 : 12 < (((acts.getD k noLAct).lN : Nat) : Int)
   ·refine W.any (.dec (.move rfl) (decide_eq_true q4_7)) rfl rfl rfl ?_
    refine W.skip rfl rfl rfl (rfl) rfl rfl ?_
    refine W.skip rfl rfl rfl (rfl) rfl rfl ?_
    refine W.skip rfl rfl rfl (rfl) rfl rfl ?_
    refine W.skip rfl rfl rfl (rfl) rfl rfl ?_
    refine W.skip rfl rfl rfl (rfl) rfl rfl ?_
    refine W.skip rfl rfl rfl (rfl) rfl rfl ?_
    refine W.skip rfl rfl rfl (rfl) rfl rfl ?_
    refine W.any (.pickT rfl rfl rfl) rfl rfl rfl ?_
    refine W.any (.move rfl) rfl rfl rfl ?_
    refine W.skip rfl rfl rfl (rfl) rfl rfl ?_
    refine W.skip rfl rfl rfl (rfl) rfl rfl ?_
    refine W.skip rfl rfl rfl (rfl) rfl rfl ?_
    refine W.skip rfl rfl rfl (rfl) rfl rfl ?_
    refine W.skip rfl rfl rfl (rfl) rfl rfl ?_
    refine W.skip rfl rfl rfl (rfl) rfl rfl ?_
    refine W.skip rfl rfl rfl (rfl) rfl rfl ?_
    refine W.any (.pickT rfl rfl rfl) rfl rfl rfl ?_
    refine W.any (.move rfl) rfl rfl rfl ?_
    refine W.skip rfl rfl rfl (rfl) rfl rfl ?_
    refine W.skip rfl rfl rfl (rfl) rfl rfl ?_
    refine W.skip rfl rfl rfl (rfl) rfl rfl ?_
    refine W.skip rfl rfl rfl (rfl) rfl rfl ?_
    refine W.skip rfl rfl rfl (rfl) rfl rfl ?_
    refine W.skip rfl rfl rfl (rfl) rfl rfl ?_
    refine W.skip rfl rfl rfl (rfl) rfl rfl ?_
    refine W.any (.pickT rfl rfl rfl) rfl rfl rfl ?_
    refine W.nil (E.thenN ?_)
    refine WC.condT rfl ?_
    refine WC.seq (WC.region ?_)
    refine W.any (.assign rfl) rfl rfl rfl ?_
    refine W.nil (E.thenN (WC.ret (E.blkR (E.thenR (E.thenR (E.blkR (E.thenR ?_)))))))
    refine E.retG1 rfl rfl ?_
    exact ⟨_, rfl, (fun hh => (by cases hh)), Ll0⟩
   ·refine W.any (.dec (.move rfl) (decide_eq_false q4_7)) rfl rfl rfl ?_
    refine W.rdg (Any.rd (.move rfl) _) rfl rfl rfl (rfl) rfl rfl ?_
    refine W.rdg (Any.rd (.move rfl) _) rfl rfl rfl (rfl) rfl rfl ?_
    refine W.rdg (Any.rd (.idxS (k) Tryz.underlying23 sz39 rfl rfl (hl.isSome lactV_row (by omega)) (rfl) (by omega)) _) rfl rfl rfl (rfl) rfl rfl ?_
    refine W.rdg (Any.rd (.vfield fa39_11 (hl.isSome lactV_row (by omega)) rfl) _) rfl rfl rfl (rfl) rfl rfl ?_
    refine W.rdg (.vcell (j := k) (o := 14) (v := .slice ((acts.getD k noLAct).oA) ((acts.getD k noLAct).oN) ((acts.getD k noLAct).oC)) na22 rfl (hl.le Ll0) lactV_row (getS acts noLAct (by first | omega | (simp only [List.length_cons, List.length_nil]; omega))) rfl) rfl rfl rfl (rfl) rfl rfl ?_
    refine W.rdg (.len Tryz.underlying22 rfl) rfl rfl rfl (rfl) rfl rfl ?_
    refine W.rdg (Any.rd (.gtr rfl rfl) _) rfl rfl rfl (rfl) rfl rfl ?_
    refine W.any (.pickF rfl rfl rfl) rfl rfl rfl ?_
    by_cases q4_16 : 12 < (((acts.getD k noLAct).oN : Nat) : Int)
    ·refine W.any (.dec (.move rfl) (decide_eq_true q4_16)) rfl rfl rfl ?_
     refine W.skip rfl rfl rfl (rfl) rfl rfl ?_
     refine W.skip rfl rfl rfl (rfl) rfl rfl ?_
     refine W.skip rfl rfl rfl (rfl) rfl rfl ?_
     refine W.skip rfl rfl rfl (rfl) rfl rfl ?_
     refine W.skip rfl rfl rfl (rfl) rfl rfl ?_
     refine W.skip rfl rfl rfl (rfl) rfl rfl ?_
     refine W.skip rfl rfl rfl (rfl) rfl rfl ?_
     refine W.any (.pickT rfl rfl rfl) rfl rfl rfl ?_
     refine W.any (.move rfl) rfl rfl rfl ?_
     refine W.skip rfl rfl rfl (rfl) rfl rfl ?_
     refine W.skip rfl rfl rfl (rfl) rfl rfl ?_
     refine W.skip rfl rfl rfl (rfl) rfl rfl ?_
     refine W.skip rfl rfl rfl (rfl) rfl rfl ?_
     refine W.skip rfl rfl rfl (rfl) rfl rfl ?_
     refine W.skip rfl rfl rfl (rfl) rfl rfl ?_
     refine W.skip rfl rfl rfl (rfl) rfl rfl ?_
     refine W.any (.pickT rfl rfl rfl) rfl rfl rfl ?_
     refine W.nil (E.thenN ?_)
     refine WC.condT rfl ?_
     refine WC.seq (WC.region ?_)
     refine W.any (.assign rfl) rfl rfl rfl ?_
     refine W.nil (E.thenN (WC.ret (E.blkR (E.thenR (E.thenR (E.blkR (E.thenR ?_)))))))
     refine E.retG1 rfl rfl ?_
     exact ⟨_, rfl, (fun hh => (by cases hh)), Ll0⟩
    ·refine W.any (.dec (.move rfl) (decide_eq_false q4_16)) rfl rfl rfl ?_
     refine W.rdg (Any.rd (.move rfl) _) rfl rfl rfl (rfl) rfl rfl ?_
     refine W.rdg (Any.rd (.move rfl) _) rfl rfl rfl (rfl) rfl rfl ?_
     refine W.rdg (Any.rd (.idxS (k) Tryz.underlying23 sz39 rfl rfl (hl.isSome lactV_row (by omega)) (rfl) (by omega)) _) rfl rfl rfl (rfl) rfl rfl ?_
     refine W.rdg (Any.rd (.vfield fa39_12 (hl.isSome lactV_row (by omega)) rfl) _) rfl rfl rfl (rfl) rfl rfl ?_
     refine W.rdg (.vcell (j := k) (o := 15) (v := .slice ((acts.getD k noLAct).sA) ((acts.getD k noLAct).sN) ((acts.getD k noLAct).sC)) na37 rfl (hl.le Ll0) lactV_row (getS acts noLAct (by first | omega | (simp only [List.length_cons, List.length_nil]; omega))) rfl) rfl rfl rfl (rfl) rfl rfl ?_
     refine W.rdg (.len Tryz.underlying37 rfl) rfl rfl rfl (rfl) rfl rfl ?_
     refine W.rdg (Any.rd (.gtr rfl rfl) _) rfl rfl rfl (rfl) rfl rfl ?_
     refine W.any (.pickF rfl rfl rfl) rfl rfl rfl ?_
     by_cases q4_25 : 45 < (((acts.getD k noLAct).sN : Nat) : Int)
     ·refine W.any (.dec (.move rfl) (decide_eq_true q4_25)) rfl rfl rfl ?_
      refine W.skip rfl rfl rfl (rfl) rfl rfl ?_
      refine W.skip rfl rfl rfl (rfl) rfl rfl ?_
      refine W.skip rfl rfl rfl (rfl) rfl rfl ?_
      refine W.skip rfl rfl rfl (rfl) rfl rfl ?_
      refine W.skip rfl rfl rfl (rfl) rfl rfl ?_
      refine W.skip rfl rfl rfl (rfl) rfl rfl ?_
      refine W.skip rfl rfl rfl (rfl) rfl rfl ?_
      refine W.any (.pickT rfl rfl rfl) rfl rfl rfl ?_
      refine W.nil (E.thenN ?_)
      refine WC.condT rfl ?_
      refine WC.seq (WC.region ?_)
      refine W.any (.assign rfl) rfl rfl rfl ?_
      refine W.nil (E.thenN (WC.ret (E.blkR (E.thenR (E.thenR (E.blkR (E.thenR ?_)))))))
      refine E.retG1 rfl rfl ?_
      exact ⟨_, rfl, (fun hh => (by cases hh)), Ll0⟩
     ·refine W.any (.dec (.move rfl) (decide_eq_false q4_25)) rfl rfl rfl ?_
      refine W.rdg (Any.rd (.move rfl) _) rfl rfl rfl (rfl) rfl rfl ?_
      refine W.rdg (Any.rd (.move rfl) _) rfl rfl rfl (rfl) rfl rfl ?_
      refine W.rdg (Any.rd (.idxS (k) Tryz.underlying23 sz39 rfl rfl (hl.isSome lactV_row (by omega)) (rfl) (by omega)) _) rfl rfl rfl (rfl) rfl rfl ?_
      refine W.rdg (Any.rd (.vfield fa39_13 (hl.isSome lactV_row (by omega)) rfl) _) rfl rfl rfl (rfl) rfl rfl ?_
      refine W.rdg (.vcell (j := k) (o := 16) (v := .slice ((acts.getD k noLAct).fA) ((acts.getD k noLAct).fN) ((acts.getD k noLAct).fC)) na22 rfl (hl.le Ll0) lactV_row (getS acts noLAct (by first | omega | (simp only [List.length_cons, List.length_nil]; omega))) rfl) rfl rfl rfl (rfl) rfl rfl ?_
      refine W.rdg (.len Tryz.underlying22 rfl) rfl rfl rfl (rfl) rfl rfl ?_
      refine W.rdg (Any.rd (.gtr rfl rfl) _) rfl rfl rfl (rfl) rfl rfl ?_
      refine W.any (.pickF rfl rfl rfl) rfl rfl rfl ?_
      refine W.nil (E.thenN ?_)
      by_cases c1 : 20 < (((acts.getD k noLAct).fN : Nat) : Int)
      ·refine WC.condY rfl (decide_eq_true c1) ?_
       refine WC.seq (WC.region ?_)
       refine W.any (.assign rfl) rfl rfl rfl ?_
       refine W.nil (E.thenN (WC.ret (E.blkR (E.thenR (E.thenR (E.blkR (E.thenR ?_)))))))
       refine E.retG1 rfl rfl ?_
       exact ⟨_, rfl, (fun hh => (by cases hh)), Ll0⟩
      ·refine WC.condN rfl (decide_eq_false c1) ?_
       refine WC.skip (E.blkN (E.thenN (WC.region ?_)))
       refine W.any (.move rfl) rfl rfl rfl ?_
       refine W.any (.add rfl rfl (by omega)) rfl rfl rfl ?_
       refine W.any (.assign rfl) rfl rfl rfl ?_
       refine W.nil ?_
       refine E.again (k + 1) (.cons rfl (.cons rfl (.cons rfl (.nil _)))) ?_ ?_
       ·exact ⟨by omega, few_next hf (by omega) ⟨by omega, by omega, by omega, by omega⟩, Ll0, by have := zl0; omega⟩
       ·first | omega | (simp only []; omega)
  ·refine WC.condN rfl (decide_eq_false c0) ?_
   have hf2 : ∀ a ∈ acts, fewA a := (by rw [List.take_of_length_le (by omega)] at hf; exact hf)
   refine WC.exit (E.thenX (E.thenX (E.blkH (E.thenN (WC.seq (WC.region ?_))))))
   refine W.any (.move rfl) rfl rfl rfl ?_
   refine W.rd (.len Tryz.underlying22 rfl) rfl rfl rfl ?_
   refine W.any (.leq rfl rfl) rfl rfl rfl ?_
   by_cases q6_3 : ((nO : Nat) : Int) ≤ 20
   ·refine W.any (.dec (.move rfl) (decide_eq_true q6_3)) rfl rfl rfl ?_
    refine W.rdg (Any.rd (.move rfl) _) rfl rfl rfl (rfl) rfl rfl ?_
    refine W.rdg (.len Tryz.underlying23 rfl) rfl rfl rfl (rfl) rfl rfl ?_
    refine W.rdg (Any.rd (.leq rfl rfl) _) rfl rfl rfl (rfl) rfl rfl ?_
    refine W.any (.pickT rfl rfl rfl) rfl rfl rfl ?_
    refine W.any (.assign rfl) rfl rfl rfl ?_
    refine W.nil (E.thenN (WC.ret ?_))
    refine E.retG1 rfl rfl ?_
    exact ⟨_, rfl, (fun hh => ⟨by omega, (by have := of_decide_eq_true hh; omega), hf2⟩), Ll0⟩
   ·refine W.any (.dec (.move rfl) (decide_eq_false q6_3)) rfl rfl rfl ?_
    refine W.skip rfl rfl rfl (rfl) rfl rfl ?_
    refine W.skip rfl rfl rfl (rfl) rfl rfl ?_
    refine W.skip rfl rfl rfl (rfl) rfl rfl ?_
    refine W.any (.pickF rfl rfl rfl) rfl rfl rfl ?_
    refine W.any (.assign rfl) rfl rfl rfl ?_
    refine W.nil (E.thenN (WC.ret ?_))
    refine E.retG1 rfl rfl ?_
    exact ⟨_, rfl, (fun hh => (by cases hh)), Ll0⟩

theorem done46_ok {w0 : World} {base gp : Nat} {F : Nat → Prop} {s : Led} {a : LAct} {w : World} (hP : LPool w base gp F s) (hx : ActOk w0 a ∧ Le w0 w ∧ w0.heap.size ≤ base) (hf : fewA a) : Calls Tryz.prog 8 #[.pointer (some ⟨gp, 0, none⟩), .agg (lactV a).toArray] w (Acted w base gp F (actL s a)) := by
 obtain ⟨ha, hl0, hb0⟩ := hx
 have v1 := (ha.legs).le hl0
 have v2 := (ha.old).le hl0
 have v3 := (ha.seats).le hl0
 have v4 := (ha.fees).le hl0
 have nv1 : ∀ q, blkOf a.lA = some q → 0 < a.lN → q < w.heap.size → ¬ F q := fun q h1 h2 _ hF => by have := ha.legs.blk_lt legV_row h2 h1; have := hP.old hF; omega
 have nv2 : ∀ q, blkOf a.oA = some q → 0 < a.oN → q < w.heap.size → ¬ F q := fun q h1 h2 _ hF => by have := ha.old.blk_lt iv_row h2 h1; have := hP.old hF; omega
 have nv3 : ∀ q, blkOf a.sA = some q → 0 < a.sN → q < w.heap.size → ¬ F q := fun q h1 h2 _ hF => by have := ha.seats.blk_lt seatV_row h2 h1; have := hP.old hF; omega
 have nv4 : ∀ q, blkOf a.fA = some q → 0 < a.fN → q < w.heap.size → ¬ F q := fun q h1 h2 _ hF => by have := ha.fees.blk_lt iv_row h2 h1; have := hP.old hF; omega
 have hdo := ha.do_
 have hpt := ha.pt
 obtain ⟨f1, f2, f3, f4⟩ := hf
 refine enter Tryz.func8 rfl rfl ?_
 have L0 := ChP.refl w (F)
 refine WC.seq (WC.region ?_)
 refine W.ef rfl rfl rfl ?_
 refine Ef.boxA rfl ?_
 intro g0_0 w0_0 hg0_0 b0_0 h0_0
 have L1 := L0.le h0_0
 have b0_0 : Blk w0_0 g0_0 39 (lactV a).toArray := b0_0
 refine W.any (.assign rfl) rfl rfl rfl ?_
 refine W.nil (E.thenN (WC.seq (WC.seq (WC.region ?_))))
 refine W.any (.field0 fa39_0 rfl) rfl rfl rfl ?_
 refine W.rd (.loadB (v := .int .i64 (a.do_)) na3 rfl b0_0 rfl) rfl rfl rfl ?_
 refine W.any (.and7 rfl rfl (by omega)) rfl rfl rfl ?_
 refine W.nil (E.thenN (WC.block (WC.seq (WC.region ?_))))
 refine W.any (.eql rfl rfl) rfl rfl rfl ?_
 refine W.any (.assign rfl) rfl rfl rfl ?_
 refine W.nil (E.thenN ?_)
 by_cases c0 : (a.do_ % 8) = 0
 ·refine WC.condY rfl (decide_eq_true c0) ?_
  refine WC.seq ?_
  refine WC.draw [0, 1, 3, 4, 5, 2, 6, 7] mixed (by kernel_rfl) ?_
  intro w3 d3
  have L2 := L1.le d3
  refine G.any rfl rfl (.move rfl) rfl rfl rfl ?_
  have f3 := (b0_0.le d3)
  refine G.rd rfl rfl (.loadAll ag39 (by rfl) rfl f3) rfl rfl rfl ?_
  refine G.any rfl rfl (.field0 fa39_9 rfl) rfl rfl rfl ?_
  refine G.any rfl rfl (.idxAo (0) Tryz.underlying35 sz3 rfl rfl (rfl) (by omega)) rfl rfl rfl ?_
  refine G.rd rfl rfl (.loadB (v := .int .i64 (a.fee.a)) na3 rfl f3 rfl) rfl rfl rfl ?_
  refine G.ef rfl rfl rfl rfl rfl ?_
  refine Ef.call go29 rfl rfl (seat46_ok a w3) ?_
  rintro _ w3_2 ⟨rfl, h3_2⟩
  refine ⟨_, rfl, ?_⟩
  refine ⟨fun _ => h3_2, ?_⟩
  have L4 := L2.le h3_2
  have f5 := (hP.le (h0_0.trans (d3.trans h3_2)))
  refine G.ef rfl rfl rfl rfl rfl ?_
  refine Ef.call go11 rfl rfl (open_led (s := s) (⟨a.ch, a.party.a, a.party.b, a.pair.a, a.pair.b⟩ : Seat) a.fee.a f5) ?_
  rintro _ w3_6 ⟨F3_6, rfl, p3_6, g3_6, h3_6⟩
  refine ⟨_, rfl, ?_⟩
  refine ⟨fun h => absurd h (ne_true_of_eq_false (by kernel_rfl)), ?_⟩
  have L6 := L4.sub h3_6 (fun i hi hlt => hi)
  have f7 := (f3.le h3_2)
  have zq8n := (show ¬ F g0_0 from (fun hF => by have := hP.lt hF;  have := hg0_0; omega))
  have zq8 := f7.chP h3_6 zq8n
  have zq8g : ¬ F3_6 g0_0 := fun hF => (g3_6 _ hF).elim zq8n (fun hz => by have := f7.lt; omega)
  refine G.any rfl rfl (.assign rfl) rfl rfl rfl ?_
  refine G.nil (E.thenN (WC.ret (E.blkR (E.thenR ?_))))
  refine E.retG1 rfl rfl ?_
  have ea : actL s a = (openL s (⟨a.ch, a.party.a, a.party.b, a.pair.a, a.pair.b⟩ : Seat) a.fee.a) := (by unfold actL LAct.seat; rw [if_pos c0])
  rw [ea]
  exact ⟨_, rfl, p3_6, fun k hk => (g3_6 k hk).imp_right (fun h => Nat.le_trans (L4).size h), L6⟩
 ·refine WC.condN rfl (decide_eq_false c0) ?_
  refine WC.seq (WC.region ?_)
  refine W.any (.eql rfl rfl) rfl rfl rfl ?_
  refine W.any (.assign rfl) rfl rfl rfl ?_
  refine W.nil (E.thenN ?_)
  by_cases c1 : (a.do_ % 8) = 1
  ·refine WC.condY rfl (decide_eq_true c1) ?_
   refine WC.seq (WC.region ?_)
   refine W.any (.move rfl) rfl rfl rfl ?_
   refine W.any (.field0 fa39_1 rfl) rfl rfl rfl ?_
   refine W.rd (.loadB (v := .int .i64 (a.ch)) na3 rfl b0_0 rfl) rfl rfl rfl ?_
   refine W.any (.field0 fa39_9 rfl) rfl rfl rfl ?_
   refine W.rd (.bpart [.int .i64 (a.fee.a), .int .i64 (a.fee.b)] ag35 rfl (by decide) rfl b0_0 rfl) rfl rfl rfl ?_
   have f9 := (hP.le h0_0)
   refine W.ef rfl rfl rfl ?_
   refine Ef.call go16 rfl rfl (close_led (s := s) a.ch (⟨a.fee.a, a.fee.b⟩ : Pair) f9) ?_
   rintro _ w5_5 ⟨F5_5, rfl, p5_5, g5_5, h5_5⟩
   refine ⟨_, rfl, ?_⟩
   have L10 := L1.sub h5_5 (fun i hi hlt => hi)
   have zq11n := (show ¬ F g0_0 from (fun hF => by have := hP.lt hF;  have := hg0_0; omega))
   have zq11 := b0_0.chP h5_5 zq11n
   have zq11g : ¬ F5_5 g0_0 := fun hF => (g5_5 _ hF).elim zq11n (fun hz => by have := b0_0.lt; omega)
   refine W.any (.assign rfl) rfl rfl rfl ?_
   refine W.nil (E.thenN (WC.ret (E.blkR (E.thenR ?_))))
   refine E.retG1 rfl rfl ?_
   have ea : actL s a = (closeL s a.ch (⟨a.fee.a, a.fee.b⟩ : Pair)) := (by unfold actL LAct.seat; rw [if_neg c0, if_pos c1])
   rw [ea]
   exact ⟨_, rfl, p5_5, fun k hk => (g5_5 k hk).imp_right (fun h => Nat.le_trans (L1).size h), L10⟩
  ·refine WC.condN rfl (decide_eq_false c1) ?_
   refine WC.seq (WC.region ?_)
   refine W.any (.eql rfl rfl) rfl rfl rfl ?_
   refine W.any (.assign rfl) rfl rfl rfl ?_
   refine W.nil (E.thenN ?_)
   by_cases c2 : (a.do_ % 8) = 2
   ·refine WC.condY rfl (decide_eq_true c2) ?_
    refine WC.seq (WC.region ?_)
    refine W.any (.move rfl) rfl rfl rfl ?_
    refine W.any (.field0 fa39_1 rfl) rfl rfl rfl ?_
    refine W.rd (.loadB (v := .int .i64 (a.ch)) na3 rfl b0_0 rfl) rfl rfl rfl ?_
    refine W.any (.field0 fa39_2 rfl) rfl rfl rfl ?_
    refine W.rd (.loadB (v := .int .i64 (a.side)) na3 rfl b0_0 rfl) rfl rfl rfl ?_
    refine W.any (.field0 fa39_3 rfl) rfl rfl rfl ?_
    refine W.rd (.loadB (v := .int .i64 (a.id)) na3 rfl b0_0 rfl) rfl rfl rfl ?_
    refine W.any (.field0 fa39_4 rfl) rfl rfl rfl ?_
    refine W.rd (.loadB (v := .int .i64 (a.am)) na3 rfl b0_0 rfl) rfl rfl rfl ?_
    refine W.any (.field0 fa39_5 rfl) rfl rfl rfl ?_
    refine W.rd (.loadB (v := .int .u64 (((a.pt : Nat) : Int))) na33 rfl b0_0 rfl) rfl rfl rfl ?_
    have f12 := (hP.le h0_0)
    refine W.ef rfl rfl rfl ?_
    refine Ef.call go14 rfl rfl (offer_led (s := s) a.ch a.side a.id a.am a.pt (hpt) f12) ?_
    rintro _ w7_11 ⟨F7_11, rfl, p7_11, g7_11, h7_11⟩
    refine ⟨_, rfl, ?_⟩
    have L13 := L1.sub h7_11 (fun i hi hlt => hi)
    have zq14n := (show ¬ F g0_0 from (fun hF => by have := hP.lt hF;  have := hg0_0; omega))
    have zq14 := b0_0.chP h7_11 zq14n
    have zq14g : ¬ F7_11 g0_0 := fun hF => (g7_11 _ hF).elim zq14n (fun hz => by have := b0_0.lt; omega)
    refine W.any (.assign rfl) rfl rfl rfl ?_
    refine W.nil (E.thenN (WC.ret (E.blkR (E.thenR ?_))))
    refine E.retG1 rfl rfl ?_
    have ea : actL s a = (offerL s a.ch a.side a.id a.am a.pt) := (by unfold actL LAct.seat; rw [if_neg c0, if_neg c1, if_pos c2])
    rw [ea]
    exact ⟨_, rfl, p7_11, fun k hk => (g7_11 k hk).imp_right (fun h => Nat.le_trans (L1).size h), L13⟩
   ·refine WC.condN rfl (decide_eq_false c2) ?_
    refine WC.seq (WC.region ?_)
    refine W.any (.eql rfl rfl) rfl rfl rfl ?_
    refine W.any (.assign rfl) rfl rfl rfl ?_
    refine W.nil (E.thenN ?_)
    by_cases c3 : (a.do_ % 8) = 3
    ·refine WC.condY rfl (decide_eq_true c3) ?_
     refine WC.seq (WC.region ?_)
     refine W.any (.move rfl) rfl rfl rfl ?_
     refine W.any (.field0 fa39_1 rfl) rfl rfl rfl ?_
     refine W.rd (.loadB (v := .int .i64 (a.ch)) na3 rfl b0_0 rfl) rfl rfl rfl ?_
     refine W.any (.field0 fa39_2 rfl) rfl rfl rfl ?_
     refine W.rd (.loadB (v := .int .i64 (a.side)) na3 rfl b0_0 rfl) rfl rfl rfl ?_
     refine W.any (.field0 fa39_3 rfl) rfl rfl rfl ?_
     refine W.rd (.loadB (v := .int .i64 (a.id)) na3 rfl b0_0 rfl) rfl rfl rfl ?_
     refine W.any (.field0 fa39_6 rfl) rfl rfl rfl ?_
     refine W.rd (.loadB (v := .int .u64 (((a.sec : Nat) : Int))) na34 rfl b0_0 rfl) rfl rfl rfl ?_
     have f15 := (hP.le h0_0)
     refine W.ef rfl rfl rfl ?_
     refine Ef.call go17 rfl rfl (settle_led (s := s) a.ch a.side a.id a.sec f15) ?_
     rintro _ w9_9 ⟨F9_9, rfl, p9_9, g9_9, h9_9⟩
     refine ⟨_, rfl, ?_⟩
     have L16 := L1.sub h9_9 (fun i hi hlt => hi)
     have zq17n := (show ¬ F g0_0 from (fun hF => by have := hP.lt hF;  have := hg0_0; omega))
     have zq17 := b0_0.chP h9_9 zq17n
     have zq17g : ¬ F9_9 g0_0 := fun hF => (g9_9 _ hF).elim zq17n (fun hz => by have := b0_0.lt; omega)
     refine W.any (.assign rfl) rfl rfl rfl ?_
     refine W.nil (E.thenN (WC.ret (E.blkR (E.thenR ?_))))
     refine E.retG1 rfl rfl ?_
     have ea : actL s a = (settleL s a.ch a.side a.id a.sec) := (by unfold actL LAct.seat; rw [if_neg c0, if_neg c1, if_neg c2, if_pos c3])
     rw [ea]
     exact ⟨_, rfl, p9_9, fun k hk => (g9_9 k hk).imp_right (fun h => Nat.le_trans (L1).size h), L16⟩
    ·refine WC.condN rfl (decide_eq_false c3) ?_
     refine WC.seq (WC.region ?_)
     refine W.any (.eql rfl rfl) rfl rfl rfl ?_
     refine W.any (.assign rfl) rfl rfl rfl ?_
     refine W.nil (E.thenN ?_)
     by_cases c4 : (a.do_ % 8) = 4
     ·refine WC.condY rfl (decide_eq_true c4) ?_
      refine WC.seq (WC.region ?_)
      refine W.any (.move rfl) rfl rfl rfl ?_
      refine W.any (.field0 fa39_1 rfl) rfl rfl rfl ?_
      refine W.rd (.loadB (v := .int .i64 (a.ch)) na3 rfl b0_0 rfl) rfl rfl rfl ?_
      refine W.any (.field0 fa39_2 rfl) rfl rfl rfl ?_
      refine W.rd (.loadB (v := .int .i64 (a.side)) na3 rfl b0_0 rfl) rfl rfl rfl ?_
      refine W.any (.field0 fa39_3 rfl) rfl rfl rfl ?_
      refine W.rd (.loadB (v := .int .i64 (a.id)) na3 rfl b0_0 rfl) rfl rfl rfl ?_
      have f18 := (hP.le h0_0)
      refine W.ef rfl rfl rfl ?_
      refine Ef.call go18 rfl rfl (fail_led (s := s) a.ch a.side a.id f18) ?_
      rintro _ w11_7 ⟨F11_7, rfl, p11_7, g11_7, h11_7⟩
      refine ⟨_, rfl, ?_⟩
      have L19 := L1.sub h11_7 (fun i hi hlt => hi)
      have zq20n := (show ¬ F g0_0 from (fun hF => by have := hP.lt hF;  have := hg0_0; omega))
      have zq20 := b0_0.chP h11_7 zq20n
      have zq20g : ¬ F11_7 g0_0 := fun hF => (g11_7 _ hF).elim zq20n (fun hz => by have := b0_0.lt; omega)
      refine W.any (.assign rfl) rfl rfl rfl ?_
      refine W.nil (E.thenN (WC.ret (E.blkR (E.thenR ?_))))
      refine E.retG1 rfl rfl ?_
      have ea : actL s a = (failL s a.ch a.side a.id) := (by unfold actL LAct.seat; rw [if_neg c0, if_neg c1, if_neg c2, if_neg c3, if_pos c4])
      rw [ea]
      exact ⟨_, rfl, p11_7, fun k hk => (g11_7 k hk).imp_right (fun h => Nat.le_trans (L1).size h), L19⟩
     ·refine WC.condN rfl (decide_eq_false c4) ?_
      refine WC.seq (WC.region ?_)
      refine W.any (.eql rfl rfl) rfl rfl rfl ?_
      refine W.any (.assign rfl) rfl rfl rfl ?_
      refine W.nil (E.thenN ?_)
      by_cases c5 : (a.do_ % 8) = 5
      ·refine WC.condY rfl (decide_eq_true c5) ?_
       refine WC.seq (WC.region ?_)
       refine W.any (.move rfl) rfl rfl rfl ?_
       refine W.any (.field0 fa39_10 rfl) rfl rfl rfl ?_
       refine W.rd (.loadB (v := .slice a.lA a.lN a.lC) na36 rfl b0_0 rfl) rfl rfl rfl ?_
       have f21 := (hP.le h0_0)
       refine W.ef rfl rfl rfl ?_
       refine Ef.call go19 rfl rfl (pay_led (s := s) (cg := a.lC) f21 (v1.chP L1 nv1) (by omega) (fun q h0 h1 h2 => nv1 q h0 h1 (v1.blk_lt legV_row h1 h0))) ?_
       rintro _ w13_3 ⟨F13_3, rfl, p13_3, g13_3, h13_3⟩
       refine ⟨_, rfl, ?_⟩
       have L22 := L1.sub h13_3 (fun i hi hlt => hi)
       have zq23n := (show ¬ F g0_0 from (fun hF => by have := hP.lt hF;  have := hg0_0; omega))
       have zq23 := b0_0.chP h13_3 zq23n
       have zq23g : ¬ F13_3 g0_0 := fun hF => (g13_3 _ hF).elim zq23n (fun hz => by have := b0_0.lt; omega)
       refine W.any (.assign rfl) rfl rfl rfl ?_
       refine W.nil (E.thenN (WC.ret (E.blkR (E.thenR ?_))))
       refine E.retG1 rfl rfl ?_
       have ea : actL s a = (payL s a.legs) := (by unfold actL LAct.seat; rw [if_neg c0, if_neg c1, if_neg c2, if_neg c3, if_neg c4, if_pos c5])
       rw [ea]
       exact ⟨_, rfl, p13_3, fun k hk => (g13_3 k hk).imp_right (fun h => Nat.le_trans (L1).size h), L22⟩
      ·refine WC.condN rfl (decide_eq_false c5) ?_
       refine WC.seq (WC.region ?_)
       refine W.any (.eql rfl rfl) rfl rfl rfl ?_
       refine W.any (.assign rfl) rfl rfl rfl ?_
       refine W.nil (E.thenN ?_)
       by_cases c6 : (a.do_ % 8) = 6
       ·refine WC.condY rfl (decide_eq_true c6) ?_
        refine WC.seq (WC.region ?_)
        refine W.any (.move rfl) rfl rfl rfl ?_
        refine W.any (.field0 fa39_1 rfl) rfl rfl rfl ?_
        refine W.rd (.loadB (v := .int .i64 (a.ch)) na3 rfl b0_0 rfl) rfl rfl rfl ?_
        refine W.any (.field0 fa39_8 rfl) rfl rfl rfl ?_
        refine W.rd (.bpart [.int .i64 (a.pair.a), .int .i64 (a.pair.b)] ag35 rfl (by decide) rfl b0_0 rfl) rfl rfl rfl ?_
        refine W.any (.field0 fa39_9 rfl) rfl rfl rfl ?_
        refine W.rd (.bpart [.int .i64 (a.fee.a), .int .i64 (a.fee.b)] ag35 rfl (by decide) rfl b0_0 rfl) rfl rfl rfl ?_
        have f24 := (hP.le h0_0)
        refine W.ef rfl rfl rfl ?_
        refine Ef.call go21 rfl rfl (splice_led (s := s) a.ch (⟨a.pair.a, a.pair.b⟩ : Pair) (⟨a.fee.a, a.fee.b⟩ : Pair) (ha.pair) f24) ?_
        rintro _ w15_7 ⟨F15_7, rfl, p15_7, g15_7, h15_7⟩
        refine ⟨_, rfl, ?_⟩
        have L25 := L1.sub h15_7 (fun i hi hlt => hi)
        have zq26n := (show ¬ F g0_0 from (fun hF => by have := hP.lt hF;  have := hg0_0; omega))
        have zq26 := b0_0.chP h15_7 zq26n
        have zq26g : ¬ F15_7 g0_0 := fun hF => (g15_7 _ hF).elim zq26n (fun hz => by have := b0_0.lt; omega)
        refine W.any (.assign rfl) rfl rfl rfl ?_
        refine W.nil (E.thenN (WC.ret (E.blkR (E.thenR ?_))))
        refine E.retG1 rfl rfl ?_
        have ea : actL s a = (spliceL s a.ch (⟨a.pair.a, a.pair.b⟩ : Pair) (⟨a.fee.a, a.fee.b⟩ : Pair)) := (by unfold actL LAct.seat; rw [if_neg c0, if_neg c1, if_neg c2, if_neg c3, if_neg c4, if_neg c5, if_pos c6])
        rw [ea]
        exact ⟨_, rfl, p15_7, fun k hk => (g15_7 k hk).imp_right (fun h => Nat.le_trans (L1).size h), L25⟩
       ·refine WC.condN rfl (decide_eq_false c6) ?_
        refine WC.skip (E.blkN (E.thenN (WC.seq (WC.region ?_))))
        refine W.any (.move rfl) rfl rfl rfl ?_
        refine W.any (.field0 fa39_11 rfl) rfl rfl rfl ?_
        refine W.rd (.loadB (v := .slice a.oA a.oN a.oC) na22 rfl b0_0 rfl) rfl rfl rfl ?_
        refine W.any (.field0 fa39_12 rfl) rfl rfl rfl ?_
        refine W.rd (.loadB (v := .slice a.sA a.sN a.sC) na37 rfl b0_0 rfl) rfl rfl rfl ?_
        refine W.any (.field0 fa39_13 rfl) rfl rfl rfl ?_
        refine W.rd (.loadB (v := .slice a.fA a.fN a.fC) na22 rfl b0_0 rfl) rfl rfl rfl ?_
        have f27 := (hP.le h0_0)
        refine W.ef rfl rfl rfl ?_
        refine Ef.call go20 rfl rfl (cut_led (s := s) (co := a.oC) (cS := a.sC) (cf := a.fC) f27 (v2.chP L1 nv2) (v3.chP L1 nv3) (v4.chP L1 nv4) (by omega) (by omega) (by omega) (fun q h0 h1 h2 => nv2 q h0 h1 (v2.blk_lt iv_row h1 h0)) (fun q h0 h1 h2 => nv3 q h0 h1 (v3.blk_lt seatV_row h1 h0)) (fun q h0 h1 h2 => nv4 q h0 h1 (v4.blk_lt iv_row h1 h0))) ?_
        rintro _ w16_7 ⟨F16_7, rfl, p16_7, g16_7, h16_7⟩
        refine ⟨_, rfl, ?_⟩
        have L28 := L1.sub h16_7 (fun i hi hlt => hi)
        have zq29n := (show ¬ F g0_0 from (fun hF => by have := hP.lt hF;  have := hg0_0; omega))
        have zq29 := b0_0.chP h16_7 zq29n
        have zq29g : ¬ F16_7 g0_0 := fun hF => (g16_7 _ hF).elim zq29n (fun hz => by have := b0_0.lt; omega)
        refine W.any (.assign rfl) rfl rfl rfl ?_
        refine W.nil (E.thenN (WC.ret ?_))
        refine E.retG1 rfl rfl ?_
        have ea : actL s a = (cutL s a.old a.seats a.fees) := (by unfold actL LAct.seat; rw [if_neg c0, if_neg c1, if_neg c2, if_neg c3, if_neg c4, if_neg c5, if_neg c6])
        rw [ea]
        exact ⟨_, rfl, p16_7, fun k hk => (g16_7 k hk).imp_right (fun h => Nat.le_trans (L1).size h), L28⟩
end Go.Proofs.YtmgfgbplbemklaaGreat

namespace Go.Proofs.YtmgfgbplbemklaaGreat
open Go Go.Sx Go.Num Go.Gsp Go.Lsp
set_option maxRecDepth 20000
set_option linter.unusedSimpArgs false
set_option linter.unusedVariables false
theorem giveO_set {l : List Int} {t : Seat} {j i : Nat} {am fee v : Int} (hi : i = (t.p j).toNat) (hv : v = l.getD i 0 - (am + fee)) : l.set i v = giveO l t j am fee := by
  subst hi hv
  rfl
/-- The place of a channel as the document tells it: -1: there is none. -/
def AtR (l : List Seat) (ch : Int) (v : Int) : Prop := (v = -1 ∧ ∀ k, k < l.length → (l.getD k noSeat).ch ≠ ch) ∨ ∃ k : Nat, v = (k : Int) ∧ k < l.length ∧ (l.getD k noSeat).ch = ch
theorem rat2_ok {gp cm cl ch_ : Nat} {Am Al Ah : Option Addr} {m : RLed} (ch : Int) (w : World) (hL : RLL w gp Am cm Al cl Ah ch_ m) (hf : SmallR m) : Calls Tryz.prog 59 #[.pointer (some ⟨gp, 0, none⟩), .int .i64 ch] w fun r w' => ∃ v, r = .returned (.int .i64 v) ∧ AtR m.l ch v ∧ Le w w' := by
  refine Calls.mono (rat_ok ch w hL hf) ?_
  rintro r w' ⟨hl, ⟨rfl, h⟩ | ⟨k, rfl, h1, h2⟩⟩
  · exact ⟨_, rfl, .inl ⟨rfl, h⟩, hl⟩
  · exact ⟨_, rfl, .inr ⟨k, rfl, h1, h2⟩, hl⟩
theorem ropen_ok {gp cm cl ch_ : Nat} {Am Al Ah : Option Addr} {m : RLed} {s : Led} (t : Seat) (fee : Int) (w : World) (hL : RLL w gp Am cm Al cl Ah ch_ m) (hf : SmallR m) (hR : RelL s m) (hG : GoodL s) : Calls Tryz.prog 30 #[.pointer (some ⟨gp, 0, none⟩), .agg (seatV t).toArray, .int .i64 (fee)] w fun r w' => ChP w w' (fun k => k = gp ∨ rowOf Am cm = some k ∨ rowOf Al cl = some k ∨ rowOf Ah ch_ = some k) ∧ ∃ Am' cm' Al' cl' Ah' ch' m', r = .returned (.int .i64 (openL s t fee).2) ∧ RLL w' gp Am' cm' Al' cl' Ah' ch' m' ∧ RelL (openL s t fee).1 m' ∧ ∀ g, RLF gp Am' cm' Al' cl' Ah' ch' g → RLF gp Am cm Al cl Ah ch_ g ∨ w.heap.size ≤ g := by
 have hp0 := hL.hp; have hM0 := hL.hM; have hS0 := hL.hS; have hH0 := hL.hH
 have hfl := hf.few
 have e1 := hR.mine; have e2 := hR.gone
 refine enter Tryz.func30 rfl rfl ?_
 have L0 := ChP.refl w (fun k => k = gp ∨ rowOf Am cm = some k ∨ rowOf Al cl = some k ∨ rowOf Ah ch_ = some k)
 refine WC.seq (WC.region ?_)
 refine W.ef rfl rfl rfl ?_
 refine Ef.boxA rfl ?_
 intro g0_0 w0_0 hg0_0 b0_0 h0_0
 have L1 := L0.le h0_0
 have b0_0 : Blk w0_0 g0_0 73 (seatV t).toArray := b0_0
 refine W.any (.assign rfl) rfl rfl rfl ?_
 refine W.nil (E.thenN (WC.seq (WC.seq (WC.region ?_))))
 refine W.any (.move rfl) rfl rfl rfl ?_
 refine W.rd (.loadAll ag73 (by rfl) rfl b0_0) rfl rfl rfl ?_
 have f2 := (hp0.le h0_0)
 have f3 := (hM0.le h0_0)
 have f4 := (hS0.le h0_0)
 have f5 := (hH0.le h0_0)
 refine W.ef rfl rfl rfl ?_
 refine Ef.call go58 rfl rfl (rmay_ok t w0_0 ⟨f2, f3, f4, f5, hL.mp, hL.lp, hL.hpp, hL.ml, hL.mh, hL.lh⟩ hf) ?_
 rintro _ w1_2 ⟨bm1_2, rfl, hbm1_2, h1_2⟩
 refine ⟨_, rfl, ?_⟩
 have L6 := L1.le h1_2
 refine W.any (.not rfl) rfl rfl rfl ?_
 by_cases q1_4 : bm1_2 = true
 ·refine W.any (.dec (.move rfl) (congrArg not (q1_4))) rfl rfl rfl ?_
  refine W.rdg (Any.rd (.move rfl) _) rfl rfl rfl (rfl) rfl rfl ?_
  refine W.efg rfl rfl rfl (rfl) rfl rfl ?_
  refine Ef.call go28 rfl rfl (rcoin_ok fee w1_2) ?_
  rintro _ w1_6 ⟨rfl, h1_6⟩
  refine ⟨_, rfl, ?_⟩
  have L7 := L6.le h1_6
  refine W.rdg (Any.rd (.not rfl) _) rfl rfl rfl (rfl) rfl rfl ?_
  refine W.any (.pickF rfl rfl rfl) rfl rfl rfl ?_
  refine W.nil (E.thenN ?_)
  by_cases c0 : (coinL fee) = true
  ·refine WC.condN rfl (congrArg not (c0)) ?_
   have hok : mayL s.own.length t ∧ 0 ≤ fee ∧ fee ≤ 1125899906842624 := by rw [← e1]; have q5 : coinL fee = true := (by simp_all); refine ⟨hbm1_2.1 (by simp_all), ?_⟩; simpa [coinL] using q5
   have hml := hok.1; unfold mayL at hml; rw [← e1] at hml
   have hm0 := hf.mine t.p0.toNat; have hm1 := hf.mine t.p1.toNat
   have hg1 : (giveO m.mine t 0 t.h0 fee).getD t.p1.toNat 0 = m.mine.getD t.p1.toNat 0 := giveO_ne (k := 1) (show 0 ≤ t.p 0 from hml.1.1) (show 0 ≤ t.p 1 from hml.2.1.1) (show t.p 0 ≠ t.p 1 from hml.2.2.2.2)
   have hgl := giveO_len m.mine t 0 t.h0 fee
   refine WC.skip (E.thenN (WC.seq (WC.seq (WC.region ?_))))
   refine W.any (.move rfl) rfl rfl rfl ?_
   refine W.any (.field0 fa73_0 rfl) rfl rfl rfl ?_
   have f8 := (b0_0.le (h1_2.trans h1_6))
   refine W.rd (.loadB (v := .int .i64 (t.ch)) na3 rfl f8 rfl) rfl rfl rfl ?_
   have f9 := (f2.le (h1_2.trans h1_6))
   have f10 := (f3.le (h1_2.trans h1_6))
   have f11 := (f4.le (h1_2.trans h1_6))
   have f12 := (f5.le (h1_2.trans h1_6))
   refine W.ef rfl rfl rfl ?_
   refine Ef.call go59 rfl rfl (rat2_ok t.ch w1_6 ⟨f9, f10, f11, f12, hL.mp, hL.lp, hL.hpp, hL.ml, hL.mh, hL.lh⟩ hf) ?_
   rintro _ w3_3 ⟨v3_3, rfl, hat3_3, h3_3⟩
   refine ⟨_, rfl, ?_⟩
   have L13 := L7.le h3_3
   refine W.any (.geq rfl rfl) rfl rfl rfl ?_
   refine W.nil (E.thenN ?_)
   by_cases c1 : 0 ≤ v3_3
   ·refine WC.condY rfl (decide_eq_true c1) ?_
    have htw : (getG t.ch s.ls).isSome = true := by rcases hat3_3 with ⟨q, _⟩ | ⟨k, q, q1, q2⟩; omega; rw [← q2, hR.at_some hG q1]; rfl
    refine WC.seq (WC.region ?_)
    refine W.any (.assign rfl) rfl rfl rfl ?_
    refine W.nil (E.thenN (WC.ret (E.thenR ?_)))
    have f14 := (f9.le h3_3)
    have f15 := (f10.le h3_3)
    have f16 := (f11.le h3_3)
    have f17 := (f12.le h3_3)
    refine E.retG1 rfl rfl ?_
    
    have ho : openL s t fee = (s, 4) := by unfold openL; rw [if_neg (not_not_intro hok), if_pos htw]
    rw [ho]; exact ⟨L13, _, _, _, _, _, _, m, rfl, ⟨f14, f15, f16, f17, hL.mp, hL.lp, hL.hpp, hL.ml, hL.mh, hL.lh⟩, hR, fun g hg => .inl hg⟩
   ·refine WC.condN rfl (decide_eq_false c1) ?_
    have hnn : getG t.ch s.ls = none := by rcases hat3_3 with ⟨_, q⟩ | ⟨k, q, q1, q2⟩; exact hR.at_none q; omega
    have htw : ¬ (getG t.ch s.ls).isSome = true := by rw [hnn]; simp
    refine WC.skip (E.thenN (WC.seq (WC.seq ?_)))
    refine WC.draw [0, 1, 2, 3, 4, 5, 6, 7, 8, 9, 10, 11, 12, 13, 14, 15, 16, 17, 18, 19, 20, 21, 22, 23, 24, 25, 26, 27, 28, 29] mixed (by kernel_rfl) ?_
    intro w5 d5
    have L18 := L13.le d5
    refine G.any rfl rfl (.move rfl) rfl rfl rfl ?_
    refine G.any rfl rfl (.nilCheck rfl) rfl rfl rfl ?_
    refine G.any rfl rfl (.field0 fa71_0 rfl) rfl rfl rfl ?_
    have f19 := (f9.le (h3_3.trans d5))
    refine G.rd rfl rfl (.loadB (v := .slice Am m.mine.length cm) na22 rfl f19 rfl) rfl rfl rfl ?_
    refine G.any rfl rfl (.field0 fa73_1 rfl) rfl rfl rfl ?_
    refine G.any rfl rfl (.idxAo (0) Tryz.underlying35 sz3 rfl rfl (rfl) (by omega)) rfl rfl rfl ?_
    have f20 := (f8.le (h3_3.trans d5))
    refine G.rd rfl rfl (.loadB (v := .int .i64 (t.p0)) na3 rfl f20 rfl) rfl rfl rfl ?_
    refine G.any rfl rfl (.idxS (t.p0.toNat) Tryz.underlying22 sz3 rfl rfl (hM0.vec.isSome iv_row (by omega)) (by omega) (by omega)) rfl rfl rfl ?_
    have f21 := (f10.le (h3_3.trans d5))
    refine G.rd rfl rfl (.vone (v := .int .i64 ((m.mine.getD t.p0.toNat 0))) na3 rfl f21.vec iv_row (getS m.mine 0 (by first | omega | (simp only [List.length_cons, List.length_nil]; omega))) rfl) rfl rfl rfl ?_
    refine G.any rfl rfl (.field0 fa73_2 rfl) rfl rfl rfl ?_
    refine G.any rfl rfl (.idxAo (0) Tryz.underlying35 sz3 rfl rfl (rfl) (by omega)) rfl rfl rfl ?_
    refine G.rd rfl rfl (.loadB (v := .int .i64 (t.h0)) na3 rfl f20 rfl) rfl rfl rfl ?_
    refine G.any rfl rfl (.move rfl) rfl rfl rfl ?_
    refine G.any rfl rfl (.add rfl rfl (by omega)) rfl rfl rfl ?_
    refine G.any rfl rfl (.lss rfl rfl) rfl rfl rfl ?_
    by_cases q5_15 : (m.mine.getD t.p0.toNat 0) < (t.h0 + fee)
    ·refine G.any rfl rfl (.dec (.move rfl) (decide_eq_true q5_15)) rfl rfl rfl ?_
     refine G.skip rfl rfl rfl rfl (rfl) rfl rfl ?_
     refine G.skip rfl rfl rfl rfl (rfl) rfl rfl ?_
     refine G.skip rfl rfl rfl rfl (rfl) rfl rfl ?_
     refine G.skip rfl rfl rfl rfl (rfl) rfl rfl ?_
     refine G.skip rfl rfl rfl rfl (rfl) rfl rfl ?_
     refine G.skip rfl rfl rfl rfl (rfl) rfl rfl ?_
     refine G.skip rfl rfl rfl rfl (rfl) rfl rfl ?_
     refine G.skip rfl rfl rfl rfl (rfl) rfl rfl ?_
     refine G.skip rfl rfl rfl rfl (rfl) rfl rfl ?_
     refine G.skip rfl rfl rfl rfl (rfl) rfl rfl ?_
     refine G.skip rfl rfl rfl rfl (rfl) rfl rfl ?_
     refine G.skip rfl rfl rfl rfl (rfl) rfl rfl ?_
     refine G.skip rfl rfl rfl rfl (rfl) rfl rfl ?_
     refine G.any rfl rfl (.pickT rfl rfl rfl) rfl rfl rfl ?_
     refine G.nil (E.thenN ?_)
     refine WC.condT rfl ?_
     refine WC.seq (WC.region ?_)
     refine W.any (.assign rfl) rfl rfl rfl ?_
     refine W.nil (E.thenN (WC.ret (E.thenR ?_)))
     have f22 := (f11.le (h3_3.trans d5))
     have f23 := (f12.le (h3_3.trans d5))
     refine E.retG1 rfl rfl ?_
     have hfu : s.own.getD t.p0.toNat 0 < t.h0 + fee ∨ s.own.getD t.p1.toNat 0 < t.h1 := (by rw [← e1]; first | (left; assumption) | (right; assumption))
     have ho : openL s t fee = (s, 8) := by unfold openL; rw [if_neg (not_not_intro hok), if_neg htw, if_pos hfu]
     rw [ho]; exact ⟨L18, _, _, _, _, _, _, m, rfl, ⟨f19, f21, f22, f23, hL.mp, hL.lp, hL.hpp, hL.ml, hL.mh, hL.lh⟩, hR, fun g hg => .inl hg⟩
    ·refine G.any rfl rfl (.dec (.move rfl) (decide_eq_false q5_15)) rfl rfl rfl ?_
     refine G.anyg rfl rfl (.move rfl) rfl rfl rfl (rfl) rfl rfl ?_
     refine G.anyg rfl rfl (.nilCheck rfl) rfl rfl rfl (rfl) rfl rfl ?_
     refine G.anyg rfl rfl (.field0 fa71_0 rfl) rfl rfl rfl (rfl) rfl rfl ?_
     refine G.rdg rfl rfl (.loadB (v := .slice Am m.mine.length cm) na22 rfl f19 rfl) rfl rfl rfl (rfl) rfl rfl ?_
     refine G.anyg rfl rfl (.field0 fa73_1 rfl) rfl rfl rfl (rfl) rfl rfl ?_
     refine G.anyg rfl rfl (.idxAo (1) Tryz.underlying35 sz3 rfl rfl (rfl) (by omega)) rfl rfl rfl (rfl) rfl rfl ?_
     refine G.rdg rfl rfl (.loadB (v := .int .i64 (t.p1)) na3 rfl f20 rfl) rfl rfl rfl (rfl) rfl rfl ?_
     refine G.anyg rfl rfl (.idxS (t.p1.toNat) Tryz.underlying22 sz3 rfl rfl (hM0.vec.isSome iv_row (by omega)) (by omega) (by omega)) rfl rfl rfl (rfl) rfl rfl ?_
     refine G.rdg rfl rfl (.vone (v := .int .i64 ((m.mine.getD t.p1.toNat 0))) na3 rfl f21.vec iv_row (getS m.mine 0 (by first | omega | (simp only [List.length_cons, List.length_nil]; omega))) rfl) rfl rfl rfl (rfl) rfl rfl ?_
     refine G.anyg rfl rfl (.field0 fa73_2 rfl) rfl rfl rfl (rfl) rfl rfl ?_
     refine G.anyg rfl rfl (.idxAo (1) Tryz.underlying35 sz3 rfl rfl (rfl) (by omega)) rfl rfl rfl (rfl) rfl rfl ?_
     refine G.rdg rfl rfl (.loadB (v := .int .i64 (t.h1)) na3 rfl f20 rfl) rfl rfl rfl (rfl) rfl rfl ?_
     refine G.anyg rfl rfl (.lss rfl rfl) rfl rfl rfl (rfl) rfl rfl ?_
     refine G.any rfl rfl (.pickF rfl rfl rfl) rfl rfl rfl ?_
     refine G.nil (E.thenN ?_)
     by_cases c2 : (m.mine.getD t.p1.toNat 0) < t.h1
     ·refine WC.condY rfl (decide_eq_true c2) ?_
      refine WC.seq (WC.region ?_)
      refine W.any (.assign rfl) rfl rfl rfl ?_
      refine W.nil (E.thenN (WC.ret (E.thenR ?_)))
      have f24 := (f11.le (h3_3.trans d5))
      have f25 := (f12.le (h3_3.trans d5))
      refine E.retG1 rfl rfl ?_
      have hfu : s.own.getD t.p0.toNat 0 < t.h0 + fee ∨ s.own.getD t.p1.toNat 0 < t.h1 := (by rw [← e1]; first | (left; assumption) | (right; assumption))
      have ho : openL s t fee = (s, 8) := by unfold openL; rw [if_neg (not_not_intro hok), if_neg htw, if_pos hfu]
      rw [ho]; exact ⟨L18, _, _, _, _, _, _, m, rfl, ⟨f19, f21, f24, f25, hL.mp, hL.lp, hL.hpp, hL.ml, hL.mh, hL.lh⟩, hR, fun g hg => .inl hg⟩
     ·refine WC.condN rfl (decide_eq_false c2) ?_
      refine WC.skip (E.thenN (WC.seq ?_))
      refine WC.draw [0, 1, 2, 3, 4, 5, 6, 7, 8, 9, 10, 11, 12, 13, 14, 15, 16, 17, 18, 19, 20, 21, 22, 23] mixed (by kernel_rfl) ?_
      intro w7 d7
      have L26 := L18.le d7
      refine G.any rfl rfl (.move rfl) rfl rfl rfl ?_
      refine G.any rfl rfl (.nilCheck rfl) rfl rfl rfl ?_
      refine G.any rfl rfl (.field0 fa71_0 rfl) rfl rfl rfl ?_
      have f27 := (f19.le d7)
      refine G.rd rfl rfl (.loadB (v := .slice Am m.mine.length cm) na22 rfl f27 rfl) rfl rfl rfl ?_
      refine G.any rfl rfl (.field0 fa73_1 rfl) rfl rfl rfl ?_
      refine G.any rfl rfl (.idxAo (0) Tryz.underlying35 sz3 rfl rfl (rfl) (by omega)) rfl rfl rfl ?_
      have f28 := (f20.le d7)
      refine G.rd rfl rfl (.loadB (v := .int .i64 (t.p0)) na3 rfl f28 rfl) rfl rfl rfl ?_
      refine G.any rfl rfl (.move rfl) rfl rfl rfl ?_
      refine G.any rfl rfl (.nilCheck rfl) rfl rfl rfl ?_
      refine G.any rfl rfl (.field0 fa71_0 rfl) rfl rfl rfl ?_
      refine G.rd rfl rfl (.loadB (v := .slice Am m.mine.length cm) na22 rfl f27 rfl) rfl rfl rfl ?_
      refine G.any rfl rfl (.field0 fa73_1 rfl) rfl rfl rfl ?_
      refine G.any rfl rfl (.idxAo (0) Tryz.underlying35 sz3 rfl rfl (rfl) (by omega)) rfl rfl rfl ?_
      refine G.rd rfl rfl (.loadB (v := .int .i64 (t.p0)) na3 rfl f28 rfl) rfl rfl rfl ?_
      refine G.any rfl rfl (.idxS (t.p0.toNat) Tryz.underlying22 sz3 rfl rfl (hM0.vec.isSome iv_row (by omega)) (by omega) (by omega)) rfl rfl rfl ?_
      have f29 := (f21.le d7)
      refine G.rd rfl rfl (.vone (v := .int .i64 ((m.mine.getD t.p0.toNat 0))) na3 rfl f29.vec iv_row (getS m.mine 0 (by first | omega | (simp only [List.length_cons, List.length_nil]; omega))) rfl) rfl rfl rfl ?_
      refine G.any rfl rfl (.field0 fa73_2 rfl) rfl rfl rfl ?_
      refine G.any rfl rfl (.idxAo (0) Tryz.underlying35 sz3 rfl rfl (rfl) (by omega)) rfl rfl rfl ?_
      refine G.rd rfl rfl (.loadB (v := .int .i64 (t.h0)) na3 rfl f28 rfl) rfl rfl rfl ?_
      refine G.any rfl rfl (.sub rfl rfl (by omega)) rfl rfl rfl ?_
      refine G.any rfl rfl (.move rfl) rfl rfl rfl ?_
      refine G.any rfl rfl (.sub rfl rfl (by omega)) rfl rfl rfl ?_
      refine G.any rfl rfl (.idxS (t.p0.toNat) Tryz.underlying22 sz3 rfl rfl (hM0.vec.isSome iv_row (by omega)) (by omega) (by omega)) rfl rfl rfl ?_
      refine G.ef0 rfl rfl rfl rfl ?_
      refine Ef.vset (j := t.p0.toNat) (o := 0) (((m.mine.getD t.p0.toNat 0) - t.h0) - fee) sz3 rfl (by omega) rfl f29 iv_row (getS m.mine 0 (by omega)) (by decide) rfl rfl ?_
      intro w7_23 o7_23 h7_23
      refine ⟨fun h => absurd h (ne_true_of_eq_false (by kernel_rfl)), ?_⟩
      have L30 : ChP w w7_23 (fun k => k = gp ∨ rowOf Am cm = some k ∨ rowOf Al cl = some k ∨ rowOf Ah ch_ = some k) := L26.ch h7_23 (fun i hi _ => (fun i hi => Or.inr (Or.inl hi)) i hi)
      have o31 := o7_23.cast (m' := m.mine.length) (ys := (giveO m.mine t 0 t.h0 fee)) (rfl) (giveO_set (j := 0) rfl (by omega))
      refine G.nil (E.thenN (WC.seq ?_))
      refine WC.draw [0, 1, 2, 3, 4, 5, 6, 7, 8, 9, 10, 11, 12, 13, 14, 15, 16, 17, 18, 19, 20, 21] mixed (by kernel_rfl) ?_
      intro w8 d8
      have L32 := L30.le d8
      refine G.any rfl rfl (.move rfl) rfl rfl rfl ?_
      refine G.any rfl rfl (.nilCheck rfl) rfl rfl rfl ?_
      refine G.any rfl rfl (.field0 fa71_0 rfl) rfl rfl rfl ?_
      have f33 := ((f27.ch h7_23 hL.mp).le d8)
      refine G.rd rfl rfl (.loadB (v := .slice Am m.mine.length cm) na22 rfl f33 rfl) rfl rfl rfl ?_
      refine G.any rfl rfl (.field0 fa73_1 rfl) rfl rfl rfl ?_
      refine G.any rfl rfl (.idxAo (1) Tryz.underlying35 sz3 rfl rfl (rfl) (by omega)) rfl rfl rfl ?_
      have f34 := ((f28.ch h7_23 (fun he => by have := (hM0.row he).2; omega)).le d8)
      refine G.rd rfl rfl (.loadB (v := .int .i64 (t.p1)) na3 rfl f34 rfl) rfl rfl rfl ?_
      refine G.any rfl rfl (.move rfl) rfl rfl rfl ?_
      refine G.any rfl rfl (.nilCheck rfl) rfl rfl rfl ?_
      refine G.any rfl rfl (.field0 fa71_0 rfl) rfl rfl rfl ?_
      refine G.rd rfl rfl (.loadB (v := .slice Am m.mine.length cm) na22 rfl f33 rfl) rfl rfl rfl ?_
      refine G.any rfl rfl (.field0 fa73_1 rfl) rfl rfl rfl ?_
      refine G.any rfl rfl (.idxAo (1) Tryz.underlying35 sz3 rfl rfl (rfl) (by omega)) rfl rfl rfl ?_
      refine G.rd rfl rfl (.loadB (v := .int .i64 (t.p1)) na3 rfl f34 rfl) rfl rfl rfl ?_
      refine G.any rfl rfl (.idxS (t.p1.toNat) Tryz.underlying22 sz3 rfl rfl (hM0.vec.isSome iv_row (by omega)) (by omega) (by omega)) rfl rfl rfl ?_
      have f35 := (o31.le d8)
      refine G.rd rfl rfl (.vone (v := .int .i64 (((giveO m.mine t 0 t.h0 fee).getD t.p1.toNat 0))) na3 rfl f35.vec iv_row (getS (giveO m.mine t 0 t.h0 fee) 0 (by first | omega | (simp only [List.length_cons, List.length_nil]; omega))) rfl) rfl rfl rfl ?_
      refine G.any rfl rfl (.field0 fa73_2 rfl) rfl rfl rfl ?_
      refine G.any rfl rfl (.idxAo (1) Tryz.underlying35 sz3 rfl rfl (rfl) (by omega)) rfl rfl rfl ?_
      refine G.rd rfl rfl (.loadB (v := .int .i64 (t.h1)) na3 rfl f34 rfl) rfl rfl rfl ?_
      refine G.any rfl rfl (.sub rfl rfl (by omega)) rfl rfl rfl ?_
      refine G.any rfl rfl (.idxS (t.p1.toNat) Tryz.underlying22 sz3 rfl rfl (hM0.vec.isSome iv_row (by omega)) (by omega) (by omega)) rfl rfl rfl ?_
      refine G.ef0 rfl rfl rfl rfl ?_
      refine Ef.vset (j := t.p1.toNat) (o := 0) (((giveO m.mine t 0 t.h0 fee).getD t.p1.toNat 0) - t.h1) sz3 rfl (by omega) rfl f35 iv_row (getS (giveO m.mine t 0 t.h0 fee) 0 (by omega)) (by decide) rfl rfl ?_
      intro w8_21 o8_21 h8_21
      refine ⟨fun h => absurd h (ne_true_of_eq_false (by kernel_rfl)), ?_⟩
      have L36 : ChP w w8_21 (fun k => k = gp ∨ rowOf Am cm = some k ∨ rowOf Al cl = some k ∨ rowOf Ah ch_ = some k) := L32.ch h8_21 (fun i hi _ => (fun i hi => Or.inr (Or.inl hi)) i hi)
      have o37 := o8_21.cast (m' := m.mine.length) (ys := (giveO (giveO m.mine t 0 t.h0 fee) t 1 t.h1 0)) (rfl) (giveO_set (j := 1) rfl (by omega))
      refine G.nil (E.thenN (WC.seq (WC.region ?_)))
      refine W.any (.move rfl) rfl rfl rfl ?_
      refine W.any (.move rfl) rfl rfl rfl ?_
      refine W.any (.nilCheck rfl) rfl rfl rfl ?_
      refine W.any (.field0 fa71_3 rfl) rfl rfl rfl ?_
      have f38 := (f33.ch h8_21 hL.mp)
      refine W.rd (.loadB (v := .int .i64 (m.gone)) na3 rfl f38 rfl) rfl rfl rfl ?_
      refine W.any (.move rfl) rfl rfl rfl ?_
      refine W.any (.add rfl rfl (by have := hG.lostB; omega)) rfl rfl rfl ?_
      refine W.any (.nilCheck rfl) rfl rfl rfl ?_
      refine W.any (.field0 fa71_3 rfl) rfl rfl rfl ?_
      refine W.ef0 rfl rfl ?_
      refine Ef.store sz3 rfl rfl f38 (by first | decide | (simp; done)) (rfl) ?_
      intro w9_9 b9_9 h9_9
      have b9_9 : Blk w9_9 gp 71 #[.slice Am m.mine.length cm, .slice Al m.l.length cl, .slice Ah m.hs.length ch_, .int .i64 ((m.gone + fee))] := b9_9
      have L39 : ChP w w9_9 (fun k => k = gp ∨ rowOf Am cm = some k ∨ rowOf Al cl = some k ∨ rowOf Ah ch_ = some k) := L36.ch h9_9 (fun i hi _ => by cases hi; exact Or.inl rfl)
      refine W.nil (E.thenN (WC.seq (WC.region ?_)))
      refine W.any (.move rfl) rfl rfl rfl ?_
      have f40 := ((f34.ch h8_21 (fun he => by have := (hM0.row he).2; omega)).ch h9_9 (fun h => (show gp ≠ g0_0 from by have := hp0.lt; omega) (Option.some.inj h)))
      refine W.rd (.loadAll ag73 (by rfl) rfl f40) rfl rfl rfl ?_
      have f41 := (((((f11.le (h3_3.trans (d5.trans d7))).ch h7_23 (hL.ml)).le d8).ch h8_21 (hL.ml)).ch h9_9 (fun q hq => by cases hq; exact hL.lp))
      refine W.ef rfl rfl rfl ?_
      refine Ef.call go60 rfl rfl (rput_ok t w9_9 b9_9 (f41.mono (Nat.zero_le _)) hL.lp (by omega)) ?_
      rintro _ w10_2 ⟨rfl, h10_2, k10_2, A10_2, c10_2, hk10_2, bp10_2, o10_2⟩
      refine ⟨_, rfl, ?_⟩
      have L42 := L39.sub h10_2 (fun i hi hlt => (by subst hi; exact Or.inl rfl))
      refine W.nil (E.thenN (WC.seq (WC.region ?_)))
      refine W.any (.assign rfl) rfl rfl rfl ?_
      refine W.nil (E.thenN (WC.ret ?_))
      have f43 := ((o37.ch h9_9 (fun q hq => by cases hq; exact hL.mp)).chP h10_2 (fun q hqq hF => (by subst hF; exact hL.mp hqq)))
      have f44 := ((((((f12.le (h3_3.trans (d5.trans d7))).ch h7_23 (hL.mh)).le d8).ch h8_21 (hL.mh)).ch h9_9 (fun q hq => by cases hq; exact hL.hpp)).chP h10_2 (fun q hqq hF => (by subst hF; exact hL.hpp hqq)))
      refine E.retG1 rfl rfl ?_
      have hll : (giveO (giveO m.mine t 0 t.h0 fee) t 1 t.h1 0).length = m.mine.length := (by rw [giveO_len, giveO_len])
      have ho : openL s t fee = (⟨giveO (giveO s.own t 0 t.h0 fee) t 1 t.h1 0, s.ls ++ [(s.cs, t.ch, t)], s.cs + 1, s.lh, s.ck, s.lost + fee⟩, 0) := by unfold openL; rw [if_neg (not_not_intro hok), if_neg htw, if_neg (by rw [← e1]; omega)]
      rw [ho]; refine ⟨L42, _, _, _, _, _, _, ⟨giveO (giveO m.mine t 0 t.h0 fee) t 1 t.h1 0, (m.l.take k10_2 ++ t :: m.l.drop k10_2), m.hs, m.gone + fee⟩, rfl, ⟨(by have hq := bp10_2; rw [← hll] at hq; exact hq), (f43.cast hll.symm rfl), (o10_2.mono (Nat.zero_le _)), f44, hL.mp, (fun he => by have := (o10_2.row he).1; have := b9_9.lt; omega), hL.hpp, (fun q h1 h2 => by have := (o8_21.row h1).2; have := (o10_2.row h2).1; have := h9_9.size; omega), hL.mh, (Apart.symm (fun q h1 h2 => by have := (f12.row h1).2; have := (o10_2.row h2).1; have := h3_3.size; have := d5.size; have := d7.size; have := h7_23.size; have := d8.size; have := h8_21.size; have := h9_9.size; omega))⟩, ⟨by rw [← e1], by show m.gone + fee = s.lost + fee; rw [e2], hR.seats.push (t := t) (put_perm _ _ _), put_srt (by omega) hR.srt hk10_2.2.1 hk10_2.2.2 (fun q hq hc => by have := hR.seats.some hG.keys hq; rw [show (entS q).1 = t.ch from hc, hnn] at this; cases this), hR.holds⟩, ?_⟩
      rintro g (q | q | q | q)
      ·exact .inl (.inl q)
      ·exact .inl (.inr (.inl q))
      ·exact .inr (Nat.le_trans L39.size (o10_2.row q).1)
      ·exact .inl (.inr (.inr (.inr q)))
  ·refine WC.condY rfl (congrArg not ((Bool.eq_false_iff.2 c0))) ?_
   refine WC.seq (WC.region ?_)
   refine W.any (.assign rfl) rfl rfl rfl ?_
   refine W.nil (E.thenN (WC.ret (E.thenR ?_)))
   have f45 := (f2.le (h1_2.trans h1_6))
   have f46 := (f3.le (h1_2.trans h1_6))
   have f47 := (f4.le (h1_2.trans h1_6))
   have f48 := (f5.le (h1_2.trans h1_6))
   refine E.retG1 rfl rfl ?_
   have hbad : ¬ (mayL s.own.length t ∧ 0 ≤ fee ∧ fee ≤ 1125899906842624) := (by rw [← e1]; rintro ⟨q1, q2, q3⟩; have q4 := hbm1_2.2 q1; have q5 : coinL fee = true := (by simp [coinL]; omega); simp_all)
   have ho : openL s t fee = (s, 1) := by unfold openL; rw [if_pos hbad]
   rw [ho]; exact ⟨L7, _, _, _, _, _, _, m, rfl, ⟨f45, f46, f47, f48, hL.mp, hL.lp, hL.hpp, hL.ml, hL.mh, hL.lh⟩, hR, fun g hg => .inl hg⟩
 ·refine W.any (.dec (.move rfl) (congrArg not ((Bool.eq_false_iff.2 q1_4)))) rfl rfl rfl ?_
  refine W.skip rfl rfl rfl (rfl) rfl rfl ?_
  refine W.skip rfl rfl rfl (rfl) rfl rfl ?_
  refine W.skip rfl rfl rfl (rfl) rfl rfl ?_
  refine W.any (.pickT rfl rfl rfl) rfl rfl rfl ?_
  refine W.nil (E.thenN ?_)
  refine WC.condT rfl ?_
  refine WC.seq (WC.region ?_)
  refine W.any (.assign rfl) rfl rfl rfl ?_
  refine W.nil (E.thenN (WC.ret (E.thenR ?_)))
  have f49 := (f2.le h1_2)
  have f50 := (f3.le h1_2)
  have f51 := (f4.le h1_2)
  have f52 := (f5.le h1_2)
  refine E.retG1 rfl rfl ?_
  have hbad : ¬ (mayL s.own.length t ∧ 0 ≤ fee ∧ fee ≤ 1125899906842624) := (by rw [← e1]; rintro ⟨q1, q2, q3⟩; have q4 := hbm1_2.2 q1; have q5 : coinL fee = true := (by simp [coinL]; omega); simp_all)
  have ho : openL s t fee = (s, 1) := by unfold openL; rw [if_pos hbad]
  rw [ho]; exact ⟨L6, _, _, _, _, _, _, m, rfl, ⟨f49, f50, f51, f52, hL.mp, hL.lp, hL.hpp, hL.ml, hL.mh, hL.lh⟩, hR, fun g hg => .inl hg⟩
end Go.Proofs.YtmgfgbplbemklaaGreat

namespace Go.Proofs.YtmgfgbplbemklaaGreat
open Go Go.Sx Go.Num Go.Gsp Go.Lsp
set_option maxRecDepth 20000
set_option linter.unusedSimpArgs false
set_option linter.unusedVariables false
def HoldQ (hs : List RHold) (ch side id : Int) (k : Nat) : Prop := (hs.getD k noRHold).ch = ch ∧ (hs.getD k noRHold).side = side ∧ (hs.getD k noRHold).id = id
def HoldAt (hs : List RHold) (ch side id : Int) (v : Int) : Prop := (v = -1 ∧ ∀ k, k < hs.length → ¬ HoldQ hs ch side id k) ∨ ∃ k : Nat, v = (k : Int) ∧ k < hs.length ∧ HoldQ hs ch side id k
theorem rhold2_ok {gp cm cl ch_ : Nat} {Am Al Ah : Option Addr} {m : RLed} (ch side id : Int) (w : World) (hL : RLL w gp Am cm Al cl Ah ch_ m) (hf : SmallR m) : Calls Tryz.prog 64 #[.pointer (some ⟨gp, 0, none⟩), .int .i64 ch, .int .i64 side, .int .i64 id] w fun r w' => ∃ v, r = .returned (.int .i64 v) ∧ HoldAt m.hs ch side id v ∧ Le w w' := by
  refine Calls.mono (rhold_ok ch side id w hL hf) ?_
  rintro r w' ⟨hl, ⟨rfl, h⟩ | ⟨k, rfl, h1, h2⟩⟩
  · exact ⟨_, rfl, .inl ⟨rfl, h⟩, hl⟩
  · exact ⟨_, rfl, .inr ⟨k, rfl, h1, h2⟩, hl⟩
theorem rel_end {s : Led} {m : RLed} (hR : RelL s m) (hG : GoodL s) {ch side id : Int} {k q : Nat} (hk : k < m.hs.length) (hQ : HoldQ m.hs ch side id k) (hq : q < m.l.length) (hc : (m.l.getD q noSeat).ch = ch) (to : Int) :
    RelL (endL s ch side id ⟨(m.hs.getD k noRHold).am, (m.hs.getD k noRHold).pt⟩ (m.l.getD q noSeat) to) ⟨m.mine, m.l.set q ((m.l.getD q noSeat).setH to.toNat ((m.l.getD q noSeat).h to.toNat + (m.hs.getD k noRHold).am)), m.hs.take k ++ m.hs.drop (k + 1), m.gone⟩ := by
  refine ⟨hR.mine, hR.gone, ?_, set_srt hR.srt (setH_ch _ _ _), ?_⟩
  · have h := hR.seats.upd (z := noSeat) hG.keys hq (u := (m.l.getD q noSeat).setH to.toNat ((m.l.getD q noSeat).h to.toNat + (m.hs.getD k noRHold).am)) (setH_ch _ _ _)
    have e : (entS ((m.l.getD q noSeat).setH to.toNat ((m.l.getD q noSeat).h to.toNat + (m.hs.getD k noRHold).am))).1 = ch := (setH_ch _ _ _).trans hc
    rw [e] at h
    exact h
  · exact hR.holds.del (z := noRHold) hG.hkeys hk (by unfold HoldQ at hQ; simp only [entH, hQ.1, hQ.2.1, hQ.2.2])
theorem rel_hold {s : Led} {m : RLed} (hR : RelL s m) (hG : GoodL s) {ch side id : Int} {k : Nat} (hk : k < m.hs.length) (hQ : HoldQ m.hs ch side id k) : getG (⟨ch, side, id⟩ : Spot) s.lh = some ⟨(m.hs.getD k noRHold).am, (m.hs.getD k noRHold).pt⟩ ∧ (0 ≤ side ∧ side ≤ 1) ∧ ∃ q, q < m.l.length ∧ (m.l.getD q noSeat).ch = ch := by
  have h := hR.hold_some hG hk
  have e : (entH (m.hs.getD k noRHold)).1 = (⟨ch, side, id⟩ : Spot) := by unfold HoldQ at hQ; simp only [entH, hQ.1, hQ.2.1, hQ.2.2]
  rw [e] at h
  have h2 := hold_seat hG h
  refine ⟨h, h2.2, ?_⟩
  apply Classical.byContradiction
  intro hn
  have := hR.at_none (ch := ch) (fun q hq he => hn ⟨q, hq, he⟩)
  rw [this] at h2
  cases h2.1
theorem rend_ok {gp cm cl ch_ : Nat} {Am Al Ah : Option Addr} {m : RLed} (k : Nat) (side : Int) (w : World) (hL : RLL w gp Am cm Al cl Ah ch_ m) (hf : SmallR m) (hk : k < m.hs.length) (hs01 : 0 ≤ side ∧ side ≤ 1) (hex : ∃ q, q < m.l.length ∧ (m.l.getD q noSeat).ch = (m.hs.getD k noRHold).ch) : Calls Tryz.prog 66 #[.pointer (some ⟨gp, 0, none⟩), .int .i64 (((k : Nat) : Int)), .int .i64 (side)] w fun r w' => r = .returned (.tuple #[]) ∧ ChP w w' (fun k => k = gp ∨ rowOf Am cm = some k ∨ rowOf Al cl = some k ∨ rowOf Ah ch_ = some k) ∧ ∃ q Ah' ch', (q < m.l.length ∧ (m.l.getD q noSeat).ch = (m.hs.getD k noRHold).ch) ∧ RLL w' gp Am cm Al cl Ah' ch' ⟨m.mine, (m.l.set q ((m.l.getD q noSeat).setH side.toNat ((m.l.getD q noSeat).h side.toNat + (m.hs.getD k noRHold).am))), (m.hs.take k ++ m.hs.drop (k + 1)), m.gone⟩ ∧ ∀ g, rowOf Ah' ch' = some g → w.heap.size ≤ g := by
 have hp0 := hL.hp; have hM0 := hL.hM; have hS0 := hL.hS; have hH0 := hL.hH
 have hfl := hf.few
 refine enter Tryz.func66 rfl rfl ?_
 have L0 := ChP.refl w (fun k => k = gp ∨ rowOf Am cm = some k ∨ rowOf Al cl = some k ∨ rowOf Ah ch_ = some k)
 refine WC.seq (WC.region ?_)
 refine W.any (.move rfl) rfl rfl rfl ?_
 refine W.any (.nilCheck rfl) rfl rfl rfl ?_
 refine W.any (.field0 fa71_2 rfl) rfl rfl rfl ?_
 refine W.rd (.loadB (v := .slice Ah m.hs.length ch_) na69 rfl hp0 rfl) rfl rfl rfl ?_
 refine W.any (.move rfl) rfl rfl rfl ?_
 refine W.any (.idxS (k) Tryz.underlying69 sz103 rfl rfl (hH0.vec.isSome rholdV_row (by omega)) (rfl) (by omega)) rfl rfl rfl ?_
 refine W.rd (.vload ag103 rfl hH0.vec rholdV_row (getS m.hs noRHold (by first | omega | (simp only [List.length_cons, List.length_nil]; omega)))) rfl rfl rfl ?_
 refine W.ef rfl rfl rfl ?_
 refine Ef.allocA z103 ?_
 intro g0_7 w0_7 hg0_7 b0_7 h0_7
 have L1 := L0.le h0_7
 have b0_7 : Blk w0_7 g0_7 103 (rholdV noRHold).toArray := b0_7
 refine W.ef0 rfl rfl ?_
 refine Ef.storeAll sz103 (by rfl) rfl rfl b0_7 (by simp only [List.size_toArray, rholdV_row.len]) (rholdV_row.one (m.hs.getD k noRHold)) ?_
 intro w0_8 b0_8 h0_8
 have b0_8 : Blk w0_8 g0_7 103 (rholdV (m.hs.getD k noRHold)).toArray := b0_8
 have L2 : ChP w w0_8 (fun k => k = gp ∨ rowOf Am cm = some k ∨ rowOf Al cl = some k ∨ rowOf Ah ch_ = some k) := L1.ch h0_8 (fun i hi hlt => by cases hi; exact absurd hlt (by have := L0.size; have := hg0_7; omega))
 refine W.nil (E.thenN (WC.seq (WC.region ?_)))
 refine W.any (.move rfl) rfl rfl rfl ?_
 refine W.any (.field0 fa103_0 rfl) rfl rfl rfl ?_
 refine W.rd (.loadB (v := .int .i64 ((m.hs.getD k noRHold).ch)) na3 rfl b0_8 rfl) rfl rfl rfl ?_
 have f3 := ((hp0.le h0_7).ch h0_8 (fun h => (show g0_7 ≠ gp from by have := hp0.lt; omega) (Option.some.inj h)))
 have f4 := ((hM0.le h0_7).ch h0_8 (fun q hq => by cases hq; exact (fun he => by have := (hM0.row he).2; omega)))
 have f5 := ((hS0.le h0_7).ch h0_8 (fun q hq => by cases hq; exact (fun he => by have := (hS0.row he).2; omega)))
 have f6 := ((hH0.le h0_7).ch h0_8 (fun q hq => by cases hq; exact (fun he => by have := (hH0.row he).2; omega)))
 refine W.ef rfl rfl rfl ?_
 refine Ef.call go59 rfl rfl (rat2_ok ((m.hs.getD k noRHold).ch) w0_8 ⟨f3, f4, f5, f6, hL.mp, hL.lp, hL.hpp, hL.ml, hL.mh, hL.lh⟩ hf) ?_
 rintro _ w1_3 ⟨v1_3, rfl, hat1_3, h1_3⟩
 refine ⟨_, rfl, ?_⟩
 have L7 := L2.le h1_3
 obtain ⟨q, hq0, hq1, hq2⟩ : ∃ q : Nat, v1_3 = (q : Int) ∧ q < m.l.length ∧ (m.l.getD q noSeat).ch = (m.hs.getD k noRHold).ch := by obtain ⟨q, z1, z2⟩ := hex; rcases hat1_3 with ⟨_, z⟩ | z; exact absurd z2 (z q z1); exact z
 have hsq := seatOk_at (hf.seats q hq1) (k := side.toNat) (by omega)
 have hhk := hf.holds k hk
 refine W.any (.assign rfl) rfl rfl rfl ?_
 refine W.nil (E.thenN (WC.seq ?_))
 refine WC.draw [0, 1, 2, 3, 4, 5, 6, 7, 8, 9, 10, 11, 12, 13, 14, 15, 16, 17, 18, 19, 20, 21, 22] mixed (by kernel_rfl) ?_
 intro w2 d2
 have L8 := L7.le d2
 refine G.any rfl rfl (.move rfl) rfl rfl rfl ?_
 refine G.any rfl rfl (.nilCheck rfl) rfl rfl rfl ?_
 refine G.any rfl rfl (.field0 fa71_1 rfl) rfl rfl rfl ?_
 have f9 := (f3.le (h1_3.trans d2))
 refine G.rd rfl rfl (.loadB (v := .slice Al m.l.length cl) na68 rfl f9 rfl) rfl rfl rfl ?_
 refine G.any rfl rfl (.move rfl) rfl rfl rfl ?_
 refine G.any rfl rfl (.move rfl) rfl rfl rfl ?_
 refine G.any rfl rfl (.move rfl) rfl rfl rfl ?_
 refine G.any rfl rfl (.nilCheck rfl) rfl rfl rfl ?_
 refine G.any rfl rfl (.field0 fa71_1 rfl) rfl rfl rfl ?_
 refine G.rd rfl rfl (.loadB (v := .slice Al m.l.length cl) na68 rfl f9 rfl) rfl rfl rfl ?_
 refine G.any rfl rfl (.move rfl) rfl rfl rfl ?_
 refine G.any rfl rfl (.move rfl) rfl rfl rfl ?_
 refine G.any rfl rfl (.idxS (q) Tryz.underlying68 sz73 rfl rfl (hS0.vec.isSome seatV_row (by omega)) (by omega) (by omega)) rfl rfl rfl ?_
 refine G.any rfl rfl (.vfield fa73_2 (hS0.vec.isSome seatV_row (by omega)) rfl) rfl rfl rfl ?_
 refine G.any rfl rfl (.vidx (side.toNat) Tryz.underlying35 sz3 (hS0.vec.isSome seatV_row (by omega)) rfl rfl (by omega) (by omega)) rfl rfl rfl ?_
 have f10 := (f5.le (h1_3.trans d2))
 refine G.rd rfl rfl (.vcellQ (j := q) (o := 3) (q := side.toNat) (v := .int .i64 (((m.l.getD q noSeat).h side.toNat))) na3 rfl f10.vec seatV_row (getS m.l noSeat (by omega)) (seatH_at _ (by omega))) rfl rfl rfl ?_
 refine G.any rfl rfl (.field0 fa103_3 rfl) rfl rfl rfl ?_
 have f11 := (b0_8.le (h1_3.trans d2))
 refine G.rd rfl rfl (.loadB (v := .int .i64 ((m.hs.getD k noRHold).am)) na3 rfl f11 rfl) rfl rfl rfl ?_
 refine G.any rfl rfl (.add rfl rfl (by omega)) rfl rfl rfl ?_
 refine G.any rfl rfl (.idxS (q) Tryz.underlying68 sz73 rfl rfl (hS0.vec.isSome seatV_row (by omega)) (by omega) (by omega)) rfl rfl rfl ?_
 refine G.any rfl rfl (.vfield fa73_2 (hS0.vec.isSome seatV_row (by omega)) rfl) rfl rfl rfl ?_
 refine G.any rfl rfl (.vidx (side.toNat) Tryz.underlying35 sz3 (hS0.vec.isSome seatV_row (by omega)) rfl rfl (by omega) (by omega)) rfl rfl rfl ?_
 refine G.ef0 rfl rfl rfl rfl ?_
 refine Ef.vset (j := q) (o := 3 + side.toNat) ((m.l.getD q noSeat).setH side.toNat (((m.l.getD q noSeat).h side.toNat) + ((m.hs.getD k noRHold).am))) sz3 rfl (by omega) rfl f10 seatV_row (getS m.l noSeat (by omega)) (by omega) (seatH_setL _ _ (by omega)) rfl ?_
 intro w2_22 o2_22 h2_22
 refine ⟨fun h => absurd h (ne_true_of_eq_false (by kernel_rfl)), ?_⟩
 have L12 : ChP w w2_22 (fun k => k = gp ∨ rowOf Am cm = some k ∨ rowOf Al cl = some k ∨ rowOf Ah ch_ = some k) := L8.ch h2_22 (fun i hi _ => (fun i hi => Or.inr (Or.inr (Or.inl hi))) i hi)
 refine G.nil (E.thenN ?_)
 refine WC.drawR (fun w3 w' => ChP w w' (fun k => k = gp ∨ rowOf Am cm = some k ∨ rowOf Al cl = some k ∨ rowOf Ah ch_ = some k) ∧ Blk w' gp 71 #[.slice Am m.mine.length cm, .slice Al m.l.length cl, .slice Ah m.hs.length ch_, .int .i64 (m.gone)]) [0, 2, 3, 4, 5, 6, 7, 9, 10, 11, 12, 13, 14, 15, 1, 8, 16, 17, 18, 19] mixed (by kernel_rfl) ?_
 intro w3 d3
 have L13 := L12.le d3
 have f14 := ((f9.ch h2_22 hL.lp).le d3)
 refine ⟨⟨L13, f14⟩, ?_⟩
 refine GR.any rfl rfl (.move rfl) rfl rfl rfl ?_
 refine GR.any rfl rfl (.move rfl) rfl rfl rfl ?_
 refine GR.any rfl rfl (.nilCheck rfl) rfl rfl rfl ?_
 refine GR.any rfl rfl (.field0 fa71_2 rfl) rfl rfl rfl ?_
 refine GR.rd rfl rfl (fun w' hs => .loadB (v := .slice Ah m.hs.length ch_) na69 rfl hs.2 rfl) rfl rfl rfl ?_
 refine GR.any rfl rfl (.move rfl) rfl rfl rfl ?_
 have f15 := (((f6.le (h1_3.trans d2)).ch h2_22 (hL.lh)).le d3)
 have cp16 := f15.cap
 have v17 := f15.vec.cutH k (by omega) rholdV_row
 have v17l := v17.1
 refine GR.any rfl rfl (.cutH (k) Tryz.underlying69 sz103 rfl rfl (rfl) (by omega)) rfl rfl rfl ?_
 refine GR.any rfl rfl (.move rfl) rfl rfl rfl ?_
 refine GR.any rfl rfl (.nilCheck rfl) rfl rfl rfl ?_
 refine GR.any rfl rfl (.field0 fa71_2 rfl) rfl rfl rfl ?_
 refine GR.rd rfl rfl (fun w' hs => .loadB (v := .slice Ah m.hs.length ch_) na69 rfl hs.2 rfl) rfl rfl rfl ?_
 refine GR.any rfl rfl (.move rfl) rfl rfl rfl ?_
 refine GR.any rfl rfl (.add rfl rfl (by omega)) rfl rfl rfl ?_
 have cp18 := f15.cap
 have v19 := f15.vec.cutL ch_ (k + 1) (by omega) (by omega) rholdV_row
 have v19l := v19.1
 refine GR.any rfl rfl (.cutL ((k + 1)) Tryz.underlying69 sz103 rfl rfl (by omega) (by omega) (by omega)) rfl rfl rfl ?_
 refine GR.ef rfl rfl rfl rfl rfl ?_
 refine Ef.buildSlice0 Tryz.underlying69 el103 ?_
 intro g3_1 w3_1 hg3_1 b3_1 h3_1
 have L20 := L13.le h3_1
 have o3_1 : OVec w3_1 w3.heap.size 103 rholdV 5 (some ⟨g3_1, 0, none⟩) 0 0 [] := OVec.nil _ _ _ _ _ _
 have f21 := (f14.le h3_1)
 refine ⟨fun _ => ⟨L20, f21⟩, ?_⟩
 have f22 := (v17.le h3_1)
 refine GR.ef rfl rfl rfl rfl rfl ?_
 refine Ef.vcat Tryz.underlying69 el103 Tryz.underlying69 rholdV_row rfl o3_1 rfl f22 (by omega) (by unfold maxLen; omega) (by have := h3_1.size; omega) ?_
 intro A3_8 c3_8 w3_8 o3_8 h3_8 at3_8
 have h3_8 := Ch.le_none h3_8
 have L23 := L20.le h3_8
 have f24 := (f21.le h3_8)
 refine ⟨fun _ => ⟨L23, f24⟩, ?_⟩
 have f25 := (v19.le (h3_1.trans h3_8))
 refine GR.ef rfl rfl rfl rfl rfl ?_
 refine Ef.vcat Tryz.underlying69 el103 Tryz.underlying69 rholdV_row rfl o3_8 rfl f25 (by omega) (by unfold maxLen; omega) (by have := h3_1.size; have := h3_8.size; omega) ?_
 intro A3_16 c3_16 w3_16 o3_16 h3_16 at3_16
 have L26 : ChP w w3_16 (fun k => k = gp ∨ rowOf Am cm = some k ∨ rowOf Al cl = some k ∨ rowOf Ah ch_ = some k) := L23.ch h3_16 (fun i hi hlt => absurd hlt (by have := (o3_8.row hi).1; have := L13.size; omega))
 refine ⟨fun h => absurd h (ne_true_of_eq_false (by kernel_rfl)), ?_⟩
 refine GR.any rfl rfl (.nilCheck rfl) rfl rfl rfl ?_
 refine GR.any rfl rfl (.field0 fa71_2 rfl) rfl rfl rfl ?_
 have f27 := (f24.ch h3_16 (fun he => by have := (o3_8.row he).1; have := f14.lt; omega))
 refine GR.ef0 rfl rfl rfl rfl ?_
 refine Ef.store sz69 rfl rfl f27 (by first | decide | (simp; done)) (rfl) ?_
 intro w3_19 b3_19 h3_19
 have b3_19 : Blk w3_19 gp 71 #[.slice Am m.mine.length cm, .slice Al m.l.length cl, .slice A3_16 ((0 + k) + (m.hs.length - (k + 1))) c3_16, .int .i64 (m.gone)] := b3_19
 have L28 : ChP w w3_19 (fun k => k = gp ∨ rowOf Am cm = some k ∨ rowOf Al cl = some k ∨ rowOf Ah ch_ = some k) := L26.ch h3_19 (fun i hi _ => by cases hi; exact Or.inl rfl)
 refine ⟨fun h => absurd h (ne_true_of_eq_false (by kernel_rfl)), ?_⟩
 refine GR.nil ?_
 refine E.end_ ?_
 have hlen : ((0 + k) + (m.hs.length - (k + 1))) = ((m.hs.take k ++ m.hs.drop (k + 1))).length := by simp; try omega
 have hlel : ((m.l.set q ((m.l.getD q noSeat).setH side.toNat ((m.l.getD q noSeat).h side.toNat + (m.hs.getD k noRHold).am)))).length = m.l.length := by simp
 have f29 := (((((f4.le (h1_3.trans d2)).ch h2_22 ((Apart.symm hL.ml))).le (d3.trans (h3_1.trans h3_8))).ch h3_16 ((Apart.symm (fun q h1 h2 => by have := (f4.row h1).2; have := (o3_8.row h2).1; have := h1_3.size; have := d2.size; have := h2_22.size; have := d3.size; omega)))).ch h3_19 (fun q hq => by cases hq; exact hL.mp))
 have f30 := (((o2_22.le (d3.trans (h3_1.trans h3_8))).ch h3_16 ((Apart.symm (fun q h1 h2 => by have := (o2_22.row h1).2; have := (o3_8.row h2).1; have := d3.size; omega)))).ch h3_19 (fun q hq => by cases hq; exact hL.lp))
 have f31 := (o3_16.ch h3_19 (fun q hq => by cases hq; exact (fun he => by have := (o3_16.row he).1; have := f14.lt; omega)))
 refine E.ret0 rfl ?_
 refine ⟨rfl, L28, q, _, _, ⟨hq1, hq2⟩, ⟨(by have hq := b3_19; rw [hlen, ← hlel] at hq; exact hq), f29, (f30.cast hlel.symm rfl), ((f31.mono (Nat.zero_le _)).cast hlen (by simp)), hL.mp, hL.lp, (fun he => by have := (f31.row he).1; have := f14.lt; omega), hL.ml, (fun q h1 h2 => by have := (f4.row h1).2; have := (f31.row h2).1; have := h1_3.size; have := d2.size; have := h2_22.size; have := d3.size; omega), (fun q h1 h2 => by have := (o2_22.row h1).2; have := (f31.row h2).1; have := d3.size; omega)⟩, ?_⟩
 intro g hg
 exact ((f31.mono L13.size).row hg).1

theorem rfail_ok {gp cm cl ch_ : Nat} {Am Al Ah : Option Addr} {m : RLed} {s : Led} (ch side id : Int) (w : World) (hL : RLL w gp Am cm Al cl Ah ch_ m) (hf : SmallR m) (hR : RelL s m) (hG : GoodL s) : Calls Tryz.prog 34 #[.pointer (some ⟨gp, 0, none⟩), .int .i64 (ch), .int .i64 (side), .int .i64 (id)] w fun r w' => ChP w w' (fun k => k = gp ∨ rowOf Am cm = some k ∨ rowOf Al cl = some k ∨ rowOf Ah ch_ = some k) ∧ ∃ Am' cm' Al' cl' Ah' ch' m', r = .returned (.int .i64 (failL s ch side id).2) ∧ RLL w' gp Am' cm' Al' cl' Ah' ch' m' ∧ RelL (failL s ch side id).1 m' ∧ ∀ g, RLF gp Am' cm' Al' cl' Ah' ch' g → RLF gp Am cm Al cl Ah ch_ g ∨ w.heap.size ≤ g := by
 have hp0 := hL.hp; have hM0 := hL.hM; have hS0 := hL.hS; have hH0 := hL.hH
 have hfl := hf.few
 have e1 := hR.mine; have e2 := hR.gone
 refine enter Tryz.func34 rfl rfl ?_
 have L0 := ChP.refl w (fun k => k = gp ∨ rowOf Am cm = some k ∨ rowOf Al cl = some k ∨ rowOf Ah ch_ = some k)
 refine WC.seq (WC.region ?_)
 refine W.any (.assign rfl) rfl rfl rfl ?_
 refine W.nil (E.thenN (WC.seq (WC.region ?_)))
 refine W.any (.move rfl) rfl rfl rfl ?_
 refine W.any (.move rfl) rfl rfl rfl ?_
 refine W.any (.move rfl) rfl rfl rfl ?_
 refine W.any (.move rfl) rfl rfl rfl ?_
 refine W.ef rfl rfl rfl ?_
 refine Ef.call go64 rfl rfl (rhold2_ok ch side id w ⟨hp0, hM0, hS0, hH0, hL.mp, hL.lp, hL.hpp, hL.ml, hL.mh, hL.lh⟩ hf) ?_
 rintro _ w1_4 ⟨v1_4, rfl, hat1_4, h1_4⟩
 refine ⟨_, rfl, ?_⟩
 have L1 := L0.le h1_4
 refine W.any (.assign rfl) rfl rfl rfl ?_
 refine W.nil (E.thenN (WC.seq (WC.seq (WC.region ?_))))
 refine W.any (.move rfl) rfl rfl rfl ?_
 refine W.any (.lss rfl rfl) rfl rfl rfl ?_
 refine W.nil (E.thenN ?_)
 by_cases c0 : v1_4 < 0
 ·refine WC.condY rfl (decide_eq_true c0) ?_
  refine WC.seq (WC.region ?_)
  refine W.any (.assign rfl) rfl rfl rfl ?_
  refine W.nil (E.thenN (WC.ret (E.thenR ?_)))
  have f2 := (hp0.le h1_4)
  have f3 := (hM0.le h1_4)
  have f4 := (hS0.le h1_4)
  have f5 := (hH0.le h1_4)
  refine E.retG1 rfl rfl ?_
  have hno : getG (⟨ch, side, id⟩ : Spot) s.lh = none := by rcases hat1_4 with ⟨_, q⟩ | ⟨k, q, q1, q2⟩; exact hR.hold_none q; omega
  have ho : (failL s ch side id) = (s, 5) := by unfold failL; rw [hno]
  rw [ho]; exact ⟨L1, _, _, _, _, _, _, m, rfl, ⟨f2, f3, f4, f5, hL.mp, hL.lp, hL.hpp, hL.ml, hL.mh, hL.lh⟩, hR, fun g hg => .inl hg⟩
 ·refine WC.condN rfl (decide_eq_false c0) ?_
  obtain ⟨k, hk1, hk0, hQ⟩ : ∃ k : Nat, v1_4 = (k : Int) ∧ k < m.hs.length ∧ HoldQ m.hs ch side id k := by rcases hat1_4 with ⟨q, _⟩ | q; omega; exact q
  obtain ⟨hsp, hs01, q0, hq0, hq1⟩ := rel_hold hR hG hk0 hQ
  refine WC.skip (E.thenN (WC.seq (WC.region ?_)))
  refine W.any (.move rfl) rfl rfl rfl ?_
  refine W.any (.move rfl) rfl rfl rfl ?_
  refine W.any (.move rfl) rfl rfl rfl ?_
  have f6 := (hp0.le h1_4)
  have f7 := (hM0.le h1_4)
  have f8 := (hS0.le h1_4)
  have f9 := (hH0.le h1_4)
  refine W.ef rfl rfl rfl ?_
  refine Ef.call go66 rfl rfl ((by have h := rend_ok k side w1_4 ⟨f6, f7, f8, f9, hL.mp, hL.lp, hL.hpp, hL.ml, hL.mh, hL.lh⟩ hf hk0 (by omega) ⟨q0, hq0, hq1.trans hQ.1.symm⟩; rw [← hk1] at h; exact h)) ?_
  rintro _ w4_3 ⟨rfl, h4_3, q4_3, Ah4_3, ch4_3, hq4_3, hLn4_3, hrow4_3⟩
  refine ⟨_, rfl, ?_⟩
  have L10 := L1.sub h4_3 (fun i hi hlt => Or.elim hi (fun hi => (by subst hi; exact Or.inl rfl)) (fun hi => Or.elim hi (fun hi => ((fun i hi => Or.inr (Or.inl hi)) i hi)) (fun hi => Or.elim hi (fun hi => ((fun i hi => Or.inr (Or.inr (Or.inl hi))) i hi)) (fun hi => ((fun i hi => Or.inr (Or.inr (Or.inr hi))) i hi)))))
  refine W.nil (E.thenN (WC.seq (WC.region ?_)))
  refine W.any (.assign rfl) rfl rfl rfl ?_
  refine W.nil (E.thenN (WC.ret ?_))
  refine E.retG1 rfl rfl ?_
  have hsg : getG ch s.ls = some (m.l.getD q4_3 noSeat) := by have h := hR.at_some hG hq4_3.1; rwa [hq4_3.2.trans hQ.1] at h
  have ho : (failL s ch side id) = (endL s ch side id ⟨(m.hs.getD k noRHold).am, (m.hs.getD k noRHold).pt⟩ (m.l.getD q4_3 noSeat) side, 0) := by unfold failL; rw [hsp, hsg]; rfl
  rw [ho]; refine ⟨L10, _, _, _, _, _, _, _, rfl, hLn4_3, rel_end hR hG hk0 hQ hq4_3.1 (hq4_3.2.trans hQ.1) side, ?_⟩
  rintro g (q | q | q | q)
  ·exact .inl (.inl q)
  ·exact .inl (.inr (.inl q))
  ·exact .inl (.inr (.inr (.inl q)))
  ·exact .inr (Nat.le_trans L1.size (hrow4_3 g q))

theorem rsettle_ok {gp cm cl ch_ : Nat} {Am Al Ah : Option Addr} {m : RLed} {s : Led} (ch side id : Int) (sec : Nat) (w : World) (hL : RLL w gp Am cm Al cl Ah ch_ m) (hf : SmallR m) (hR : RelL s m) (hG : GoodL s) : Calls Tryz.prog 33 #[.pointer (some ⟨gp, 0, none⟩), .int .i64 (ch), .int .i64 (side), .int .i64 (id), .int .u64 (((sec : Nat) : Int))] w fun r w' => ChP w w' (fun k => k = gp ∨ rowOf Am cm = some k ∨ rowOf Al cl = some k ∨ rowOf Ah ch_ = some k) ∧ ∃ Am' cm' Al' cl' Ah' ch' m', r = .returned (.int .i64 (settleL s ch side id sec).2) ∧ RLL w' gp Am' cm' Al' cl' Ah' ch' m' ∧ RelL (settleL s ch side id sec).1 m' ∧ ∀ g, RLF gp Am' cm' Al' cl' Ah' ch' g → RLF gp Am cm Al cl Ah ch_ g ∨ w.heap.size ≤ g := by
 have hp0 := hL.hp; have hM0 := hL.hM; have hS0 := hL.hS; have hH0 := hL.hH
 have hfl := hf.few
 have e1 := hR.mine; have e2 := hR.gone
 refine enter Tryz.func33 rfl rfl ?_
 have L0 := ChP.refl w (fun k => k = gp ∨ rowOf Am cm = some k ∨ rowOf Al cl = some k ∨ rowOf Ah ch_ = some k)
 refine WC.seq (WC.region ?_)
 refine W.any (.assign rfl) rfl rfl rfl ?_
 refine W.nil (E.thenN (WC.seq (WC.region ?_)))
 refine W.any (.move rfl) rfl rfl rfl ?_
 refine W.any (.move rfl) rfl rfl rfl ?_
 refine W.any (.move rfl) rfl rfl rfl ?_
 refine W.any (.move rfl) rfl rfl rfl ?_
 refine W.ef rfl rfl rfl ?_
 refine Ef.call go64 rfl rfl (rhold2_ok ch side id w ⟨hp0, hM0, hS0, hH0, hL.mp, hL.lp, hL.hpp, hL.ml, hL.mh, hL.lh⟩ hf) ?_
 rintro _ w1_4 ⟨v1_4, rfl, hat1_4, h1_4⟩
 refine ⟨_, rfl, ?_⟩
 have L1 := L0.le h1_4
 refine W.any (.assign rfl) rfl rfl rfl ?_
 refine W.nil (E.thenN (WC.seq (WC.seq (WC.region ?_))))
 refine W.any (.move rfl) rfl rfl rfl ?_
 refine W.any (.lss rfl rfl) rfl rfl rfl ?_
 refine W.nil (E.thenN ?_)
 by_cases c0 : v1_4 < 0
 ·refine WC.condY rfl (decide_eq_true c0) ?_
  refine WC.seq (WC.region ?_)
  refine W.any (.assign rfl) rfl rfl rfl ?_
  refine W.nil (E.thenN (WC.ret (E.thenR ?_)))
  have f2 := (hp0.le h1_4)
  have f3 := (hM0.le h1_4)
  have f4 := (hS0.le h1_4)
  have f5 := (hH0.le h1_4)
  refine E.retG1 rfl rfl ?_
  have hno : getG (⟨ch, side, id⟩ : Spot) s.lh = none := by rcases hat1_4 with ⟨_, q⟩ | ⟨k, q, q1, q2⟩; exact hR.hold_none q; omega
  have ho : (settleL s ch side id sec) = (s, 5) := by unfold settleL; rw [hno]
  rw [ho]; exact ⟨L1, _, _, _, _, _, _, m, rfl, ⟨f2, f3, f4, f5, hL.mp, hL.lp, hL.hpp, hL.ml, hL.mh, hL.lh⟩, hR, fun g hg => .inl hg⟩
 ·refine WC.condN rfl (decide_eq_false c0) ?_
  obtain ⟨k, hk1, hk0, hQ⟩ : ∃ k : Nat, v1_4 = (k : Int) ∧ k < m.hs.length ∧ HoldQ m.hs ch side id k := by rcases hat1_4 with ⟨q, _⟩ | q; omega; exact q
  obtain ⟨hsp, hs01, q0, hq0, hq1⟩ := rel_hold hR hG hk0 hQ
  refine WC.skip (E.thenN (WC.seq (WC.seq ?_)))
  refine WC.draw [0, 2, 3, 4, 5, 6, 7, 8, 9, 1, 10] mixed (by kernel_rfl) ?_
  intro w4 d4
  have L6 := L1.le d4
  refine G.any rfl rfl (.move rfl) rfl rfl rfl ?_
  refine G.any rfl rfl (.move rfl) rfl rfl rfl ?_
  refine G.any rfl rfl (.nilCheck rfl) rfl rfl rfl ?_
  refine G.any rfl rfl (.field0 fa71_2 rfl) rfl rfl rfl ?_
  have f7 := (hp0.le (h1_4.trans d4))
  refine G.rd rfl rfl (.loadB (v := .slice Ah m.hs.length ch_) na69 rfl f7 rfl) rfl rfl rfl ?_
  refine G.any rfl rfl (.move rfl) rfl rfl rfl ?_
  refine G.any rfl rfl (.idxS (k) Tryz.underlying69 sz103 rfl rfl (hH0.vec.isSome rholdV_row (by omega)) (by omega) (by omega)) rfl rfl rfl ?_
  refine G.any rfl rfl (.vfield fa103_4 (hH0.vec.isSome rholdV_row (by omega)) rfl) rfl rfl rfl ?_
  have f8 := (hH0.le (h1_4.trans d4))
  refine G.rd rfl rfl (.vcell (j := k) (o := 4) (v := .int .u64 ((((m.hs.getD k noRHold).pt : Nat) : Int))) na33 rfl f8.vec rholdV_row (getS m.hs noRHold (by first | omega | (simp only [List.length_cons, List.length_nil]; omega))) rfl) rfl rfl rfl ?_
  refine G.ef rfl rfl rfl rfl rfl ?_
  refine Ef.call go65 rfl rfl (rbase_ok sec w4) ?_
  rintro _ w4_1 ⟨rfl, h4_1⟩
  refine ⟨_, rfl, ?_⟩
  refine ⟨fun _ => h4_1, ?_⟩
  have L9 := L6.le h4_1
  refine G.any rfl rfl (.neq rfl rfl) rfl rfl rfl ?_
  refine G.nil (E.thenN ?_)
  by_cases c1 : ((base sec : Nat) : Int) ≠ (((m.hs.getD k noRHold).pt : Nat) : Int)
  ·refine WC.condY rfl (decide_eq_true c1) ?_
   refine WC.seq (WC.region ?_)
   refine W.any (.assign rfl) rfl rfl rfl ?_
   refine W.nil (E.thenN (WC.ret (E.thenR ?_)))
   have f10 := (f7.le h4_1)
   have f11 := (hM0.le (h1_4.trans (d4.trans h4_1)))
   have f12 := (hS0.le (h1_4.trans (d4.trans h4_1)))
   have f13 := (f8.le h4_1)
   refine E.retG1 rfl rfl ?_
   have ho : (settleL s ch side id sec) = (s, 23) := by unfold settleL; rw [hsp]; exact if_pos (by show base sec ≠ (m.hs.getD k noRHold).pt; omega)
   rw [ho]; exact ⟨L9, _, _, _, _, _, _, m, rfl, ⟨f10, f11, f12, f13, hL.mp, hL.lp, hL.hpp, hL.ml, hL.mh, hL.lh⟩, hR, fun g hg => .inl hg⟩
  ·refine WC.condN rfl (decide_eq_false c1) ?_
   refine WC.skip (E.thenN (WC.seq (WC.region ?_)))
   refine W.any (.move rfl) rfl rfl rfl ?_
   refine W.any (.move rfl) rfl rfl rfl ?_
   refine W.any (.move rfl) rfl rfl rfl ?_
   refine W.any (.sub rfl rfl (by omega)) rfl rfl rfl ?_
   have f14 := (f7.le h4_1)
   have f15 := (hM0.le (h1_4.trans (d4.trans h4_1)))
   have f16 := (hS0.le (h1_4.trans (d4.trans h4_1)))
   have f17 := (f8.le h4_1)
   refine W.ef rfl rfl rfl ?_
   refine Ef.call go66 rfl rfl ((by have h := rend_ok k (1 - side) w4_1 ⟨f14, f15, f16, f17, hL.mp, hL.lp, hL.hpp, hL.ml, hL.mh, hL.lh⟩ hf hk0 (by omega) ⟨q0, hq0, hq1.trans hQ.1.symm⟩; rw [← hk1] at h; exact h)) ?_
   rintro _ w6_4 ⟨rfl, h6_4, q6_4, Ah6_4, ch6_4, hq6_4, hLn6_4, hrow6_4⟩
   refine ⟨_, rfl, ?_⟩
   have L18 := L9.sub h6_4 (fun i hi hlt => Or.elim hi (fun hi => (by subst hi; exact Or.inl rfl)) (fun hi => Or.elim hi (fun hi => ((fun i hi => Or.inr (Or.inl hi)) i hi)) (fun hi => Or.elim hi (fun hi => ((fun i hi => Or.inr (Or.inr (Or.inl hi))) i hi)) (fun hi => ((fun i hi => Or.inr (Or.inr (Or.inr hi))) i hi)))))
   refine W.nil (E.thenN (WC.seq (WC.region ?_)))
   refine W.any (.assign rfl) rfl rfl rfl ?_
   refine W.nil (E.thenN (WC.ret ?_))
   refine E.retG1 rfl rfl ?_
   have hsg : getG ch s.ls = some (m.l.getD q6_4 noSeat) := by have h := hR.at_some hG hq6_4.1; rwa [hq6_4.2.trans hQ.1] at h
   have ho : (settleL s ch side id sec) = (endL s ch side id ⟨(m.hs.getD k noRHold).am, (m.hs.getD k noRHold).pt⟩ (m.l.getD q6_4 noSeat) (1 - side), 0) := by unfold settleL; rw [hsp, hsg]; exact if_neg (by show ¬ base sec ≠ (m.hs.getD k noRHold).pt; omega)
   rw [ho]; refine ⟨L18, _, _, _, _, _, _, _, rfl, hLn6_4, rel_end hR hG hk0 hQ hq6_4.1 (hq6_4.2.trans hQ.1) (1 - side), ?_⟩
   rintro g (q | q | q | q)
   ·exact .inl (.inl q)
   ·exact .inl (.inr (.inl q))
   ·exact .inl (.inr (.inr (.inl q)))
   ·exact .inr (Nat.le_trans L9.size (hrow6_4 g q))

theorem roffer_ok {gp cm cl ch_ : Nat} {Am Al Ah : Option Addr} {m : RLed} {s : Led} (ch side id am : Int) (pt : Nat) (w : World) (hL : RLL w gp Am cm Al cl Ah ch_ m) (hf : SmallR m) (hR : RelL s m) (hG : GoodL s) (hpt : pt < 18446744073709551616) : Calls Tryz.prog 32 #[.pointer (some ⟨gp, 0, none⟩), .int .i64 (ch), .int .i64 (side), .int .i64 (id), .int .i64 (am), .int .u64 (((pt : Nat) : Int))] w fun r w' => ChP w w' (fun k => k = gp ∨ rowOf Am cm = some k ∨ rowOf Al cl = some k ∨ rowOf Ah ch_ = some k) ∧ ∃ Am' cm' Al' cl' Ah' ch' m', r = .returned (.int .i64 (offerL s ch side id am pt).2) ∧ RLL w' gp Am' cm' Al' cl' Ah' ch' m' ∧ RelL (offerL s ch side id am pt).1 m' ∧ ∀ g, RLF gp Am' cm' Al' cl' Ah' ch' g → RLF gp Am cm Al cl Ah ch_ g ∨ w.heap.size ≤ g := by
 have hp0 := hL.hp; have hM0 := hL.hM; have hS0 := hL.hS; have hH0 := hL.hH
 have hfl := hf.few
 have e1 := hR.mine; have e2 := hR.gone
 refine enter Tryz.func32 rfl rfl ?_
 have L0 := ChP.refl w (fun k => k = gp ∨ rowOf Am cm = some k ∨ rowOf Al cl = some k ∨ rowOf Ah ch_ = some k)
 refine WC.seq (WC.region ?_)
 refine W.any (.assign rfl) rfl rfl rfl ?_
 refine W.nil (E.thenN (WC.seq (WC.region ?_)))
 refine W.any (.move rfl) rfl rfl rfl ?_
 refine W.ef rfl rfl rfl ?_
 refine Ef.call go63 rfl rfl (rpright_ok pt hpt w) ?_
 rintro _ w1_1 ⟨rfl, h1_1⟩
 refine ⟨_, rfl, ?_⟩
 have L1 := L0.le h1_1
 refine W.any (.assign rfl) rfl rfl rfl ?_
 refine W.nil (E.thenN (WC.seq (WC.seq (WC.region ?_))))
 refine W.any (.move rfl) rfl rfl rfl ?_
 refine W.any (.lss rfl rfl) rfl rfl rfl ?_
 by_cases q2_2 : side < 0
 ·refine W.any (.dec (.move rfl) (decide_eq_true q2_2)) rfl rfl rfl ?_
  refine W.skip rfl rfl rfl (rfl) rfl rfl ?_
  refine W.skip rfl rfl rfl (rfl) rfl rfl ?_
  refine W.any (.pickT rfl rfl rfl) rfl rfl rfl ?_
  refine W.any (.move rfl) rfl rfl rfl ?_
  refine W.skip rfl rfl rfl (rfl) rfl rfl ?_
  refine W.skip rfl rfl rfl (rfl) rfl rfl ?_
  refine W.any (.pickT rfl rfl rfl) rfl rfl rfl ?_
  refine W.any (.move rfl) rfl rfl rfl ?_
  refine W.skip rfl rfl rfl (rfl) rfl rfl ?_
  refine W.skip rfl rfl rfl (rfl) rfl rfl ?_
  refine W.any (.pickT rfl rfl rfl) rfl rfl rfl ?_
  refine W.any (.move rfl) rfl rfl rfl ?_
  refine W.skip rfl rfl rfl (rfl) rfl rfl ?_
  refine W.skip rfl rfl rfl (rfl) rfl rfl ?_
  refine W.any (.pickT rfl rfl rfl) rfl rfl rfl ?_
  refine W.any (.move rfl) rfl rfl rfl ?_
  refine W.skip rfl rfl rfl (rfl) rfl rfl ?_
  refine W.skip rfl rfl rfl (rfl) rfl rfl ?_
  refine W.any (.pickT rfl rfl rfl) rfl rfl rfl ?_
  refine W.any (.move rfl) rfl rfl rfl ?_
  refine W.skip rfl rfl rfl (rfl) rfl rfl ?_
  refine W.skip rfl rfl rfl (rfl) rfl rfl ?_
  refine W.any (.pickT rfl rfl rfl) rfl rfl rfl ?_
  refine W.nil (E.thenN ?_)
  refine WC.condT rfl ?_
  have hbad : ¬ offerOk side id am pt := by unfold offerOk; rintro ⟨z1, z2, z3, z4, z5⟩; first | omega | (exact absurd z5 (by assumption)) | (simp_all)
  refine WC.seq (WC.region ?_)
  refine W.any (.assign rfl) rfl rfl rfl ?_
  refine W.nil (E.thenN (WC.ret (E.thenR ?_)))
  have f2 := (hp0.le h1_1)
  have f3 := (hM0.le h1_1)
  have f4 := (hS0.le h1_1)
  have f5 := (hH0.le h1_1)
  refine E.retG1 rfl rfl ?_
  have ho : (offerL s ch side id am pt) = (s, 1) := by unfold offerL; rw [if_pos hbad]
  rw [ho]; exact ⟨L1, _, _, _, _, _, _, m, rfl, ⟨f2, f3, f4, f5, hL.mp, hL.lp, hL.hpp, hL.ml, hL.mh, hL.lh⟩, hR, fun g hg => .inl hg⟩
 ·refine W.any (.dec (.move rfl) (decide_eq_false q2_2)) rfl rfl rfl ?_
  refine W.rdg (Any.rd (.move rfl) _) rfl rfl rfl (rfl) rfl rfl ?_
  refine W.rdg (Any.rd (.gtr rfl rfl) _) rfl rfl rfl (rfl) rfl rfl ?_
  refine W.any (.pickF rfl rfl rfl) rfl rfl rfl ?_
  by_cases q2_6 : 1 < side
  ·refine W.any (.dec (.move rfl) (decide_eq_true q2_6)) rfl rfl rfl ?_
   refine W.skip rfl rfl rfl (rfl) rfl rfl ?_
   refine W.skip rfl rfl rfl (rfl) rfl rfl ?_
   refine W.any (.pickT rfl rfl rfl) rfl rfl rfl ?_
   refine W.any (.move rfl) rfl rfl rfl ?_
   refine W.skip rfl rfl rfl (rfl) rfl rfl ?_
   refine W.skip rfl rfl rfl (rfl) rfl rfl ?_
   refine W.any (.pickT rfl rfl rfl) rfl rfl rfl ?_
   refine W.any (.move rfl) rfl rfl rfl ?_
   refine W.skip rfl rfl rfl (rfl) rfl rfl ?_
   refine W.skip rfl rfl rfl (rfl) rfl rfl ?_
   refine W.any (.pickT rfl rfl rfl) rfl rfl rfl ?_
   refine W.any (.move rfl) rfl rfl rfl ?_
   refine W.skip rfl rfl rfl (rfl) rfl rfl ?_
   refine W.skip rfl rfl rfl (rfl) rfl rfl ?_
   refine W.any (.pickT rfl rfl rfl) rfl rfl rfl ?_
   refine W.any (.move rfl) rfl rfl rfl ?_
   refine W.skip rfl rfl rfl (rfl) rfl rfl ?_
   refine W.skip rfl rfl rfl (rfl) rfl rfl ?_
   refine W.any (.pickT rfl rfl rfl) rfl rfl rfl ?_
   refine W.nil (E.thenN ?_)
   refine WC.condT rfl ?_
   have hbad : ¬ offerOk side id am pt := by unfold offerOk; rintro ⟨z1, z2, z3, z4, z5⟩; first | omega | (exact absurd z5 (by assumption)) | (simp_all)
   refine WC.seq (WC.region ?_)
   refine W.any (.assign rfl) rfl rfl rfl ?_
   refine W.nil (E.thenN (WC.ret (E.thenR ?_)))
   have f6 := (hp0.le h1_1)
   have f7 := (hM0.le h1_1)
   have f8 := (hS0.le h1_1)
   have f9 := (hH0.le h1_1)
   refine E.retG1 rfl rfl ?_
   have ho : (offerL s ch side id am pt) = (s, 1) := by unfold offerL; rw [if_pos hbad]
   rw [ho]; exact ⟨L1, _, _, _, _, _, _, m, rfl, ⟨f6, f7, f8, f9, hL.mp, hL.lp, hL.hpp, hL.ml, hL.mh, hL.lh⟩, hR, fun g hg => .inl hg⟩
  ·refine W.any (.dec (.move rfl) (decide_eq_false q2_6)) rfl rfl rfl ?_
   refine W.rdg (Any.rd (.move rfl) _) rfl rfl rfl (rfl) rfl rfl ?_
   refine W.rdg (Any.rd (.lss rfl rfl) _) rfl rfl rfl (rfl) rfl rfl ?_
   refine W.any (.pickF rfl rfl rfl) rfl rfl rfl ?_
   by_cases q2_10 : id < 1
   ·refine W.any (.dec (.move rfl) (decide_eq_true q2_10)) rfl rfl rfl ?_
    refine W.skip rfl rfl rfl (rfl) rfl rfl ?_
    refine W.skip rfl rfl rfl (rfl) rfl rfl ?_
    refine W.any (.pickT rfl rfl rfl) rfl rfl rfl ?_
    refine W.any (.move rfl) rfl rfl rfl ?_
    refine W.skip rfl rfl rfl (rfl) rfl rfl ?_
    refine W.skip rfl rfl rfl (rfl) rfl rfl ?_
    refine W.any (.pickT rfl rfl rfl) rfl rfl rfl ?_
    refine W.any (.move rfl) rfl rfl rfl ?_
    refine W.skip rfl rfl rfl (rfl) rfl rfl ?_
    refine W.skip rfl rfl rfl (rfl) rfl rfl ?_
    refine W.any (.pickT rfl rfl rfl) rfl rfl rfl ?_
    refine W.any (.move rfl) rfl rfl rfl ?_
    refine W.skip rfl rfl rfl (rfl) rfl rfl ?_
    refine W.skip rfl rfl rfl (rfl) rfl rfl ?_
    refine W.any (.pickT rfl rfl rfl) rfl rfl rfl ?_
    refine W.nil (E.thenN ?_)
    refine WC.condT rfl ?_
    have hbad : ¬ offerOk side id am pt := by unfold offerOk; rintro ⟨z1, z2, z3, z4, z5⟩; first | omega | (exact absurd z5 (by assumption)) | (simp_all)
    refine WC.seq (WC.region ?_)
    refine W.any (.assign rfl) rfl rfl rfl ?_
    refine W.nil (E.thenN (WC.ret (E.thenR ?_)))
    have f10 := (hp0.le h1_1)
    have f11 := (hM0.le h1_1)
    have f12 := (hS0.le h1_1)
    have f13 := (hH0.le h1_1)
    refine E.retG1 rfl rfl ?_
    have ho : (offerL s ch side id am pt) = (s, 1) := by unfold offerL; rw [if_pos hbad]
    rw [ho]; exact ⟨L1, _, _, _, _, _, _, m, rfl, ⟨f10, f11, f12, f13, hL.mp, hL.lp, hL.hpp, hL.ml, hL.mh, hL.lh⟩, hR, fun g hg => .inl hg⟩
   ·refine W.any (.dec (.move rfl) (decide_eq_false q2_10)) rfl rfl rfl ?_
    refine W.rdg (Any.rd (.move rfl) _) rfl rfl rfl (rfl) rfl rfl ?_
    refine W.rdg (Any.rd (.lss rfl rfl) _) rfl rfl rfl (rfl) rfl rfl ?_
    refine W.any (.pickF rfl rfl rfl) rfl rfl rfl ?_
    by_cases q2_14 : am < 1
    ·refine W.any (.dec (.move rfl) (decide_eq_true q2_14)) rfl rfl rfl ?_
     refine W.skip rfl rfl rfl (rfl) rfl rfl ?_
     refine W.skip rfl rfl rfl (rfl) rfl rfl ?_
     refine W.any (.pickT rfl rfl rfl) rfl rfl rfl ?_
     refine W.any (.move rfl) rfl rfl rfl ?_
     refine W.skip rfl rfl rfl (rfl) rfl rfl ?_
     refine W.skip rfl rfl rfl (rfl) rfl rfl ?_
     refine W.any (.pickT rfl rfl rfl) rfl rfl rfl ?_
     refine W.any (.move rfl) rfl rfl rfl ?_
     refine W.skip rfl rfl rfl (rfl) rfl rfl ?_
     refine W.skip rfl rfl rfl (rfl) rfl rfl ?_
     refine W.any (.pickT rfl rfl rfl) rfl rfl rfl ?_
     refine W.nil (E.thenN ?_)
     refine WC.condT rfl ?_
     have hbad : ¬ offerOk side id am pt := by unfold offerOk; rintro ⟨z1, z2, z3, z4, z5⟩; first | omega | (exact absurd z5 (by assumption)) | (simp_all)
     refine WC.seq (WC.region ?_)
     refine W.any (.assign rfl) rfl rfl rfl ?_
     refine W.nil (E.thenN (WC.ret (E.thenR ?_)))
     have f14 := (hp0.le h1_1)
     have f15 := (hM0.le h1_1)
     have f16 := (hS0.le h1_1)
     have f17 := (hH0.le h1_1)
     refine E.retG1 rfl rfl ?_
     have ho : (offerL s ch side id am pt) = (s, 1) := by unfold offerL; rw [if_pos hbad]
     rw [ho]; exact ⟨L1, _, _, _, _, _, _, m, rfl, ⟨f14, f15, f16, f17, hL.mp, hL.lp, hL.hpp, hL.ml, hL.mh, hL.lh⟩, hR, fun g hg => .inl hg⟩
    ·refine W.any (.dec (.move rfl) (decide_eq_false q2_14)) rfl rfl rfl ?_
     refine W.rdg (Any.rd (.move rfl) _) rfl rfl rfl (rfl) rfl rfl ?_
     refine W.rdg (Any.rd (.gtr rfl rfl) _) rfl rfl rfl (rfl) rfl rfl ?_
     refine W.any (.pickF rfl rfl rfl) rfl rfl rfl ?_
     by_cases q2_18 : 1125899906842624 < am
     ·refine W.any (.dec (.move rfl) (decide_eq_true q2_18)) rfl rfl rfl ?_
      refine W.skip rfl rfl rfl (rfl) rfl rfl ?_
      refine W.skip rfl rfl rfl (rfl) rfl rfl ?_
      refine W.any (.pickT rfl rfl rfl) rfl rfl rfl ?_
      refine W.any (.move rfl) rfl rfl rfl ?_
      refine W.skip rfl rfl rfl (rfl) rfl rfl ?_
      refine W.skip rfl rfl rfl (rfl) rfl rfl ?_
      refine W.any (.pickT rfl rfl rfl) rfl rfl rfl ?_
      refine W.nil (E.thenN ?_)
      refine WC.condT rfl ?_
      have hbad : ¬ offerOk side id am pt := by unfold offerOk; rintro ⟨z1, z2, z3, z4, z5⟩; first | omega | (exact absurd z5 (by assumption)) | (simp_all)
      refine WC.seq (WC.region ?_)
      refine W.any (.assign rfl) rfl rfl rfl ?_
      refine W.nil (E.thenN (WC.ret (E.thenR ?_)))
      have f18 := (hp0.le h1_1)
      have f19 := (hM0.le h1_1)
      have f20 := (hS0.le h1_1)
      have f21 := (hH0.le h1_1)
      refine E.retG1 rfl rfl ?_
      have ho : (offerL s ch side id am pt) = (s, 1) := by unfold offerL; rw [if_pos hbad]
      rw [ho]; exact ⟨L1, _, _, _, _, _, _, m, rfl, ⟨f18, f19, f20, f21, hL.mp, hL.lp, hL.hpp, hL.ml, hL.mh, hL.lh⟩, hR, fun g hg => .inl hg⟩
     ·refine W.any (.dec (.move rfl) (decide_eq_false q2_18)) rfl rfl rfl ?_
      refine W.rdg (Any.rd (.move rfl) _) rfl rfl rfl (rfl) rfl rfl ?_
      refine W.rdg (Any.rd (.not rfl) _) rfl rfl rfl (rfl) rfl rfl ?_
      refine W.any (.pickF rfl rfl rfl) rfl rfl rfl ?_
      by_cases q2_22 : (right pt) = true
      ·refine W.any (.dec (.move rfl) (congrArg not (q2_22))) rfl rfl rfl ?_
       refine W.rdg (Any.rd (.move rfl) _) rfl rfl rfl (rfl) rfl rfl ?_
       refine W.rdg (Any.rd (.eql rfl rfl) _) rfl rfl rfl (rfl) rfl rfl ?_
       refine W.any (.pickF rfl rfl rfl) rfl rfl rfl ?_
       refine W.nil (E.thenN ?_)
       by_cases c0 : ((pt : Nat) : Int) = 1
       ·refine WC.condY rfl (decide_eq_true c0) ?_
        have hbad : ¬ offerOk side id am pt := by unfold offerOk; rintro ⟨z1, z2, z3, z4, z5⟩; first | omega | (exact absurd z5 (by assumption)) | (simp_all)
        refine WC.seq (WC.region ?_)
        refine W.any (.assign rfl) rfl rfl rfl ?_
        refine W.nil (E.thenN (WC.ret (E.thenR ?_)))
        have f22 := (hp0.le h1_1)
        have f23 := (hM0.le h1_1)
        have f24 := (hS0.le h1_1)
        have f25 := (hH0.le h1_1)
        refine E.retG1 rfl rfl ?_
        have ho : (offerL s ch side id am pt) = (s, 1) := by unfold offerL; rw [if_pos hbad]
        rw [ho]; exact ⟨L1, _, _, _, _, _, _, m, rfl, ⟨f22, f23, f24, f25, hL.mp, hL.lp, hL.hpp, hL.ml, hL.mh, hL.lh⟩, hR, fun g hg => .inl hg⟩
       ·refine WC.condN rfl (decide_eq_false c0) ?_
        have hok : offerOk side id am pt := ⟨by omega, by omega, by omega, by omega, by first | assumption | simp_all⟩
        have hsd := hok.1
        refine WC.skip (E.thenN (WC.seq (WC.region ?_)))
        refine W.any (.move rfl) rfl rfl rfl ?_
        refine W.any (.move rfl) rfl rfl rfl ?_
        have f26 := (hp0.le h1_1)
        have f27 := (hM0.le h1_1)
        have f28 := (hS0.le h1_1)
        have f29 := (hH0.le h1_1)
        refine W.ef rfl rfl rfl ?_
        refine Ef.call go59 rfl rfl (rat2_ok ch w1_1 ⟨f26, f27, f28, f29, hL.mp, hL.lp, hL.hpp, hL.ml, hL.mh, hL.lh⟩ hf) ?_
        rintro _ w4_2 ⟨v4_2, rfl, hat4_2, h4_2⟩
        refine ⟨_, rfl, ?_⟩
        have L30 := L1.le h4_2
        refine W.any (.assign rfl) rfl rfl rfl ?_
        refine W.nil (E.thenN (WC.seq (WC.seq (WC.region ?_))))
        refine W.any (.move rfl) rfl rfl rfl ?_
        refine W.any (.lss rfl rfl) rfl rfl rfl ?_
        refine W.nil (E.thenN ?_)
        by_cases c1 : v4_2 < 0
        ·refine WC.condY rfl (decide_eq_true c1) ?_
         refine WC.seq (WC.region ?_)
         refine W.any (.assign rfl) rfl rfl rfl ?_
         refine W.nil (E.thenN (WC.ret (E.thenR ?_)))
         have f31 := (f26.le h4_2)
         have f32 := (f27.le h4_2)
         have f33 := (f28.le h4_2)
         have f34 := (f29.le h4_2)
         refine E.retG1 rfl rfl ?_
         have hno : getG ch s.ls = none := by rcases hat4_2 with ⟨_, z⟩ | ⟨q, z, z1, z2⟩; exact hR.at_none z; omega
         have ho : (offerL s ch side id am pt) = (s, 5) := by unfold offerL; rw [if_neg (not_not_intro hok), hno]
         rw [ho]; exact ⟨L30, _, _, _, _, _, _, m, rfl, ⟨f31, f32, f33, f34, hL.mp, hL.lp, hL.hpp, hL.ml, hL.mh, hL.lh⟩, hR, fun g hg => .inl hg⟩
        ·refine WC.condN rfl (decide_eq_false c1) ?_
         obtain ⟨q, hq0, hq1, hq2⟩ : ∃ q : Nat, v4_2 = (q : Int) ∧ q < m.l.length ∧ (m.l.getD q noSeat).ch = ch := by rcases hat4_2 with ⟨z, _⟩ | z; omega; exact z
         have hgs : getG ch s.ls = some (m.l.getD q noSeat) := by have h := hR.at_some hG hq1; rwa [hq2] at h
         have hsq := seatOk_at (hf.seats q hq1) (k := side.toNat) (by omega)
         refine WC.skip (E.thenN (WC.seq (WC.seq (WC.region ?_))))
         refine W.any (.move rfl) rfl rfl rfl ?_
         refine W.any (.move rfl) rfl rfl rfl ?_
         refine W.any (.move rfl) rfl rfl rfl ?_
         refine W.any (.move rfl) rfl rfl rfl ?_
         have f35 := (f26.le h4_2)
         have f36 := (f27.le h4_2)
         have f37 := (f28.le h4_2)
         have f38 := (f29.le h4_2)
         refine W.ef rfl rfl rfl ?_
         refine Ef.call go64 rfl rfl (rhold2_ok ch side id w4_2 ⟨f35, f36, f37, f38, hL.mp, hL.lp, hL.hpp, hL.ml, hL.mh, hL.lh⟩ hf) ?_
         rintro _ w7_4 ⟨v7_4, rfl, hat7_4, h7_4⟩
         refine ⟨_, rfl, ?_⟩
         have L39 := L30.le h7_4
         refine W.any (.geq rfl rfl) rfl rfl rfl ?_
         refine W.nil (E.thenN ?_)
         by_cases c2 : 0 ≤ v7_4
         ·refine WC.condY rfl (decide_eq_true c2) ?_
          refine WC.seq (WC.region ?_)
          refine W.any (.assign rfl) rfl rfl rfl ?_
          refine W.nil (E.thenN (WC.ret (E.thenR ?_)))
          have f40 := (f35.le h7_4)
          have f41 := (f36.le h7_4)
          have f42 := (f37.le h7_4)
          have f43 := (f38.le h7_4)
          refine E.retG1 rfl rfl ?_
          have ht : (getG (⟨ch, side, id⟩ : Spot) s.lh).isSome = true := by rcases hat7_4 with ⟨z, _⟩ | ⟨k, z, z1, z2⟩; omega; rw [(rel_hold hR hG z1 z2).1]; rfl
          have ho : (offerL s ch side id am pt) = (s, 4) := by unfold offerL; rw [if_neg (not_not_intro hok), hgs]; exact if_pos ht
          rw [ho]; exact ⟨L39, _, _, _, _, _, _, m, rfl, ⟨f40, f41, f42, f43, hL.mp, hL.lp, hL.hpp, hL.ml, hL.mh, hL.lh⟩, hR, fun g hg => .inl hg⟩
         ·refine WC.condN rfl (decide_eq_false c2) ?_
          refine WC.skip (E.thenN (WC.seq (WC.seq (WC.region ?_))))
          refine W.any (.move rfl) rfl rfl rfl ?_
          refine W.any (.nilCheck rfl) rfl rfl rfl ?_
          refine W.any (.field0 fa71_1 rfl) rfl rfl rfl ?_
          have f44 := (f35.le h7_4)
          refine W.rd (.loadB (v := .slice Al m.l.length cl) na68 rfl f44 rfl) rfl rfl rfl ?_
          refine W.any (.move rfl) rfl rfl rfl ?_
          refine W.any (.move rfl) rfl rfl rfl ?_
          refine W.any (.idxS (q) Tryz.underlying68 sz73 rfl rfl (hS0.vec.isSome seatV_row (by omega)) (by omega) (by omega)) rfl rfl rfl ?_
          refine W.any (.vfield fa73_2 (hS0.vec.isSome seatV_row (by omega)) rfl) rfl rfl rfl ?_
          refine W.any (.vidx (side.toNat) Tryz.underlying35 sz3 (hS0.vec.isSome seatV_row (by omega)) rfl rfl (by omega) (by omega)) rfl rfl rfl ?_
          have f45 := (f37.le h7_4)
          refine W.rd (.vcellQ (j := q) (o := 3) (q := side.toNat) (v := .int .i64 (((m.l.getD q noSeat).h side.toNat))) na3 rfl f45.vec seatV_row (getS m.l noSeat (by omega)) (seatH_at _ (by omega))) rfl rfl rfl ?_
          refine W.any (.move rfl) rfl rfl rfl ?_
          refine W.any (.lss rfl rfl) rfl rfl rfl ?_
          refine W.nil (E.thenN ?_)
          by_cases c3 : ((m.l.getD q noSeat).h side.toNat) < am
          ·refine WC.condY rfl (decide_eq_true c3) ?_
           refine WC.seq (WC.region ?_)
           refine W.any (.assign rfl) rfl rfl rfl ?_
           refine W.nil (E.thenN (WC.ret (E.thenR ?_)))
           have f46 := (f36.le h7_4)
           have f47 := (f38.le h7_4)
           refine E.retG1 rfl rfl ?_
           have hno : getG (⟨ch, side, id⟩ : Spot) s.lh = none := by rcases hat7_4 with ⟨_, z⟩ | ⟨k, z, z1, z2⟩; exact hR.hold_none z; omega
           have ht : ¬ (getG (⟨ch, side, id⟩ : Spot) s.lh).isSome = true := by rw [hno]; simp
           have ho : (offerL s ch side id am pt) = (s, 8) := by unfold offerL; rw [if_neg (not_not_intro hok), hgs]; exact (if_neg ht).trans (if_pos (by assumption))
           rw [ho]; exact ⟨L39, _, _, _, _, _, _, m, rfl, ⟨f44, f46, f45, f47, hL.mp, hL.lp, hL.hpp, hL.ml, hL.mh, hL.lh⟩, hR, fun g hg => .inl hg⟩
          ·refine WC.condN rfl (decide_eq_false c3) ?_
           refine WC.skip (E.thenN (WC.seq ?_))
           refine WC.draw [0, 1, 2, 3, 4, 5, 6, 7, 8, 9, 10, 11, 12, 13, 14, 15, 16, 17, 18, 19, 20, 21] mixed (by kernel_rfl) ?_
           intro w11 d11
           have L48 := L39.le d11
           refine G.any rfl rfl (.move rfl) rfl rfl rfl ?_
           refine G.any rfl rfl (.nilCheck rfl) rfl rfl rfl ?_
           refine G.any rfl rfl (.field0 fa71_1 rfl) rfl rfl rfl ?_
           have f49 := (f44.le d11)
           refine G.rd rfl rfl (.loadB (v := .slice Al m.l.length cl) na68 rfl f49 rfl) rfl rfl rfl ?_
           refine G.any rfl rfl (.move rfl) rfl rfl rfl ?_
           refine G.any rfl rfl (.move rfl) rfl rfl rfl ?_
           refine G.any rfl rfl (.move rfl) rfl rfl rfl ?_
           refine G.any rfl rfl (.nilCheck rfl) rfl rfl rfl ?_
           refine G.any rfl rfl (.field0 fa71_1 rfl) rfl rfl rfl ?_
           refine G.rd rfl rfl (.loadB (v := .slice Al m.l.length cl) na68 rfl f49 rfl) rfl rfl rfl ?_
           refine G.any rfl rfl (.move rfl) rfl rfl rfl ?_
           refine G.any rfl rfl (.move rfl) rfl rfl rfl ?_
           refine G.any rfl rfl (.idxS (q) Tryz.underlying68 sz73 rfl rfl (hS0.vec.isSome seatV_row (by omega)) (by omega) (by omega)) rfl rfl rfl ?_
           refine G.any rfl rfl (.vfield fa73_2 (hS0.vec.isSome seatV_row (by omega)) rfl) rfl rfl rfl ?_
           refine G.any rfl rfl (.vidx (side.toNat) Tryz.underlying35 sz3 (hS0.vec.isSome seatV_row (by omega)) rfl rfl (by omega) (by omega)) rfl rfl rfl ?_
           have f50 := (f45.le d11)
           refine G.rd rfl rfl (.vcellQ (j := q) (o := 3) (q := side.toNat) (v := .int .i64 (((m.l.getD q noSeat).h side.toNat))) na3 rfl f50.vec seatV_row (getS m.l noSeat (by omega)) (seatH_at _ (by omega))) rfl rfl rfl ?_
           refine G.any rfl rfl (.move rfl) rfl rfl rfl ?_
           refine G.any rfl rfl (.sub rfl rfl (by omega)) rfl rfl rfl ?_
           refine G.any rfl rfl (.idxS (q) Tryz.underlying68 sz73 rfl rfl (hS0.vec.isSome seatV_row (by omega)) (by omega) (by omega)) rfl rfl rfl ?_
           refine G.any rfl rfl (.vfield fa73_2 (hS0.vec.isSome seatV_row (by omega)) rfl) rfl rfl rfl ?_
           refine G.any rfl rfl (.vidx (side.toNat) Tryz.underlying35 sz3 (hS0.vec.isSome seatV_row (by omega)) rfl rfl (by omega) (by omega)) rfl rfl rfl ?_
           refine G.ef0 rfl rfl rfl rfl ?_
           refine Ef.vset (j := q) (o := 3 + side.toNat) ((m.l.getD q noSeat).setH side.toNat (((m.l.getD q noSeat).h side.toNat) - am)) sz3 rfl (by omega) rfl f50 seatV_row (getS m.l noSeat (by omega)) (by omega) (seatH_setL _ _ (by omega)) rfl ?_
           intro w11_21 o11_21 h11_21
           refine ⟨fun h => absurd h (ne_true_of_eq_false (by kernel_rfl)), ?_⟩
           have L51 : ChP w w11_21 (fun k => k = gp ∨ rowOf Am cm = some k ∨ rowOf Al cl = some k ∨ rowOf Ah ch_ = some k) := L48.ch h11_21 (fun i hi _ => (fun i hi => Or.inr (Or.inr (Or.inl hi))) i hi)
           refine G.nil (E.thenN (WC.seq (WC.region ?_)))
           refine W.any (.move rfl) rfl rfl rfl ?_
           refine W.any (.move rfl) rfl rfl rfl ?_
           refine W.any (.nilCheck rfl) rfl rfl rfl ?_
           refine W.any (.field0 fa71_2 rfl) rfl rfl rfl ?_
           have f52 := (f49.ch h11_21 hL.lp)
           refine W.rd (.loadB (v := .slice Ah m.hs.length ch_) na69 rfl f52 rfl) rfl rfl rfl ?_
           refine W.any (.move rfl) rfl rfl rfl ?_
           refine W.any (.move rfl) rfl rfl rfl ?_
           refine W.any (.move rfl) rfl rfl rfl ?_
           refine W.any (.move rfl) rfl rfl rfl ?_
           refine W.any (.move rfl) rfl rfl rfl ?_
           refine W.any (.buildP (rholdV (⟨ch, side, id, am, pt⟩ : RHold)) pl103 z103 rfl rfl) rfl rfl rfl ?_
           refine W.ef rfl rfl rfl ?_
           refine Ef.buildSliceV (len := 1) [_] Tryz.underlying69 el103 rfl (by simp [Value.cells, rholdV_row.len]) rfl (by decide) (by decide) ?_
           intro g12_11 w12_11 hg12_11 b12_11 h12_11
           have L53 := L51.le h12_11
           have b12_11 : Blk w12_11 g12_11 103 (([(⟨ch, side, id, am, pt⟩ : RHold)]).map rholdV).flatten.toArray := b12_11
           have o12_11 : OVec w12_11 w11_21.heap.size 103 rholdV 5 (some ⟨g12_11, 0, none⟩) 1 1 ([(⟨ch, side, id, am, pt⟩ : RHold)]) := b12_11.ovec hg12_11 rholdV_row rfl rfl (by decide)
           have f54 := (((f38.le (h7_4.trans d11)).ch h11_21 (hL.lh)).le h12_11)
           refine W.ef rfl rfl rfl ?_
           refine Ef.vpush (a := (⟨ch, side, id, am, pt⟩ : RHold)) Tryz.underlying69 el103 Tryz.underlying69 rholdV_row rfl f54 rfl b12_11 (by omega) (by unfold maxLen; omega) (Nat.zero_le _) ?_
           intro A12_12 c12_12 w12_12 o12_12 h12_12 at12_12
           have L55 : ChP w w12_12 (fun k => k = gp ∨ rowOf Am cm = some k ∨ rowOf Al cl = some k ∨ rowOf Ah ch_ = some k) := L53.ch h12_12 (fun i hi _ => (fun i hi => Or.inr (Or.inr (Or.inr hi))) i hi)
           refine W.any (.nilCheck rfl) rfl rfl rfl ?_
           refine W.any (.field0 fa71_2 rfl) rfl rfl rfl ?_
           have f56 := ((f52.le h12_11).ch h12_12 hL.hpp)
           refine W.ef0 rfl rfl ?_
           refine Ef.store sz69 rfl rfl f56 (by first | decide | (simp; done)) (rfl) ?_
           intro w12_15 b12_15 h12_15
           have b12_15 : Blk w12_15 gp 71 #[.slice Am m.mine.length cm, .slice Al m.l.length cl, .slice A12_12 (m.hs.length + 1) c12_12, .int .i64 (m.gone)] := b12_15
           have L57 : ChP w w12_15 (fun k => k = gp ∨ rowOf Am cm = some k ∨ rowOf Al cl = some k ∨ rowOf Ah ch_ = some k) := L55.ch h12_15 (fun i hi _ => by cases hi; exact Or.inl rfl)
           refine W.nil (E.thenN (WC.seq (WC.region ?_)))
           refine W.any (.assign rfl) rfl rfl rfl ?_
           refine W.nil (E.thenN (WC.ret ?_))
           have hlen : (m.hs.length + 1) = ((m.hs ++ [(⟨ch, side, id, am, pt⟩ : RHold)])).length := by simp
           have hlel : ((m.l.set q ((m.l.getD q noSeat).setH side.toNat ((m.l.getD q noSeat).h side.toNat - am)))).length = m.l.length := by simp
           have f58 := (((((f36.le (h7_4.trans d11)).ch h11_21 ((Apart.symm hL.ml))).le h12_11).ch h12_12 ((Apart.symm hL.mh))).ch h12_15 (fun q hq => by cases hq; exact hL.mp))
           have f59 := (((o11_21.le h12_11).ch h12_12 ((Apart.symm hL.lh))).ch h12_15 (fun q hq => by cases hq; exact hL.lp))
           have f60 := (o12_12.ch h12_15 (fun q hq => by cases hq; exact (at12_12.off (by have := f52.lt; have := h12_11.size; omega) hL.hpp)))
           refine E.retG1 rfl rfl ?_
           have hno : getG (⟨ch, side, id⟩ : Spot) s.lh = none := by rcases hat7_4 with ⟨_, z⟩ | ⟨k, z, z1, z2⟩; exact hR.hold_none z; omega
           have ht : ¬ (getG (⟨ch, side, id⟩ : Spot) s.lh).isSome = true := by rw [hno]; simp
           have ho : (offerL s ch side id am pt) = (⟨s.own, updM ch ((m.l.getD q noSeat).setH side.toNat ((m.l.getD q noSeat).h side.toNat - am)) s.ls, s.cs, s.lh ++ [(s.ck, ⟨ch, side, id⟩, ⟨am, pt⟩)], s.ck + 1, s.lost⟩, 0) := by unfold offerL; rw [if_neg (not_not_intro hok), hgs]; exact (if_neg ht).trans (if_neg (by assumption))
           have hu := hR.seats.upd (z := noSeat) hG.keys hq1 (u := (m.l.getD q noSeat).setH side.toNat ((m.l.getD q noSeat).h side.toNat - am)) (setH_ch _ _ _)
           rw [show (entS ((m.l.getD q noSeat).setH side.toNat ((m.l.getD q noSeat).h side.toNat - am))).1 = ch from (setH_ch _ _ _).trans hq2] at hu
           rw [ho]; refine ⟨L57, _, _, _, _, _, _, ⟨m.mine, (m.l.set q ((m.l.getD q noSeat).setH side.toNat ((m.l.getD q noSeat).h side.toNat - am))), (m.hs ++ [(⟨ch, side, id, am, pt⟩ : RHold)]), m.gone⟩, rfl, ⟨(by have hq := b12_15; rw [hlen, ← hlel] at hq; exact hq), f58, (f59.cast hlel.symm rfl), ((f60.mono (Nat.zero_le _)).cast hlen rfl), hL.mp, hL.lp, (at12_12.off (by have := f52.lt; have := h12_11.size; omega) hL.hpp), hL.ml, (Apart.symm (Apart.step (Apart.symm hL.mh) at12_12 (fun q hq => by have := (f36.row hq).2; have := h7_4.size; have := d11.size; have := h11_21.size; have := h12_11.size; omega))), (Apart.symm (Apart.step (Apart.symm hL.lh) at12_12 (fun q hq => by have := (o11_21.row hq).2; have := h12_11.size; omega)))⟩, ⟨e1, e2, hu, set_srt hR.srt (setH_ch _ _ _), hR.holds.push (t := (⟨ch, side, id, am, pt⟩ : RHold)) (List.perm_append_singleton _ _)⟩, ?_⟩
           rintro g (q | q | q | q)
           ·exact .inl (.inl q)
           ·exact .inl (.inr (.inl q))
           ·exact .inl (.inr (.inr (.inl q)))
           ·exact (at12_12 g q).imp (fun z => .inr (.inr (.inr z))) (fun z => Nat.le_trans L53.size z)
      ·refine W.any (.dec (.move rfl) (congrArg not ((Bool.eq_false_iff.2 q2_22)))) rfl rfl rfl ?_
       refine W.skip rfl rfl rfl (rfl) rfl rfl ?_
       refine W.skip rfl rfl rfl (rfl) rfl rfl ?_
       refine W.any (.pickT rfl rfl rfl) rfl rfl rfl ?_
       refine W.nil (E.thenN ?_)
       refine WC.condT rfl ?_
       have hbad : ¬ offerOk side id am pt := by unfold offerOk; rintro ⟨z1, z2, z3, z4, z5⟩; first | omega | (exact absurd z5 (by assumption)) | (simp_all)
       refine WC.seq (WC.region ?_)
       refine W.any (.assign rfl) rfl rfl rfl ?_
       refine W.nil (E.thenN (WC.ret (E.thenR ?_)))
       have f61 := (hp0.le h1_1)
       have f62 := (hM0.le h1_1)
       have f63 := (hS0.le h1_1)
       have f64 := (hH0.le h1_1)
       refine E.retG1 rfl rfl ?_
       have ho : (offerL s ch side id am pt) = (s, 1) := by unfold offerL; rw [if_pos hbad]
       rw [ho]; exact ⟨L1, _, _, _, _, _, _, m, rfl, ⟨f61, f62, f63, f64, hL.mp, hL.lp, hL.hpp, hL.ml, hL.mh, hL.lh⟩, hR, fun g hg => .inl hg⟩
end Go.Proofs.YtmgfgbplbemklaaGreat

namespace Go.Proofs.YtmgfgbplbemklaaGreat
open Go Go.Sx Go.Num Go.Gsp Go.Lsp
set_option maxRecDepth 20000
set_option linter.unusedSimpArgs false
set_option linter.unusedVariables false
theorem coinL_T {n : Int} (h : coinL n = true) : 0 ≤ n ∧ n ≤ 1125899906842624 := by simpa [coinL] using h
theorem new_not {own : List Int} {k : Nat} (hk : k < own.length) (h : ¬ coinL (own.getD k 0) = true) : ¬ newOk own := fun ⟨_, h2, h3⟩ => h (by
  have h4 := le_sum h2 k
  have h5 := h2 _ (getD_mem (z := 0) hk)
  simp only [coinL, decide_eq_true_eq]
  omega)
theorem rlnew_ok {Aw : Option Addr} {nw cw : Nat} {own : List Int} (w : World) (hV : Vec w iv 1 Aw nw own) : Calls Tryz.prog 7 #[.slice Aw nw cw] w fun r w' => (¬ newOk own ∧ r = .returned (.pointer none) ∧ Le w w') ∨ (newOk own ∧ ∃ gp Am cm, r = .returned (.pointer (some ⟨gp, 0, none⟩)) ∧ RLL w' gp Am cm none 0 none 0 ⟨own, [], [], 0⟩ ∧ (∀ k, RLF gp Am cm none 0 none 0 k → w.heap.size ≤ k) ∧ Le w w') := by
 have hnw := hV.1
 refine enter Tryz.func7 rfl rfl ?_
 have L0 := Le.refl w
 refine WC.seq (WC.region ?_)
 refine W.any (.assign rfl) rfl rfl rfl ?_
 refine W.nil (E.thenN (WC.seq (WC.region ?_)))
 refine W.any (.assign rfl) rfl rfl rfl ?_
 refine W.nil (E.thenN (WC.seq (WC.seq (WC.region ?_))))
 refine W.any (.assign rfl) rfl rfl rfl ?_
 refine W.nil (E.thenN (WC.block ?_))
 refine WC.loop (ι := Nat) (fun k => [(0, .slice Aw nw cw), (3, .int .i64 ((own.take k).sum)), (4, .int .i64 (((k : Nat) : Int)))]) (fun k wl0 => (k ≤ nw ∧ k ≤ 12) ∧ (∀ j, j < k → 0 ≤ own.getD j 0) ∧ (0 ≤ (own.take k).sum ∧ (own.take k).sum ≤ 1125899906842624 * k) ∧ Le w wl0 ∧ w.heap.size ≤ wl0.heap.size) (fun k => nw - k) 0 ?_ ?_ ?_
 ·exact .cons rfl (.cons' rfl (int_eq (by simp)) (.cons rfl (.nil _)))
 ·exact ⟨by omega, (fun j hj => absurd hj (Nat.not_lt_zero _)), by simp, L0, Nat.le_refl _⟩
 ·rintro k wl0 ⟨hk, hz0, hsm, Ll0, zl0⟩
  refine WC.seq (WC.seq (WC.region ?_))
  refine W.any (.move rfl) rfl rfl rfl ?_
  refine W.any (.move rfl) rfl rfl rfl ?_
  refine W.rd (.len Tryz.underlying22 rfl) rfl rfl rfl ?_
  refine W.any (.lss rfl rfl) rfl rfl rfl ?_
  refine W.nil (E.thenN ?_)
  by_cases c0 : ((k : Nat) : Int) < ((nw : Nat) : Int)
  ·refine WC.condY rfl (decide_eq_true c0) ?_
   refine WC.skip (E.thenN (WC.seq (WC.block (WC.seq (WC.seq (WC.region ?_))))))
   refine W.any (.move rfl) rfl rfl rfl ?_
   refine W.any (.move rfl) rfl rfl rfl ?_
   refine W.any (.idxS (k) Tryz.underlying22 sz3 rfl rfl (hV.isSome iv_row (by omega)) (rfl) (by omega)) rfl rfl rfl ?_
   refine W.rd (.vone (v := .int .i64 ((own.getD k 0))) na3 rfl (hV.le Ll0) iv_row (getS own 0 (by first | omega | (simp only [List.length_cons, List.length_nil]; omega))) rfl) rfl rfl rfl ?_
   refine W.ef rfl rfl rfl ?_
   refine Ef.call go28 rfl rfl (rcoin_ok (own.getD k 0) wl0) ?_
   rintro _ w5_4 ⟨rfl, h5_4⟩
   refine ⟨_, rfl, ?_⟩
   have L1 := Ll0.trans h5_4
   refine W.any (.not rfl) rfl rfl rfl ?_
   by_cases q5_6 : (coinL (own.getD k 0)) = true
   ·refine W.any (.dec (.move rfl) (congrArg not (q5_6))) rfl rfl rfl ?_
    refine W.rdg (Any.rd (.move rfl) _) rfl rfl rfl (rfl) rfl rfl ?_
    refine W.rdg (Any.rd (.gtr rfl rfl) _) rfl rfl rfl (rfl) rfl rfl ?_
    refine W.any (.pickF rfl rfl rfl) rfl rfl rfl ?_
    refine W.nil (E.thenN ?_)
    by_cases c1 : 11 < ((k : Nat) : Int)
    ·refine WC.condY rfl (decide_eq_true c1) ?_
     refine WC.seq (WC.region ?_)
     refine W.any (.assign rfl) rfl rfl rfl ?_
     refine W.nil (E.thenN (WC.ret (E.thenR (E.blkR (E.thenR (E.thenR (E.blkR (E.thenR ?_))))))))
     refine E.retG1 rfl rfl ?_
     exact .inl ⟨(by first | exact new_not (k := k) (by omega) (by assumption) | (intro hz; have z1 := hz.1; omega) | (intro hz; have z1 := hz.2.2; have z2 := sum_nn hz.2.1; have z3 : (own.take k).sum = own.sum := (by rw [List.take_of_length_le (by omega)]); exact absurd (show coinL (own.take k).sum = true by simp only [coinL, decide_eq_true_eq]; omega) (by assumption))), rfl, L1⟩
    ·refine WC.condN rfl (decide_eq_false c1) ?_
     refine WC.skip (E.thenN (WC.region ?_))
     refine W.any (.move rfl) rfl rfl rfl ?_
     refine W.any (.move rfl) rfl rfl rfl ?_
     refine W.any (.move rfl) rfl rfl rfl ?_
     refine W.any (.idxS (k) Tryz.underlying22 sz3 rfl rfl (hV.isSome iv_row (by omega)) (rfl) (by omega)) rfl rfl rfl ?_
     refine W.rd (.vone (v := .int .i64 ((own.getD k 0))) na3 rfl (hV.le L1) iv_row (getS own 0 (by first | omega | (simp only [List.length_cons, List.length_nil]; omega))) rfl) rfl rfl rfl ?_
     refine W.any (.add rfl rfl (by have := coinL_T (by assumption : coinL (own.getD k 0) = true); omega)) rfl rfl rfl ?_
     refine W.any (.assign rfl) rfl rfl rfl ?_
     refine W.nil (E.blkN (E.thenN (WC.region ?_)))
     refine W.any (.move rfl) rfl rfl rfl ?_
     refine W.any (.add rfl rfl (by omega)) rfl rfl rfl ?_
     refine W.any (.assign rfl) rfl rfl rfl ?_
     refine W.nil ?_
     refine E.again (k + 1) (.cons rfl (.cons' rfl (int_eq (by rw [sum_take_next (by omega)])) (.cons rfl (.nil _)))) ?_ ?_
     ·exact ⟨by omega, (fun j hj => by rcases Nat.lt_or_ge j k with h | h; exact hz0 j h; rw [show j = k by omega]; exact (coinL_T (by assumption)).1), by have := coinL_T (by assumption : coinL (own.getD k 0) = true); rw [sum_take_next (by omega)]; omega, L1, by have := zl0; have := h5_4.size; omega⟩
     ·first | omega | (simp only []; omega)
   ·refine W.any (.dec (.move rfl) (congrArg not ((Bool.eq_false_iff.2 q5_6)))) rfl rfl rfl ?_
    refine W.skip rfl rfl rfl (rfl) rfl rfl ?_
    refine W.skip rfl rfl rfl (rfl) rfl rfl ?_
    refine W.any (.pickT rfl rfl rfl) rfl rfl rfl ?_
    refine W.nil (E.thenN ?_)
    refine WC.condT rfl ?_
    refine WC.seq (WC.region ?_)
    refine W.any (.assign rfl) rfl rfl rfl ?_
    refine W.nil (E.thenN (WC.ret (E.thenR (E.blkR (E.thenR (E.thenR (E.blkR (E.thenR ?_))))))))
    refine E.retG1 rfl rfl ?_
    exact .inl ⟨(by first | exact new_not (k := k) (by omega) (by assumption) | (intro hz; have z1 := hz.1; omega) | (intro hz; have z1 := hz.2.2; have z2 := sum_nn hz.2.1; have z3 : (own.take k).sum = own.sum := (by rw [List.take_of_length_le (by omega)]); exact absurd (show coinL (own.take k).sum = true by simp only [coinL, decide_eq_true_eq]; omega) (by assumption))), rfl, L1⟩
  ·refine WC.condN rfl (decide_eq_false c0) ?_
   refine WC.exit (E.thenX (E.thenX (E.blkH (E.thenN (WC.seq (WC.seq (WC.region ?_)))))))
   refine W.any (.move rfl) rfl rfl rfl ?_
   refine W.rd (.len Tryz.underlying22 rfl) rfl rfl rfl ?_
   refine W.any (.lss rfl rfl) rfl rfl rfl ?_
   by_cases q8_3 : ((nw : Nat) : Int) < 1
   ·refine W.any (.dec (.move rfl) (decide_eq_true q8_3)) rfl rfl rfl ?_
    refine W.skip rfl rfl rfl (rfl) rfl rfl ?_
    refine W.skip rfl rfl rfl (rfl) rfl rfl ?_
    refine W.skip rfl rfl rfl (rfl) rfl rfl ?_
    refine W.any (.pickT rfl rfl rfl) rfl rfl rfl ?_
    refine W.nil (E.thenN ?_)
    refine WC.condT rfl ?_
    refine WC.seq (WC.region ?_)
    refine W.any (.assign rfl) rfl rfl rfl ?_
    refine W.nil (E.thenN (WC.ret (E.thenR ?_)))
    refine E.retG1 rfl rfl ?_
    exact .inl ⟨(by first | exact new_not (k := k) (by omega) (by assumption) | (intro hz; have z1 := hz.1; omega) | (intro hz; have z1 := hz.2.2; have z2 := sum_nn hz.2.1; have z3 : (own.take k).sum = own.sum := (by rw [List.take_of_length_le (by omega)]); exact absurd (show coinL (own.take k).sum = true by simp only [coinL, decide_eq_true_eq]; omega) (by assumption))), rfl, Ll0⟩
   ·refine W.any (.dec (.move rfl) (decide_eq_false q8_3)) rfl rfl rfl ?_
    refine W.rdg (Any.rd (.move rfl) _) rfl rfl rfl (rfl) rfl rfl ?_
    refine W.efg rfl rfl rfl (rfl) rfl rfl ?_
    refine Ef.call go28 rfl rfl (rcoin_ok ((own.take k).sum) wl0) ?_
    rintro _ w8_5 ⟨rfl, h8_5⟩
    refine ⟨_, rfl, ?_⟩
    have L2 := Ll0.trans h8_5
    refine W.rdg (Any.rd (.not rfl) _) rfl rfl rfl (rfl) rfl rfl ?_
    refine W.any (.pickF rfl rfl rfl) rfl rfl rfl ?_
    refine W.nil (E.thenN ?_)
    by_cases c2 : (coinL ((own.take k).sum)) = true
    ·refine WC.condN rfl (congrArg not (c2)) ?_
     refine WC.skip (E.thenN (WC.seq (WC.region ?_)))
     refine W.ef rfl rfl rfl ?_
     refine Ef.buildSlice0 Tryz.underlying22 el3 ?_
     intro g10_0 w10_0 hg10_0 b10_0 h10_0
     have L3 := L2.trans h10_0
     have o10_0 : OVec w10_0 w8_5.heap.size 3 iv 1 (some ⟨g10_0, 0, none⟩) 0 0 [] := OVec.nil _ _ _ _ _ _
     refine W.any (.move rfl) rfl rfl rfl ?_
     refine W.ef rfl rfl rfl ?_
     refine Ef.vcat Tryz.underlying22 el3 Tryz.underlying22 iv_row rfl o10_0 rfl (hV.le L3) (by omega) (by unfold maxLen; omega) (by have := h10_0.size; omega) ?_
     intro A10_2 c10_2 w10_2 o10_2 h10_2 at10_2
     have L4 : Le w w10_2 := L3.then_ h10_2 (fun q hq => Nat.le_trans L2.size (o10_0.row hq).1)
     refine W.any (.buildP [.slice A10_2 (0 + nw) c10_2, .slice none 0 0, .slice none 0 0, .int .i64 (0)] pl71 z71 rfl rfl) rfl rfl rfl ?_
     refine W.ef rfl rfl rfl ?_
     refine Ef.boxA rfl ?_
     intro g10_4 w10_4 hg10_4 b10_4 h10_4
     have L5 := L4.trans h10_4
     have b10_4 : Blk w10_4 g10_4 71 #[.slice A10_2 (0 + nw) c10_2, .slice none 0 0, .slice none 0 0, .int .i64 (0)] := b10_4
     refine W.any (.assign rfl) rfl rfl rfl ?_
     refine W.nil (E.thenN (WC.ret ?_))
     have f6 := (o10_2.le h10_4)
     refine E.retG1 rfl rfl ?_
     have hnl := hV.1; subst hnl; have hz : (0 + own.length) = own.length := (by omega); have hks : (own.take k).sum = own.sum := (by rw [List.take_of_length_le (by omega)]); have hcs := coinL_T (by assumption : coinL (own.take k).sum = true); exact .inr ⟨⟨by omega, (fun x hx => by obtain ⟨j, hj, rfl⟩ := List.getElem_of_mem hx; have := hz0 j (by omega); simpa [List.getD, hj] using this), by omega⟩, _, _, _, rfl, ⟨(by have hq := b10_4; rw [hz] at hq; exact hq), ((f6.mono (Nat.zero_le _)).cast hz (by simp)), OVec.nil _ _ _ _ _ _, OVec.nil _ _ _ _ _ _, (fun he => by have := (o10_2.row he).2; omega), (by simp [rowOf]), (by simp [rowOf]), (fun q h1 => by simp [rowOf]), (fun q h1 => by simp [rowOf]), (fun q h1 => by simp [rowOf] at h1)⟩, (fun k hk => Or.elim hk (fun e => e ▸ (Nat.le_trans L4.size hg10_4)) (fun hk => Or.elim hk (fun hk => ((f6.mono L2.size).row hk).1) (fun hk => Or.elim hk (fun hk => by simp [rowOf] at hk) (fun hk => by simp [rowOf] at hk)))), L5⟩
    ·refine WC.condY rfl (congrArg not ((Bool.eq_false_iff.2 c2))) ?_
     refine WC.seq (WC.region ?_)
     refine W.any (.assign rfl) rfl rfl rfl ?_
     refine W.nil (E.thenN (WC.ret (E.thenR ?_)))
     refine E.retG1 rfl rfl ?_
     exact .inl ⟨(by first | exact new_not (k := k) (by omega) (by assumption) | (intro hz; have z1 := hz.1; omega) | (intro hz; have z1 := hz.2.2; have z2 := sum_nn hz.2.1; have z3 : (own.take k).sum = own.sum := (by rw [List.take_of_length_le (by omega)]); exact absurd (show coinL (own.take k).sum = true by simp only [coinL, decide_eq_true_eq]; omega) (by assumption))), rfl, L2⟩

theorem rtotal_ok {gp cm cl ch_ : Nat} {Am Al Ah : Option Addr} {m : RLed} {s : Led} (w : World) (hL : RLL w gp Am cm Al cl Ah ch_ m) (hf : SmallR m) (hR : RelL s m) (hG : GoodL s) : Calls Tryz.prog 40 #[.pointer (some ⟨gp, 0, none⟩)] w fun r w' => r = .returned (.int .i64 (totalL s.own s.ls s.lh s.own.length)) ∧ Le w w' := by
 have hfl := hf.few
 have e1 := hR.mine
 have e3 : m.mine.length = s.own.length := by rw [e1]
 refine enter Tryz.func40 rfl rfl ?_
 have L0 := Le.refl w
 refine WC.seq (WC.region ?_)
 refine W.any (.assign rfl) rfl rfl rfl ?_
 refine W.nil (E.thenN (WC.seq (WC.region ?_)))
 refine W.any (.assign rfl) rfl rfl rfl ?_
 refine W.nil (E.thenN (WC.seq (WC.seq (WC.region ?_))))
 refine W.any (.assign rfl) rfl rfl rfl ?_
 refine W.nil (E.thenN (WC.block ?_))
 refine WC.loop (ι := Nat) (fun k => [(0, .pointer (some ⟨gp, 0, none⟩)), (3, .int .i64 ((totalL s.own s.ls s.lh k))), (4, .int .i64 (((k : Nat) : Int)))]) (fun k wl0 => (k ≤ m.mine.length) ∧ (0 ≤ (totalL s.own s.ls s.lh k) ∧ (totalL s.own s.ls s.lh k) ≤ 1125899906842624 * k) ∧ Le w wl0 ∧ w.heap.size ≤ wl0.heap.size) (fun k => m.mine.length - k) 0 ?_ ?_ ?_
 ·exact .cons rfl (.cons' rfl (int_eq (by simp [totalL])) (.cons rfl (.nil _)))
 ·exact ⟨Nat.zero_le _, by simp [totalL], L0, Nat.le_refl _⟩
 ·rintro k wl0 ⟨hk, hsm, Ll0, zl0⟩
  have hw1 := worth_ge hG ((k : Nat) : Int)
  have hw2 := worth_le hG ((k : Nat) : Int)
  refine WC.seq (WC.seq (WC.region ?_))
  refine W.any (.move rfl) rfl rfl rfl ?_
  refine W.any (.move rfl) rfl rfl rfl ?_
  refine W.any (.nilCheck rfl) rfl rfl rfl ?_
  refine W.any (.field0 fa71_0 rfl) rfl rfl rfl ?_
  refine W.rd (.loadB (v := .slice Am m.mine.length cm) na22 rfl (hL.hp.le Ll0) rfl) rfl rfl rfl ?_
  refine W.rd (.len Tryz.underlying22 rfl) rfl rfl rfl ?_
  refine W.any (.lss rfl rfl) rfl rfl rfl ?_
  refine W.nil (E.thenN ?_)
  by_cases c0 : ((k : Nat) : Int) < ((m.mine.length : Nat) : Int)
  ·refine WC.condY rfl (decide_eq_true c0) ?_
   refine WC.skip (E.thenN (WC.seq (WC.block (WC.region ?_))))
   refine W.any (.move rfl) rfl rfl rfl ?_
   refine W.any (.move rfl) rfl rfl rfl ?_
   refine W.any (.move rfl) rfl rfl rfl ?_
   refine W.ef rfl rfl rfl ?_
   refine Ef.call go43 rfl rfl ((by have h := rworth_ok ((k : Nat) : Int) wl0 (hL.chP (Ll0.chP (fun _ => False)) (fun _ _ hf => hf)) hf; rw [hR.worth] at h; exact h)) ?_
   rintro _ w5_3 ⟨rfl, h5_3⟩
   refine ⟨_, rfl, ?_⟩
   have L1 := Ll0.trans h5_3
   refine W.any (.add rfl rfl (by omega)) rfl rfl rfl ?_
   refine W.any (.assign rfl) rfl rfl rfl ?_
   refine W.nil (E.blkN (E.thenN (WC.region ?_)))
   refine W.any (.move rfl) rfl rfl rfl ?_
   refine W.any (.add rfl rfl (by omega)) rfl rfl rfl ?_
   refine W.any (.assign rfl) rfl rfl rfl ?_
   refine W.nil ?_
   refine E.again (k + 1) (.cons rfl (.cons' rfl (int_eq (by rw [totalL_next])) (.cons rfl (.nil _)))) ?_ ?_
   ·exact ⟨by omega, by rw [totalL_next]; omega, L1, by have := zl0; have := h5_3.size; omega⟩
   ·first | omega | (simp only []; omega)
  ·refine WC.condN rfl (decide_eq_false c0) ?_
   refine WC.exit (E.thenX (E.thenX (E.blkH (E.thenN (WC.seq (WC.region ?_))))))
   refine W.any (.move rfl) rfl rfl rfl ?_
   refine W.any (.assign rfl) rfl rfl rfl ?_
   refine W.nil (E.thenN (WC.ret ?_))
   refine E.retG1 rfl rfl ?_
   exact ⟨by rw [show k = s.own.length by omega], Ll0⟩
end Go.Proofs.YtmgfgbplbemklaaGreat

namespace Go.Proofs.YtmgfgbplbemklaaGreat
open Go Go.Sx Go.Num Go.Gsp Go.Lsp
set_option maxRecDepth 20000
set_option linter.unusedSimpArgs false
set_option linter.unusedVariables false
theorem rat3_ok {gp n cl : Nat} {Al : Option Addr} {l : List Seat} {va vb vc : Value} (ch : Int) (w : World) (hp0 : Blk w gp 71 #[va, .slice Al n cl, vb, vc]) (hS0 : Vec w seatV 5 Al n l) (hn : n ≤ 1000) : Calls Tryz.prog 59 #[.pointer (some ⟨gp, 0, none⟩), .int .i64 (ch)] w fun r w' => ∃ v, r = .returned (.int .i64 v) ∧ AtR l ch v ∧ Le w w' := by
 have hnl := hS0.1
 refine enter Tryz.func59 rfl rfl ?_
 have L0 := Le.refl w
 refine WC.seq (WC.region ?_)
 refine W.any (.assign rfl) rfl rfl rfl ?_
 refine W.nil (E.thenN (WC.seq (WC.seq (WC.region ?_))))
 refine W.any (.assign rfl) rfl rfl rfl ?_
 refine W.nil (E.thenN (WC.block ?_))
 refine WC.loop (ι := Nat) (fun k => [(0, .pointer (some ⟨gp, 0, none⟩)), (1, .int .i64 (ch)), (5, .int .i64 (((k : Nat) : Int)))]) (fun k wl0 => (k ≤ n) ∧ (∀ j, j < k → (l.getD j noSeat).ch ≠ ch) ∧ Le w wl0 ∧ w.heap.size ≤ wl0.heap.size) (fun k => n - k) 0 ?_ ?_ ?_
 ·exact .cons rfl (.cons rfl (.cons rfl (.nil _)))
 ·exact ⟨Nat.zero_le _, (fun j hj => absurd hj (Nat.not_lt_zero _)), L0, Nat.le_refl _⟩
 ·rintro k wl0 ⟨hk, hz, Ll0, zl0⟩
  refine WC.seq (WC.seq (WC.region ?_))
  refine W.any (.move rfl) rfl rfl rfl ?_
  refine W.any (.move rfl) rfl rfl rfl ?_
  refine W.any (.nilCheck rfl) rfl rfl rfl ?_
  refine W.any (.field0 fa71_1 rfl) rfl rfl rfl ?_
  refine W.rd (.loadB (v := .slice Al n cl) na68 rfl (hp0.le Ll0) rfl) rfl rfl rfl ?_
  refine W.rd (.len Tryz.underlying68 rfl) rfl rfl rfl ?_
  refine W.any (.lss rfl rfl) rfl rfl rfl ?_
  refine W.nil (E.thenN ?_)
  by_cases c0 : ((k : Nat) : Int) < ((n : Nat) : Int)
  ·refine WC.condY rfl (decide_eq_true c0) ?_
   refine WC.skip (E.thenN (WC.seq (WC.block (WC.seq (WC.region ?_)))))
   refine W.any (.move rfl) rfl rfl rfl ?_
   refine W.any (.nilCheck rfl) rfl rfl rfl ?_
   refine W.any (.field0 fa71_1 rfl) rfl rfl rfl ?_
   refine W.rd (.loadB (v := .slice Al n cl) na68 rfl (hp0.le Ll0) rfl) rfl rfl rfl ?_
   refine W.any (.move rfl) rfl rfl rfl ?_
   refine W.any (.idxS (k) Tryz.underlying68 sz73 rfl rfl (hS0.isSome seatV_row (by omega)) (rfl) (by omega)) rfl rfl rfl ?_
   refine W.any (.vfield fa73_0 (hS0.isSome seatV_row (by omega)) rfl) rfl rfl rfl ?_
   refine W.rd (.vcell (j := k) (o := 0) (v := .int .i64 ((l.getD k noSeat).ch)) na3 rfl (hS0.le Ll0) seatV_row (getS l noSeat (by first | omega | (simp only [List.length_cons, List.length_nil]; omega))) rfl) rfl rfl rfl ?_
   refine W.any (.move rfl) rfl rfl rfl ?_
   refine W.any (.eql rfl rfl) rfl rfl rfl ?_
   refine W.nil (E.thenN ?_)
   by_cases c1 : ((l.getD k noSeat).ch) = ch
   ·refine WC.condY rfl (decide_eq_true c1) ?_
    refine WC.seq (WC.region ?_)
    refine W.any (.move rfl) rfl rfl rfl ?_
    refine W.any (.assign rfl) rfl rfl rfl ?_
    refine W.nil (E.thenN (WC.ret (E.blkR (E.thenR (E.thenR (E.blkR (E.thenR ?_)))))))
    refine E.retG1 rfl rfl ?_
    exact ⟨_, rfl, .inr ⟨k, rfl, by omega, by assumption⟩, Ll0⟩
   ·refine WC.condN rfl (decide_eq_false c1) ?_
    refine WC.skip (E.blkN (E.thenN (WC.region ?_)))
    refine W.any (.move rfl) rfl rfl rfl ?_
    refine W.any (.add rfl rfl (by omega)) rfl rfl rfl ?_
    refine W.any (.assign rfl) rfl rfl rfl ?_
    refine W.nil ?_
    refine E.again (k + 1) (.cons rfl (.cons rfl (.cons rfl (.nil _)))) ?_ ?_
    ·exact ⟨by omega, (fun j hj => by rcases Nat.lt_or_ge j k with h | h; exact hz j h; rw [show j = k by omega]; assumption), Ll0, by have := zl0; omega⟩
    ·first | omega | (simp only []; omega)
  ·refine WC.condN rfl (decide_eq_false c0) ?_
   refine WC.exit (E.thenX (E.thenX (E.blkH (E.thenN (WC.seq (WC.region ?_))))))
   refine W.any (.assign rfl) rfl rfl rfl ?_
   refine W.nil (E.thenN (WC.ret ?_))
   refine E.retG1 rfl rfl ?_
   exact ⟨_, rfl, .inl ⟨rfl, fun j hj => hz j (by omega)⟩, Ll0⟩

theorem rcopy_ok {gp cm cl ch_ : Nat} {Am Al Ah : Option Addr} {m : RLed} (w : World) (hL : RLL w gp Am cm Al cl Ah ch_ m) (hf : SmallR m) : Calls Tryz.prog 67 #[.pointer (some ⟨gp, 0, none⟩)] w fun r w' => ∃ gp' Am' cm' Al' cl' Ah' ch', r = .returned (.pointer (some ⟨gp', 0, none⟩)) ∧ w.heap.size ≤ gp' ∧ Blk w' gp' 71 #[.slice Am' m.mine.length cm', .slice Al' m.l.length cl', .slice Ah' m.hs.length ch', .int .i64 m.gone] ∧ OVec w' w.heap.size 3 iv 1 Am' m.mine.length cm' m.mine ∧ OVec w' w.heap.size 73 seatV 5 Al' m.l.length cl' m.l ∧ OVec w' w.heap.size 103 rholdV 5 Ah' m.hs.length ch' m.hs ∧ (rowOf Am' cm' ≠ some gp' ∧ rowOf Al' cl' ≠ some gp' ∧ rowOf Ah' ch' ≠ some gp') ∧ (Apart Am' cm' Al' cl' ∧ Apart Am' cm' Ah' ch' ∧ Apart Al' cl' Ah' ch') ∧ Le w w' := by
 have hfl := hf.few
 refine enter Tryz.func67 rfl rfl ?_
 have L0 := Le.refl w
 refine WC.seq (WC.region ?_)
 refine W.any (.assign rfl) rfl rfl rfl ?_
 refine W.nil (E.thenN (WC.seq ?_))
 refine WC.drawN [1, 2, 3, 4, 7, 8, 9, 10, 13, 14, 15, 16, 18, 19, 20, 21] [0, 5, 6, 11, 12] [17, 22, 23, 24] (fun i => bif Nat.beq i 5 then [0] else bif Nat.beq i 11 then [6] else []) mixed (by kernel_rfl) ?_
 intro w1 d1
 have L1 := L0.trans d1
 refine G.any rfl rfl (.move rfl) rfl rfl rfl ?_
 refine G.any rfl rfl (.nilCheck rfl) rfl rfl rfl ?_
 refine G.any rfl rfl (.field0 fa71_0 rfl) rfl rfl rfl ?_
 refine G.rd rfl rfl (.loadB (v := .slice Am m.mine.length cm) na22 rfl (hL.hp.le L1) rfl) rfl rfl rfl ?_
 refine G.any rfl rfl (.move rfl) rfl rfl rfl ?_
 refine G.any rfl rfl (.nilCheck rfl) rfl rfl rfl ?_
 refine G.any rfl rfl (.field0 fa71_1 rfl) rfl rfl rfl ?_
 refine G.rd rfl rfl (.loadB (v := .slice Al m.l.length cl) na68 rfl (hL.hp.le L1) rfl) rfl rfl rfl ?_
 refine G.any rfl rfl (.move rfl) rfl rfl rfl ?_
 refine G.any rfl rfl (.nilCheck rfl) rfl rfl rfl ?_
 refine G.any rfl rfl (.field0 fa71_2 rfl) rfl rfl rfl ?_
 refine G.rd rfl rfl (.loadB (v := .slice Ah m.hs.length ch_) na69 rfl (hL.hp.le L1) rfl) rfl rfl rfl ?_
 refine G.any rfl rfl (.move rfl) rfl rfl rfl ?_
 refine G.any rfl rfl (.nilCheck rfl) rfl rfl rfl ?_
 refine G.any rfl rfl (.field0 fa71_3 rfl) rfl rfl rfl ?_
 refine G.rd rfl rfl (.loadB (v := .int .i64 (m.gone)) na3 rfl (hL.hp.le L1) rfl) rfl rfl rfl ?_
 refine G.nil ?_
 refine E.free ⟨by rfl, fun i => (bif Nat.beq i 0 then (fun v w' => ∃ g, v = .slice (some ⟨g, 0, none⟩) 0 0) else (bif Nat.beq i 5 then (fun v w' => ∃ A c, v = .slice A (0 + m.mine.length) c ∧ OVec w' w1.heap.size 3 iv 1 A (0 + m.mine.length) c ([] ++ m.mine)) else (bif Nat.beq i 6 then (fun v w' => ∃ g, v = .slice (some ⟨g, 0, none⟩) 0 0) else (bif Nat.beq i 11 then (fun v w' => ∃ A c, v = .slice A (0 + m.l.length) c ∧ OVec w' w1.heap.size 73 seatV 5 A (0 + m.l.length) c ([] ++ m.l)) else (bif Nat.beq i 12 then (fun v w' => ∃ g, v = .slice (some ⟨g, 0, none⟩) 0 0) else (fun _ _ => True)))))), ?_, ?_, ?_⟩
 ·intro i hi v w1 w2 hv hle
  simp only [List.mem_cons, List.not_mem_nil, or_false] at hi
  rcases hi with rfl | rfl | rfl | rfl | rfl
  ·exact hv
  ·obtain ⟨A, c, h1, h2⟩ := hv; exact ⟨A, c, h1, h2.le hle⟩
  ·exact hv
  ·obtain ⟨A, c, h1, h2⟩ := hv; exact ⟨A, c, h1, h2.le hle⟩
  ·exact hv
 ·intro i hi
  simp only [List.mem_cons, List.not_mem_nil, or_false] at hi
  rcases hi with rfl | rfl | rfl | rfl | rfl
  ·refine Step.of0 rfl rfl ?_; intro w1 hle; refine Ef.buildSlice0 Tryz.underlying22 el3 ?_; intro g w2 hg _ h2; exact ⟨h2, ⟨g, rfl⟩, fun k hk => by simp [feet, rowOf] at hk⟩
  ·refine Step.of1 (j := 0) rfl rfl rfl ?_; intro v w1 hle hv; obtain ⟨g, rfl⟩ := hv; refine Ef.vcat Tryz.underlying22 el3 Tryz.underlying22 iv_row rfl (OVec.nil w1 w1.heap.size 3 iv 1 _) rfl ((hL.hM.vec.le L1).le hle) (by omega) (by unfold maxLen; omega) (Nat.le_refl _) ?_; intro A c w2 ho hch hat; exact ⟨Ch.le_none hch, ⟨A, c, rfl, ho.mono hle.size⟩, fun k hk => ho.row hk⟩
  ·refine Step.of0 rfl rfl ?_; intro w1 hle; refine Ef.buildSlice0 Tryz.underlying68 el73 ?_; intro g w2 hg _ h2; exact ⟨h2, ⟨g, rfl⟩, fun k hk => by simp [feet, rowOf] at hk⟩
  ·refine Step.of1 (j := 6) rfl rfl rfl ?_; intro v w1 hle hv; obtain ⟨g, rfl⟩ := hv; refine Ef.vcat Tryz.underlying68 el73 Tryz.underlying68 seatV_row rfl (OVec.nil w1 w1.heap.size 73 seatV 5 _) rfl ((hL.hS.vec.le L1).le hle) (by omega) (by unfold maxLen; omega) (Nat.le_refl _) ?_; intro A c w2 ho hch hat; exact ⟨Ch.le_none hch, ⟨A, c, rfl, ho.mono hle.size⟩, fun k hk => ho.row hk⟩
  ·refine Step.of0 rfl rfl ?_; intro w1 hle; refine Ef.buildSlice0 Tryz.underlying69 el103 ?_; intro g w2 hg _ h2; exact ⟨h2, ⟨g, rfl⟩, fun k hk => by simp [feet, rowOf] at hk⟩
 ·intro f_1 W_1 h_1 hphi_1 hfeet_1 hap_1
  obtain ⟨g0_1, e0_1⟩ := hphi_1 0 (by decide)
  obtain ⟨A5_1, c5_1, e5_1, o5_1⟩ := hphi_1 5 (by decide)
  obtain ⟨g6_1, e6_1⟩ := hphi_1 6 (by decide)
  obtain ⟨A11_1, c11_1, e11_1, o11_1⟩ := hphi_1 11 (by decide)
  obtain ⟨g12_1, e12_1⟩ := hphi_1 12 (by decide)
  have ap5_11_1 := hap_1 5 (by decide) 11 (by decide) (by decide); rw [e5_1, e11_1] at ap5_11_1
  show G _ _ _ _ _ ((3, f_1 0) :: (8, f_1 5) :: (9, f_1 6) :: (14, f_1 11) :: (15, f_1 12) :: _) _
  rw [e0_1, e5_1, e6_1, e11_1, e12_1]
  have L2 := L1.trans h_1
  refine G.ef rfl rfl rfl rfl rfl ?_
  refine Ef.vcat Tryz.underlying69 el103 Tryz.underlying69 rholdV_row rfl (OVec.nil W_1 W_1.heap.size 103 rholdV 5 (some ⟨g12_1, 0, none⟩)) rfl (hL.hH.vec.le L2) (by omega) (by unfold maxLen; omega) (Nat.le_refl _) ?_
  intro A1_17 c1_17 w1_17 o1_17 h1_17 at1_17
  have h1_17 := Ch.le_none h1_17
  refine ⟨fun _ => h1_17, ?_⟩
  have L3 := L2.trans h1_17
  refine G.any rfl rfl (.buildP [.slice A5_1 (0 + m.mine.length) c5_1, .slice A11_1 (0 + m.l.length) c11_1, .slice A1_17 (0 + m.hs.length) c1_17, .int .i64 (m.gone)] pl71 z71 rfl rfl) rfl rfl rfl ?_
  refine G.ef rfl rfl rfl rfl rfl ?_
  refine Ef.boxA rfl ?_
  intro g1_23 w1_23 hg1_23 b1_23 h1_23
  refine ⟨fun _ => h1_23, ?_⟩
  have L4 := L3.trans h1_23
  have b1_23 : Blk w1_23 g1_23 71 #[.slice A5_1 (0 + m.mine.length) c5_1, .slice A11_1 (0 + m.l.length) c11_1, .slice A1_17 (0 + m.hs.length) c1_17, .int .i64 (m.gone)] := b1_23
  refine G.any rfl rfl (.assign rfl) rfl rfl rfl ?_
  refine G.nil (E.thenN (WC.ret ?_))
  have f5 := (o5_1.le (h1_17.trans h1_23))
  have f6 := (o11_1.le (h1_17.trans h1_23))
  have f7 := (o1_17.le h1_23)
  have hz0 : (0 + m.mine.length) = m.mine.length := by omega
  have hz1 : (0 + m.l.length) = m.l.length := by omega
  have hz2 : (0 + m.hs.length) = m.hs.length := by omega
  refine E.retG1 rfl rfl ?_
  exact ⟨_, _, _, _, _, _, _, rfl, Nat.le_trans L3.size hg1_23, (by have hq := b1_23; rw [hz0, hz1, hz2] at hq; exact hq), ((f5.mono L1.size).cast hz0 (by simp)), ((f6.mono L1.size).cast hz1 (by simp)), ((f7.mono L2.size).cast hz2 (by simp)), ⟨(fun he => by have := (o5_1.row he).2; have := h1_17.size; omega), (fun he => by have := (o11_1.row he).2; have := h1_17.size; omega), (fun he => by have := (o1_17.row he).2; omega)⟩, ⟨ap5_11_1, (fun q h1 h2 => by have := (o5_1.row h1).2; have := (f7.row h2).1; omega), (fun q h1 h2 => by have := (o11_1.row h1).2; have := (f7.row h2).1; omega)⟩, L4⟩

theorem rclose_ok {gp cm cl ch_ : Nat} {Am Al Ah : Option Addr} {m : RLed} {s : Led} (ch : Int) (fee : Pair) (w : World) (hL : RLL w gp Am cm Al cl Ah ch_ m) (hf : SmallR m) (hR : RelL s m) (hG : GoodL s) : Calls Tryz.prog 31 #[.pointer (some ⟨gp, 0, none⟩), .int .i64 (ch), .agg (pairV fee).toArray] w fun r w' => ChP w w' (fun k => k = gp ∨ rowOf Am cm = some k ∨ rowOf Al cl = some k ∨ rowOf Ah ch_ = some k) ∧ ∃ Am' cm' Al' cl' Ah' ch' m', r = .returned (.int .i64 (closeL s ch fee).2) ∧ RLL w' gp Am' cm' Al' cl' Ah' ch' m' ∧ RelL (closeL s ch fee).1 m' ∧ ∀ g, RLF gp Am' cm' Al' cl' Ah' ch' g → RLF gp Am cm Al cl Ah ch_ g ∨ w.heap.size ≤ g := by
 have hp0 := hL.hp; have hM0 := hL.hM; have hS0 := hL.hS; have hH0 := hL.hH
 have hfl := hf.few
 have e1 := hR.mine; have e2 := hR.gone
 have hgl := hG.len; have e3l : m.mine.length = s.own.length := by rw [e1]
 refine enter Tryz.func31 rfl rfl ?_
 have L0 := ChP.refl w (fun k => k = gp ∨ rowOf Am cm = some k ∨ rowOf Al cl = some k ∨ rowOf Ah ch_ = some k)
 refine WC.seq (WC.region ?_)
 refine W.ef rfl rfl rfl ?_
 refine Ef.boxA rfl ?_
 intro g0_0 w0_0 hg0_0 b0_0 h0_0
 have L1 := L0.le h0_0
 have b0_0 : Blk w0_0 g0_0 35 (pairV fee).toArray := b0_0
 refine W.any (.assign rfl) rfl rfl rfl ?_
 refine W.nil (E.thenN (WC.seq (WC.seq (WC.region ?_))))
 refine W.any (.idxAo (0) Tryz.underlying35 sz3 rfl rfl (rfl) (by omega)) rfl rfl rfl ?_
 refine W.rd (.loadB (v := .int .i64 (fee.a)) na3 rfl b0_0 rfl) rfl rfl rfl ?_
 refine W.ef rfl rfl rfl ?_
 refine Ef.call go28 rfl rfl (rcoin_ok fee.a w0_0) ?_
 rintro _ w1_2 ⟨rfl, h1_2⟩
 refine ⟨_, rfl, ?_⟩
 have L2 := L1.le h1_2
 refine W.any (.not rfl) rfl rfl rfl ?_
 by_cases q1_4 : (coinL fee.a) = true
 ·refine W.any (.dec (.move rfl) (congrArg not (q1_4))) rfl rfl rfl ?_
  refine W.rdg (Any.rd (.idxAo (1) Tryz.underlying35 sz3 rfl rfl (rfl) (by omega)) _) rfl rfl rfl (rfl) rfl rfl ?_
  have f3 := (b0_0.le h1_2)
  refine W.rdg (.loadB (v := .int .i64 (fee.b)) na3 rfl f3 rfl) rfl rfl rfl (rfl) rfl rfl ?_
  refine W.efg rfl rfl rfl (rfl) rfl rfl ?_
  refine Ef.call go28 rfl rfl (rcoin_ok fee.b w1_2) ?_
  rintro _ w1_7 ⟨rfl, h1_7⟩
  refine ⟨_, rfl, ?_⟩
  have L4 := L2.le h1_7
  refine W.rdg (Any.rd (.not rfl) _) rfl rfl rfl (rfl) rfl rfl ?_
  refine W.any (.pickF rfl rfl rfl) rfl rfl rfl ?_
  refine W.nil (E.thenN ?_)
  by_cases c0 : (coinL fee.b) = true
  ·refine WC.condN rfl (congrArg not (c0)) ?_
   have hco : ((0 ≤ fee.a ∧ fee.a ≤ 1125899906842624) ∧ 0 ≤ fee.b ∧ fee.b ≤ 1125899906842624) := by have q1 : coinL fee.a = true := (by simp_all); have q2 : coinL fee.b = true := (by simp_all); simp only [coinL, decide_eq_true_eq] at q1 q2; exact ⟨q1, q2⟩
   refine WC.skip (E.thenN (WC.seq (WC.region ?_)))
   refine W.any (.move rfl) rfl rfl rfl ?_
   refine W.any (.move rfl) rfl rfl rfl ?_
   have f5 := (hS0.le (h0_0.trans (h1_2.trans h1_7)))
   have f6 := (hp0.le (h0_0.trans (h1_2.trans h1_7)))
   refine W.ef rfl rfl rfl ?_
   refine Ef.call go59 rfl rfl (rat3_ok ch w1_7 f6 f5.vec (by omega)) ?_
   rintro _ w3_2 ⟨v3_2, rfl, hat3_2, h3_2⟩
   refine ⟨_, rfl, ?_⟩
   have L7 := L4.le h3_2
   refine W.any (.assign rfl) rfl rfl rfl ?_
   refine W.nil (E.thenN (WC.seq (WC.seq (WC.region ?_))))
   refine W.any (.move rfl) rfl rfl rfl ?_
   refine W.any (.lss rfl rfl) rfl rfl rfl ?_
   refine W.nil (E.thenN ?_)
   by_cases c1 : v3_2 < 0
   ·refine WC.condY rfl (decide_eq_true c1) ?_
    refine WC.seq (WC.region ?_)
    refine W.any (.assign rfl) rfl rfl rfl ?_
    refine W.nil (E.thenN (WC.ret (E.thenR ?_)))
    have f8 := (f6.le h3_2)
    have f9 := (hM0.le (h0_0.trans (h1_2.trans (h1_7.trans h3_2))))
    have f10 := (f5.le h3_2)
    have f11 := (hH0.le (h0_0.trans (h1_2.trans (h1_7.trans h3_2))))
    refine E.retG1 rfl rfl ?_
    have hno : getG ch s.ls = none := by rcases hat3_2 with ⟨_, z⟩ | ⟨q, z, z1, z2⟩; exact hR.at_none z; omega
    have ho : (closeL s ch fee) = (s, 5) := by unfold closeL; rw [if_neg (not_not_intro hco), hno]
    rw [ho]; exact ⟨L7, _, _, _, _, _, _, m, rfl, ⟨f8, f9, f10, f11, hL.mp, hL.lp, hL.hpp, hL.ml, hL.mh, hL.lh⟩, hR, fun g hg => .inl hg⟩
   ·refine WC.condN rfl (decide_eq_false c1) ?_
    obtain ⟨q, hq0, hq1, hq2⟩ : ∃ q : Nat, v3_2 = (q : Int) ∧ q < m.l.length ∧ (m.l.getD q noSeat).ch = ch := by rcases hat3_2 with ⟨z, _⟩ | z; omega; exact z
    have hgs : getG ch s.ls = some (m.l.getD q noSeat) := by have h := hR.at_some hG hq1; rwa [hq2] at h
    have hso := hf.seats q hq1
    refine WC.skip (E.thenN (WC.seq (WC.region ?_)))
    refine W.any (.move rfl) rfl rfl rfl ?_
    refine W.any (.nilCheck rfl) rfl rfl rfl ?_
    refine W.any (.field0 fa71_1 rfl) rfl rfl rfl ?_
    have f12 := (f6.le h3_2)
    refine W.rd (.loadB (v := .slice Al m.l.length cl) na68 rfl f12 rfl) rfl rfl rfl ?_
    refine W.any (.move rfl) rfl rfl rfl ?_
    refine W.any (.idxS (q) Tryz.underlying68 sz73 rfl rfl (hS0.vec.isSome seatV_row (by omega)) (by omega) (by omega)) rfl rfl rfl ?_
    have f13 := (f5.le h3_2)
    refine W.rd (.vload ag73 rfl f13.vec seatV_row (getS m.l noSeat (by first | omega | (simp only [List.length_cons, List.length_nil]; omega)))) rfl rfl rfl ?_
    refine W.ef rfl rfl rfl ?_
    refine Ef.allocA z73 ?_
    intro g6_7 w6_7 hg6_7 b6_7 h6_7
    have L14 := L7.le h6_7
    have b6_7 : Blk w6_7 g6_7 73 (seatV noSeat).toArray := b6_7
    refine W.ef0 rfl rfl ?_
    refine Ef.storeAll sz73 (by rfl) rfl rfl b6_7 (by simp only [List.size_toArray, seatV_row.len]) (seatV_row.one (m.l.getD q noSeat)) ?_
    intro w6_8 b6_8 h6_8
    have b6_8 : Blk w6_8 g6_7 73 (seatV (m.l.getD q noSeat)).toArray := b6_8
    have L15 : ChP w w6_8 (fun k => k = gp ∨ rowOf Am cm = some k ∨ rowOf Al cl = some k ∨ rowOf Ah ch_ = some k) := L14.ch h6_8 (fun i hi hlt => by cases hi; exact absurd hlt (by have := L7.size; have := hg6_7; omega))
    refine W.nil (E.thenN (WC.seq (WC.seq (WC.region ?_))))
    refine W.any (.move rfl) rfl rfl rfl ?_
    refine W.any (.move rfl) rfl rfl rfl ?_
    have f16 := ((f12.le h6_7).ch h6_8 (fun h => (show g6_7 ≠ gp from by have := f12.lt; omega) (Option.some.inj h)))
    have f17 := ((hM0.le (h0_0.trans (h1_2.trans (h1_7.trans (h3_2.trans h6_7))))).ch h6_8 (fun q hq => by cases hq; exact (fun he => by have := (hM0.row he).2; have := h0_0.size; have := h1_2.size; have := h1_7.size; have := h3_2.size; omega)))
    have f18 := ((f13.le h6_7).ch h6_8 (fun q hq => by cases hq; exact (fun he => by have := (f13.row he).2; omega)))
    have f19 := ((hH0.le (h0_0.trans (h1_2.trans (h1_7.trans (h3_2.trans h6_7))))).ch h6_8 (fun q hq => by cases hq; exact (fun he => by have := (hH0.row he).2; have := h0_0.size; have := h1_2.size; have := h1_7.size; have := h3_2.size; omega)))
    refine W.ef rfl rfl rfl ?_
    refine Ef.call go61 rfl rfl (rfree_ok ch w6_8 ⟨f16, f17, f18, f19, hL.mp, hL.lp, hL.hpp, hL.ml, hL.mh, hL.lh⟩ hf) ?_
    rintro _ w7_2 ⟨rfl, h7_2⟩
    refine ⟨_, rfl, ?_⟩
    have L20 := L15.le h7_2
    refine W.any (.not rfl) rfl rfl rfl ?_
    refine W.nil (E.thenN ?_)
    by_cases c2 : heldR m.hs ch 0 = 0 ∧ heldR m.hs ch 1 = 0
    ·refine WC.condN rfl (congrArg not (decide_eq_true c2)) ?_
     have hhe : heldL s.lh ch 0 + heldL s.lh ch 1 = 0 := by have h3 := c2; rw [hR.held, hR.held] at h3; omega
     refine WC.skip (E.thenN (WC.seq (WC.seq (WC.region ?_))))
     refine W.any (.field0 fa73_2 rfl) rfl rfl rfl ?_
     refine W.any (.idxAo (0) Tryz.underlying35 sz3 rfl rfl (rfl) (by omega)) rfl rfl rfl ?_
     have f21 := (b6_8.le h7_2)
     refine W.rd (.loadB (v := .int .i64 ((m.l.getD q noSeat).h0)) na3 rfl f21 rfl) rfl rfl rfl ?_
     refine W.any (.idxAo (0) Tryz.underlying35 sz3 rfl rfl (rfl) (by omega)) rfl rfl rfl ?_
     have f22 := (((f3.le (h1_7.trans (h3_2.trans h6_7))).ch h6_8 (fun h => (show g6_7 ≠ g0_0 from by have := f3.lt; have := h1_7.size; have := h3_2.size; omega) (Option.some.inj h))).le h7_2)
     refine W.rd (.loadB (v := .int .i64 (fee.a)) na3 rfl f22 rfl) rfl rfl rfl ?_
     refine W.any (.lss rfl rfl) rfl rfl rfl ?_
     by_cases q9_6 : ((m.l.getD q noSeat).h0) < fee.a
     ·refine W.any (.dec (.move rfl) (decide_eq_true q9_6)) rfl rfl rfl ?_
      refine W.skip rfl rfl rfl (rfl) rfl rfl ?_
      refine W.skip rfl rfl rfl (rfl) rfl rfl ?_
      refine W.skip rfl rfl rfl (rfl) rfl rfl ?_
      refine W.skip rfl rfl rfl (rfl) rfl rfl ?_
      refine W.skip rfl rfl rfl (rfl) rfl rfl ?_
      refine W.skip rfl rfl rfl (rfl) rfl rfl ?_
      refine W.any (.pickT rfl rfl rfl) rfl rfl rfl ?_
      refine W.nil (E.thenN ?_)
      refine WC.condT rfl ?_
      refine WC.seq (WC.region ?_)
      refine W.any (.assign rfl) rfl rfl rfl ?_
      refine W.nil (E.thenN (WC.ret (E.thenR ?_)))
      have f23 := (f16.le h7_2)
      have f24 := (f17.le h7_2)
      have f25 := (f18.le h7_2)
      have f26 := (f19.le h7_2)
      refine E.retG1 rfl rfl ?_
      have hfu : (m.l.getD q noSeat).h0 < fee.a ∨ (m.l.getD q noSeat).h1 < fee.b := by first | (left; assumption) | (right; assumption)
      have ho : (closeL s ch fee) = (s, 8) := by unfold closeL; rw [if_neg (not_not_intro hco), hgs]; exact (if_neg (not_not_intro hhe)).trans (if_pos hfu)
      rw [ho]; exact ⟨L20, _, _, _, _, _, _, m, rfl, ⟨f23, f24, f25, f26, hL.mp, hL.lp, hL.hpp, hL.ml, hL.mh, hL.lh⟩, hR, fun g hg => .inl hg⟩
     ·refine W.any (.dec (.move rfl) (decide_eq_false q9_6)) rfl rfl rfl ?_
      refine W.rdg (Any.rd (.field0 fa73_2 rfl) _) rfl rfl rfl (rfl) rfl rfl ?_
      refine W.rdg (Any.rd (.idxAo (1) Tryz.underlying35 sz3 rfl rfl (rfl) (by omega)) _) rfl rfl rfl (rfl) rfl rfl ?_
      refine W.rdg (.loadB (v := .int .i64 ((m.l.getD q noSeat).h1)) na3 rfl f21 rfl) rfl rfl rfl (rfl) rfl rfl ?_
      refine W.rdg (Any.rd (.idxAo (1) Tryz.underlying35 sz3 rfl rfl (rfl) (by omega)) _) rfl rfl rfl (rfl) rfl rfl ?_
      refine W.rdg (.loadB (v := .int .i64 (fee.b)) na3 rfl f22 rfl) rfl rfl rfl (rfl) rfl rfl ?_
      refine W.rdg (Any.rd (.lss rfl rfl) _) rfl rfl rfl (rfl) rfl rfl ?_
      refine W.any (.pickF rfl rfl rfl) rfl rfl rfl ?_
      refine W.nil (E.thenN ?_)
      by_cases c3 : ((m.l.getD q noSeat).h1) < fee.b
      ·refine WC.condY rfl (decide_eq_true c3) ?_
       refine WC.seq (WC.region ?_)
       refine W.any (.assign rfl) rfl rfl rfl ?_
       refine W.nil (E.thenN (WC.ret (E.thenR ?_)))
       have f27 := (f16.le h7_2)
       have f28 := (f17.le h7_2)
       have f29 := (f18.le h7_2)
       have f30 := (f19.le h7_2)
       refine E.retG1 rfl rfl ?_
       have hfu : (m.l.getD q noSeat).h0 < fee.a ∨ (m.l.getD q noSeat).h1 < fee.b := by first | (left; assumption) | (right; assumption)
       have ho : (closeL s ch fee) = (s, 8) := by unfold closeL; rw [if_neg (not_not_intro hco), hgs]; exact (if_neg (not_not_intro hhe)).trans (if_pos hfu)
       rw [ho]; exact ⟨L20, _, _, _, _, _, _, m, rfl, ⟨f27, f28, f29, f30, hL.mp, hL.lp, hL.hpp, hL.ml, hL.mh, hL.lh⟩, hR, fun g hg => .inl hg⟩
      ·refine WC.condN rfl (decide_eq_false c3) ?_
       refine WC.skip (E.thenN (WC.seq (WC.seq (WC.region ?_))))
       refine W.any (.assign rfl) rfl rfl rfl ?_
       refine W.nil (E.thenN (WC.block ?_))
       have f31 := (f16.le h7_2)
       have f32 := (f17.le h7_2)
       have f33 := (f18.le h7_2)
       have f34 := (f19.le h7_2)
       refine WC.loop (ι := Nat) (fun k => [(0, .pointer (some ⟨gp, 0, none⟩)), (5, .pointer (some ⟨g0_0, 0, none⟩)), (7, .int .i64 (v3_2)), (8, .pointer (some ⟨g6_7, 0, none⟩)), (9, .int .i64 (((k : Nat) : Int)))]) (fun k wl0 => (k ≤ 2) ∧ ChP w wl0 (fun k => k = gp ∨ rowOf Am cm = some k ∨ rowOf Al cl = some k ∨ rowOf Ah ch_ = some k) ∧ w7_2.heap.size ≤ wl0.heap.size ∧ Blk wl0 gp 71 #[.slice Am m.mine.length cm, .slice Al m.l.length cl, .slice Ah m.hs.length ch_, .int .i64 ((backF m.gone fee k))] ∧ OVec wl0 0 3 iv 1 Am m.mine.length cm (backO m.mine (m.l.getD q noSeat) fee k) ∧ OVec wl0 0 73 seatV 5 Al m.l.length cl m.l ∧ OVec wl0 0 103 rholdV 5 Ah m.hs.length ch_ m.hs ∧ Blk wl0 g0_0 35 (pairV fee).toArray ∧ Blk wl0 g6_7 73 (seatV (m.l.getD q noSeat)).toArray) (fun k => 2 - k) 0 ?_ ?_ ?_
       ·exact .cons rfl (.cons rfl (.cons rfl (.cons rfl (.cons rfl (.nil _)))))
       ·exact ⟨Nat.zero_le _, L20, Nat.le_refl _, f31, f32, f33, f34, f22, f21⟩
       ·rintro k wl0 ⟨hk, Ll0, zl0, f0_0, f0_1, f0_2, f0_3, f0_4, f0_5⟩
        have hlo := hG.lostB
        have hfl2 := backF_le (lost := m.gone) (fee := fee) hk (by omega) hco.1 hco.2
        refine WC.seq (WC.seq (WC.region ?_))
        refine W.any (.move rfl) rfl rfl rfl ?_
        refine W.any (.lss rfl rfl) rfl rfl rfl ?_
        refine W.nil (E.thenN ?_)
        by_cases c4 : ((k : Nat) : Int) < 2
        ·refine WC.condY rfl (decide_eq_true c4) ?_
         refine WC.skip (E.thenN (WC.seq (WC.block (WC.seq ?_))))
         refine WC.draw [0, 1, 2, 3, 4, 5, 6, 7, 8, 9, 10, 11, 12, 13, 14, 15, 16, 17, 18, 19, 20, 21, 22, 23, 24, 25, 26, 27, 28] mixed (by kernel_rfl) ?_
         intro w14 d14
         have L35 := Ll0.le d14
         refine G.any rfl rfl (.move rfl) rfl rfl rfl ?_
         refine G.any rfl rfl (.nilCheck rfl) rfl rfl rfl ?_
         refine G.any rfl rfl (.field0 fa71_0 rfl) rfl rfl rfl ?_
         have f36 := (f0_0.le d14)
         refine G.rd rfl rfl (.loadB (v := .slice Am m.mine.length cm) na22 rfl f36 rfl) rfl rfl rfl ?_
         refine G.any rfl rfl (.move rfl) rfl rfl rfl ?_
         refine G.any rfl rfl (.field0 fa73_1 rfl) rfl rfl rfl ?_
         refine G.any rfl rfl (.idxAo (k) Tryz.underlying35 sz3 rfl rfl (rfl) (by omega)) rfl rfl rfl ?_
         have f37 := (f0_5.le d14)
         refine G.rd rfl rfl (.loadB (v := .int .i64 (((m.l.getD q noSeat).p k))) na3 rfl f37 (seatP_at (m.l.getD q noSeat) (by omega))) rfl rfl rfl ?_
         refine G.any rfl rfl (.move rfl) rfl rfl rfl ?_
         refine G.any rfl rfl (.nilCheck rfl) rfl rfl rfl ?_
         refine G.any rfl rfl (.field0 fa71_0 rfl) rfl rfl rfl ?_
         refine G.rd rfl rfl (.loadB (v := .slice Am m.mine.length cm) na22 rfl f36 rfl) rfl rfl rfl ?_
         refine G.any rfl rfl (.move rfl) rfl rfl rfl ?_
         refine G.any rfl rfl (.field0 fa73_1 rfl) rfl rfl rfl ?_
         refine G.any rfl rfl (.idxAo (k) Tryz.underlying35 sz3 rfl rfl (rfl) (by omega)) rfl rfl rfl ?_
         refine G.rd rfl rfl (.loadB (v := .int .i64 (((m.l.getD q noSeat).p k))) na3 rfl f37 (seatP_at (m.l.getD q noSeat) (by omega))) rfl rfl rfl ?_
         refine G.any rfl rfl (.idxS (((m.l.getD q noSeat).p k).toNat) Tryz.underlying22 sz3 rfl rfl (hM0.vec.isSome iv_row (by omega)) (by have := (seatOk_at hso (k := k) (by omega)).1; omega) (by first | (rw [backO_len]; have := (seatOk_at hso (k := k) (by omega)).1; omega) | (have := (seatOk_at hso (k := k) (by omega)).1; omega))) rfl rfl rfl ?_
         have f38 := (f0_1.le d14)
         refine G.rd rfl rfl (.vone (v := .int .i64 (((backO m.mine (m.l.getD q noSeat) fee k).getD (((m.l.getD q noSeat).p k).toNat) 0))) na3 rfl f38.vec iv_row (getS (backO m.mine (m.l.getD q noSeat) fee k) 0 (by first | (rw [backO_len]; have := (seatOk_at hso (k := k) (by omega)).1; omega) | (have := (seatOk_at hso (k := k) (by omega)).1; omega))) rfl) rfl rfl rfl ?_
         refine G.any rfl rfl (.move rfl) rfl rfl rfl ?_
         refine G.any rfl rfl (.field0 fa73_2 rfl) rfl rfl rfl ?_
         refine G.any rfl rfl (.idxAo (k) Tryz.underlying35 sz3 rfl rfl (rfl) (by omega)) rfl rfl rfl ?_
         refine G.rd rfl rfl (.loadB (v := .int .i64 (((m.l.getD q noSeat).h k))) na3 rfl f37 (seatH_at (m.l.getD q noSeat) (by omega))) rfl rfl rfl ?_
         refine G.any rfl rfl (.add rfl rfl (by rw [backO_at (by omega) hso.1.1 hso.2.1.1 hso.2.2.1]; have := hf.mine ((m.l.getD q noSeat).p k).toNat; have := (seatOk_at hso (k := k) (by omega)).2; have := (show 0 ≤ fee.ix k ∧ fee.ix k ≤ 1125899906842624 by unfold Pair.ix; split; exact hco.1; exact hco.2); omega)) rfl rfl rfl ?_
         refine G.any rfl rfl (.move rfl) rfl rfl rfl ?_
         refine G.any rfl rfl (.idxAo (k) Tryz.underlying35 sz3 rfl rfl (rfl) (by omega)) rfl rfl rfl ?_
         have f39 := (f0_4.le d14)
         refine G.rd rfl rfl (.loadB (v := .int .i64 ((fee.ix k))) na3 rfl f39 (pair_at fee (by omega))) rfl rfl rfl ?_
         refine G.any rfl rfl (.sub rfl rfl (by rw [backO_at (by omega) hso.1.1 hso.2.1.1 hso.2.2.1]; have := hf.mine ((m.l.getD q noSeat).p k).toNat; have := (seatOk_at hso (k := k) (by omega)).2; have := (show 0 ≤ fee.ix k ∧ fee.ix k ≤ 1125899906842624 by unfold Pair.ix; split; exact hco.1; exact hco.2); omega)) rfl rfl rfl ?_
         refine G.any rfl rfl (.idxS (((m.l.getD q noSeat).p k).toNat) Tryz.underlying22 sz3 rfl rfl (hM0.vec.isSome iv_row (by omega)) (by have := (seatOk_at hso (k := k) (by omega)).1; omega) (by first | (rw [backO_len]; have := (seatOk_at hso (k := k) (by omega)).1; omega) | (have := (seatOk_at hso (k := k) (by omega)).1; omega))) rfl rfl rfl ?_
         refine G.ef0 rfl rfl rfl rfl ?_
         refine Ef.vset (j := ((m.l.getD q noSeat).p k).toNat) (o := 0) ((((backO m.mine (m.l.getD q noSeat) fee k).getD (((m.l.getD q noSeat).p k).toNat) 0) + ((m.l.getD q noSeat).h k)) - (fee.ix k)) sz3 rfl (by omega) rfl f38 iv_row (getS (backO m.mine (m.l.getD q noSeat) fee k) 0 (by first | (rw [backO_len]; have := (seatOk_at hso (k := k) (by omega)).1; omega) | (have := (seatOk_at hso (k := k) (by omega)).1; omega))) (by decide) rfl rfl ?_
         intro w14_28 o14_28 h14_28
         refine ⟨fun h => absurd h (ne_true_of_eq_false (by kernel_rfl)), ?_⟩
         have L40 : ChP w w14_28 (fun k => k = gp ∨ rowOf Am cm = some k ∨ rowOf Al cl = some k ∨ rowOf Ah ch_ = some k) := L35.ch h14_28 (fun i hi _ => (fun i hi => Or.inr (Or.inl hi)) i hi)
         have o41 := o14_28.cast (m' := m.mine.length) (ys := (backO m.mine (m.l.getD q noSeat) fee (k + 1))) (rfl) (giveO_set (j := k) rfl (by omega))
         refine G.nil (E.thenN ?_)
         refine WC.draw [0, 1, 2, 3, 4, 5, 6, 7, 8, 9, 10, 11] mixed (by kernel_rfl) ?_
         intro w15 d15
         have L42 := L40.le d15
         refine G.any rfl rfl (.move rfl) rfl rfl rfl ?_
         refine G.any rfl rfl (.move rfl) rfl rfl rfl ?_
         refine G.any rfl rfl (.nilCheck rfl) rfl rfl rfl ?_
         refine G.any rfl rfl (.field0 fa71_3 rfl) rfl rfl rfl ?_
         have f43 := ((f36.ch h14_28 hL.mp).le d15)
         refine G.rd rfl rfl (.loadB (v := .int .i64 ((backF m.gone fee k))) na3 rfl f43 rfl) rfl rfl rfl ?_
         refine G.any rfl rfl (.move rfl) rfl rfl rfl ?_
         refine G.any rfl rfl (.idxAo (k) Tryz.underlying35 sz3 rfl rfl (rfl) (by omega)) rfl rfl rfl ?_
         have f44 := ((f39.ch h14_28 (fun he => by have := (hM0.row he).2; omega)).le d15)
         refine G.rd rfl rfl (.loadB (v := .int .i64 ((fee.ix k))) na3 rfl f44 (pair_at fee (by omega))) rfl rfl rfl ?_
         refine G.any rfl rfl (.add rfl rfl (by have := (show 0 ≤ fee.ix k ∧ fee.ix k ≤ 1125899906842624 by unfold Pair.ix; split; exact hco.1; exact hco.2); omega)) rfl rfl rfl ?_
         refine G.any rfl rfl (.nilCheck rfl) rfl rfl rfl ?_
         refine G.any rfl rfl (.field0 fa71_3 rfl) rfl rfl rfl ?_
         refine G.ef0 rfl rfl rfl rfl ?_
         refine Ef.store sz3 rfl rfl f43 (by first | decide | (simp; done)) (rfl) ?_
         intro w15_11 b15_11 h15_11
         refine ⟨fun h => absurd h (ne_true_of_eq_false (by kernel_rfl)), ?_⟩
         have b15_11 : Blk w15_11 gp 71 #[.slice Am m.mine.length cm, .slice Al m.l.length cl, .slice Ah m.hs.length ch_, .int .i64 (((backF m.gone fee k) + (fee.ix k)))] := b15_11
         have L45 : ChP w w15_11 (fun k => k = gp ∨ rowOf Am cm = some k ∨ rowOf Al cl = some k ∨ rowOf Ah ch_ = some k) := L42.ch h15_11 (fun i hi _ => by cases hi; exact Or.inl rfl)
         refine G.nil (E.blkN (E.thenN (WC.region ?_)))
         refine W.any (.move rfl) rfl rfl rfl ?_
         refine W.any (.add rfl rfl (by omega)) rfl rfl rfl ?_
         refine W.any (.assign rfl) rfl rfl rfl ?_
         refine W.nil ?_
         have f46 := ((o41.le d15).ch h15_11 (fun q hq => by cases hq; exact hL.mp))
         have f47 := ((((f0_2.le d14).ch h14_28 (hL.ml)).le d15).ch h15_11 (fun q hq => by cases hq; exact hL.lp))
         have f48 := ((((f0_3.le d14).ch h14_28 (hL.mh)).le d15).ch h15_11 (fun q hq => by cases hq; exact hL.hpp))
         have f49 := (f44.ch h15_11 (fun h => (show gp ≠ g0_0 from by have := hp0.lt; omega) (Option.some.inj h)))
         have f50 := (((f37.ch h14_28 (fun he => by have := (hM0.row he).2; have := h0_0.size; have := h1_2.size; have := h1_7.size; have := h3_2.size; omega)).le d15).ch h15_11 (fun h => (show gp ≠ g6_7 from by have := f12.lt; omega) (Option.some.inj h)))
         refine E.again (k + 1) (.cons rfl (.cons rfl (.cons rfl (.cons rfl (.cons rfl (.nil _)))))) ?_ ?_
         ·exact ⟨by omega, L45, by have := zl0; have := d14.size; have := h14_28.size; have := d15.size; have := h15_11.size; omega, b15_11, f46, f47, f48, f49, f50⟩
         ·first | omega | (simp only []; omega)
        ·refine WC.condN rfl (decide_eq_false c4) ?_
         refine WC.exit (E.thenX (E.thenX (E.blkH (E.thenN (WC.seq (WC.region ?_))))))
         refine W.any (.move rfl) rfl rfl rfl ?_
         refine W.any (.move rfl) rfl rfl rfl ?_
         refine W.ef rfl rfl rfl ?_
         refine Ef.call go62 rfl rfl ((by have h := rdrop_ok q wl0 f0_0 (f0_2.mono (Nat.zero_le _)) hL.lp (by omega) (by omega); rw [← hq0] at h; exact h)) ?_
         rintro _ w16_2 ⟨rfl, h16_2, A16_2, c16_2, bp16_2, o16_2⟩
         refine ⟨_, rfl, ?_⟩
         have L51 := Ll0.sub h16_2 (fun i hi hlt => (by subst hi; exact Or.inl rfl))
         refine W.nil (E.thenN (WC.seq (WC.region ?_)))
         refine W.any (.assign rfl) rfl rfl rfl ?_
         refine W.nil (E.thenN (WC.ret ?_))
         have hk2 : k = 2 := by omega
         subst hk2
         have hlm : (backO m.mine (m.l.getD q noSeat) fee 2).length = m.mine.length := by rw [backO_len]
         have f52 := (f0_1.chP h16_2 (fun q hqq hF => (by subst hF; exact hL.mp hqq)))
         have f53 := (f0_3.chP h16_2 (fun q hqq hF => (by subst hF; exact hL.hpp hqq)))
         refine E.retG1 rfl rfl ?_
         have ho : (closeL s ch fee) = (⟨backO s.own (m.l.getD q noSeat) fee 2, delM ch s.ls, s.cs, s.lh, s.ck, backF s.lost fee 2⟩, 0) := by unfold closeL; rw [if_neg (not_not_intro hco), hgs]; exact (if_neg (not_not_intro hhe)).trans (if_neg (by omega))
         rw [ho]; refine ⟨L51, _, _, _, _, _, _, ⟨(backO m.mine (m.l.getD q noSeat) fee 2), (m.l.take q ++ m.l.drop (q + 1)), m.hs, backF m.gone fee 2⟩, rfl, ⟨(by have hq := bp16_2; rw [← hlm] at hq; exact hq), (f52.cast hlm.symm rfl), (o16_2.mono (Nat.zero_le _)), f53, hL.mp, (fun he => by have := (o16_2.row he).1; have := f0_0.lt; omega), hL.hpp, (fun q h1 h2 => by have := (f0_1.row h1).2; have := (o16_2.row h2).1; omega), hL.mh, (Apart.symm (fun q h1 h2 => by have := (f0_3.row h1).2; have := (o16_2.row h2).1; omega))⟩, ⟨by rw [e1], by rw [e2], hR.seats.del (z := noSeat) hG.keys hq1 hq2, drop_srt hR.srt, hR.holds⟩, ?_⟩
         rintro g (q | q | q | q)
         ·exact .inl (.inl q)
         ·exact .inl (.inr (.inl q))
         ·exact .inr ((o16_2.mono Ll0.size).row q).1
         ·exact .inl (.inr (.inr (.inr q)))
    ·refine WC.condY rfl (congrArg not (decide_eq_false c2)) ?_
     refine WC.seq (WC.region ?_)
     refine W.any (.assign rfl) rfl rfl rfl ?_
     refine W.nil (E.thenN (WC.ret (E.thenR ?_)))
     have f54 := (f16.le h7_2)
     have f55 := (f17.le h7_2)
     have f56 := (f18.le h7_2)
     have f57 := (f19.le h7_2)
     refine E.retG1 rfl rfl ?_
     have hhe : ¬ heldL s.lh ch 0 + heldL s.lh ch 1 = 0 := by have h0 := (hG.heldB ch 0).1; have h1 := (hG.heldB ch 1).1; rw [hR.held, hR.held] at c2; omega
     have ho : (closeL s ch fee) = (s, 14) := by unfold closeL; rw [if_neg (not_not_intro hco), hgs]; exact if_pos hhe
     rw [ho]; exact ⟨L20, _, _, _, _, _, _, m, rfl, ⟨f54, f55, f56, f57, hL.mp, hL.lp, hL.hpp, hL.ml, hL.mh, hL.lh⟩, hR, fun g hg => .inl hg⟩
  ·refine WC.condY rfl (congrArg not ((Bool.eq_false_iff.2 c0))) ?_
   refine WC.seq (WC.region ?_)
   refine W.any (.assign rfl) rfl rfl rfl ?_
   refine W.nil (E.thenN (WC.ret (E.thenR ?_)))
   have f58 := (hp0.le (h0_0.trans (h1_2.trans h1_7)))
   have f59 := (hM0.le (h0_0.trans (h1_2.trans h1_7)))
   have f60 := (hS0.le (h0_0.trans (h1_2.trans h1_7)))
   have f61 := (hH0.le (h0_0.trans (h1_2.trans h1_7)))
   refine E.retG1 rfl rfl ?_
   have hbad : ¬ ((0 ≤ fee.a ∧ fee.a ≤ 1125899906842624) ∧ 0 ≤ fee.b ∧ fee.b ≤ 1125899906842624) := by rintro ⟨z1, z2⟩; have q1 : coinL fee.a = true := (by simp [coinL]; omega); have q2 : coinL fee.b = true := (by simp [coinL]; omega); simp_all
   have ho : (closeL s ch fee) = (s, 1) := by unfold closeL; rw [if_pos hbad]
   rw [ho]; exact ⟨L4, _, _, _, _, _, _, m, rfl, ⟨f58, f59, f60, f61, hL.mp, hL.lp, hL.hpp, hL.ml, hL.mh, hL.lh⟩, hR, fun g hg => .inl hg⟩
 ·refine W.any (.dec (.move rfl) (congrArg not ((Bool.eq_false_iff.2 q1_4)))) rfl rfl rfl ?_
  refine W.skip rfl rfl rfl (rfl) rfl rfl ?_
  refine W.skip rfl rfl rfl (rfl) rfl rfl ?_
  refine W.skip rfl rfl rfl (rfl) rfl rfl ?_
  refine W.skip rfl rfl rfl (rfl) rfl rfl ?_
  refine W.any (.pickT rfl rfl rfl) rfl rfl rfl ?_
  refine W.nil (E.thenN ?_)
  refine WC.condT rfl ?_
  refine WC.seq (WC.region ?_)
  refine W.any (.assign rfl) rfl rfl rfl ?_
  refine W.nil (E.thenN (WC.ret (E.thenR ?_)))
  have f62 := (hp0.le (h0_0.trans h1_2))
  have f63 := (hM0.le (h0_0.trans h1_2))
  have f64 := (hS0.le (h0_0.trans h1_2))
  have f65 := (hH0.le (h0_0.trans h1_2))
  refine E.retG1 rfl rfl ?_
  have hbad : ¬ ((0 ≤ fee.a ∧ fee.a ≤ 1125899906842624) ∧ 0 ≤ fee.b ∧ fee.b ≤ 1125899906842624) := by rintro ⟨z1, z2⟩; have q1 : coinL fee.a = true := (by simp [coinL]; omega); have q2 : coinL fee.b = true := (by simp [coinL]; omega); simp_all
  have ho : (closeL s ch fee) = (s, 1) := by unfold closeL; rw [if_pos hbad]
  rw [ho]; exact ⟨L2, _, _, _, _, _, _, m, rfl, ⟨f62, f63, f64, f65, hL.mp, hL.lp, hL.hpp, hL.ml, hL.mh, hL.lh⟩, hR, fun g hg => .inl hg⟩
end Go.Proofs.YtmgfgbplbemklaaGreat

