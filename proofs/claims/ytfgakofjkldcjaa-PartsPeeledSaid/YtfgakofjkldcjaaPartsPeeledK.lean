/- PartsPeeled: for every input the law answers true and leaves its arguments as they were. -/
import Derived.Test.YtfgakofjkldcjaaPartsPeeledJ
import Derived.OrdersHeld
import Derived.WalkKit
import Derived.Deep.AppendSrc
import Derived.Deep.MidRow
import Derived.Laws.OwnMore
import Derived.WalkSpells
import Derived.Lib.ConvBytes
import Derived.Lib.AppendZerosOnto
import Derived.Laws.StructEq
import Derived.Maps.RangeRun
import Derived.Laws.Pointers
import Derived.Test.YtfgakofjkldcjaaProg
import Derived.KernelRfl
import Derived.Lib.Mul64
namespace Go.Proofs.Ytfgakofjkldcjaa
open Go Go.Sx Go.Hsp Go.Num Go.Osp Go.Gsp
set_option maxRecDepth 20000
set_option linter.unusedVariables false
set_option linter.unusedSimpArgs false
def iv (x : Int) : List Value := [.int .i64 x]
theorem iv_row : RowF iv 1 := ⟨fun _ => rfl, fun x v hv => by simp [iv] at hv; subst hv; rfl, by decide⟩
def pv1 (x : Nat) : List Value := [pv x]
theorem pv1_row : RowF pv1 1 := ⟨fun _ => rfl, fun x v hv => by simp [pv1] at hv; subst hv; rfl, by decide⟩
theorem hopV_row : RowF hopV 6 := ⟨fun _ => rfl, hopV_one, by decide⟩
theorem coins_ok (a : Int) (w : World) : Calls Try.prog 129 #[.int .i64 (a)] w fun r w' => r = .returned (.bool (coinB a)) ∧ Le w w' := by
  refine enter Try.func129 rfl rfl ?_
  have L0 := Le.refl w
  refine WC.seq ?_
  refine WC.region ?_
  refine W.any (.assign rfl) rfl rfl rfl ?_
  refine W.nil ?_
  refine E.thenN ?_
  refine WC.seq ?_
  refine WC.region ?_
  refine W.any (.move rfl) rfl rfl rfl ?_
  refine W.any (.geq rfl rfl) rfl rfl rfl ?_
  by_cases q1_2 : 0 ≤ a
  · refine W.any (.dec (.move rfl) (decide_eq_true q1_2)) rfl rfl rfl ?_
    refine W.rdg (Any.rd (.move rfl) _) rfl rfl rfl (rfl) rfl rfl ?_
    refine W.rdg (Any.rd (.leq rfl rfl) _) rfl rfl rfl (rfl) rfl rfl ?_
    refine W.any (.pickT rfl rfl rfl) rfl rfl rfl ?_
    refine W.any (.assign rfl) rfl rfl rfl ?_
    refine W.nil ?_
    refine E.thenN ?_
    refine WC.ret ?_
    refine E.retG1 rfl rfl ?_
    exact ⟨congrArg (fun b => Ending.returned (Value.bool b)) (by simp [coinB, inB, q1_2]), L0⟩
  · refine W.any (.dec (.move rfl) (decide_eq_false q1_2)) rfl rfl rfl ?_
    refine W.skip rfl rfl rfl (rfl) rfl rfl ?_
    refine W.skip rfl rfl rfl (rfl) rfl rfl ?_
    refine W.any (.pickF rfl rfl rfl) rfl rfl rfl ?_
    refine W.any (.assign rfl) rfl rfl rfl ?_
    refine W.nil ?_
    refine E.thenN ?_
    refine WC.ret ?_
    refine E.retG1 rfl rfl ?_
    exact ⟨congrArg (fun b => Ending.returned (Value.bool b)) (by simp [coinB, inB, q1_2]), L0⟩

theorem nadd_ok (a b : Int) (w : World) : Calls Try.prog 75 #[.int .i64 (a), .int .i64 (b)] w fun r w' => r = .returned (.tuple #[.int .i64 (addC a b).1, .bool (addC a b).2]) ∧ Le w w' := by
  refine enter Try.func75 rfl rfl ?_
  have L0 := Le.refl w
  refine WC.seq ?_
  refine WC.region ?_
  refine W.any (.assign rfl) rfl rfl rfl ?_
  refine W.any (.assign rfl) rfl rfl rfl ?_
  refine W.nil ?_
  refine E.thenN ?_
  refine WC.seq ?_
  refine WC.seq ?_
  refine WC.region ?_
  refine W.any (.move rfl) rfl rfl rfl ?_
  refine W.ef rfl rfl rfl ?_
  refine Ef.call go129 rfl rfl (coins_ok a w) ?_
  rintro _ w1_1 ⟨rfl, h1_1⟩
  refine ⟨_, rfl, ?_⟩
  have L1 := L0.trans h1_1
  refine W.any (.not rfl) rfl rfl rfl ?_
  by_cases q1_3 : coinB a = true
  · refine W.any (.dec (.move rfl) (congrArg not (q1_3))) rfl rfl rfl ?_
    refine W.rdg (Any.rd (.move rfl) _) rfl rfl rfl (rfl) rfl rfl ?_
    refine W.efg rfl rfl rfl (rfl) rfl rfl ?_
    refine Ef.call go129 rfl rfl (coins_ok b w1_1) ?_
    rintro _ w1_5 ⟨rfl, h1_5⟩
    refine ⟨_, rfl, ?_⟩
    have L2 := L1.trans h1_5
    refine W.rdg (Any.rd (.not rfl) _) rfl rfl rfl (rfl) rfl rfl ?_
    refine W.any (.pickF rfl rfl rfl) rfl rfl rfl ?_
    by_cases q1_8 : coinB b = true
    · refine W.any (.dec (.move rfl) (congrArg not (q1_8))) rfl rfl rfl ?_
      refine W.rdg (Any.rd (.move rfl) _) rfl rfl rfl (rfl) rfl rfl ?_
      refine W.rdg (Any.rd (.move rfl) _) rfl rfl rfl (rfl) rfl rfl ?_
      have hb1 := inB_T (show inB b 0 1125899906842624 = true by assumption)
      refine W.rdg (Any.rd (.sub rfl rfl (by omega)) _) rfl rfl rfl (rfl) rfl rfl ?_
      refine W.rdg (Any.rd (.gtr rfl rfl) _) rfl rfl rfl (rfl) rfl rfl ?_
      refine W.any (.pickF rfl rfl rfl) rfl rfl rfl ?_
      refine W.nil ?_
      refine E.thenN ?_
      by_cases c0 : (1125899906842624 - b) < a
      · refine WC.condY rfl (decide_eq_true c0) ?_
        refine WC.seq ?_
        refine WC.region ?_
        refine W.any (.assign rfl) rfl rfl rfl ?_
        refine W.any (.assign rfl) rfl rfl rfl ?_
        refine W.nil ?_
        refine E.thenN ?_
        refine WC.ret ?_
        refine E.thenR ?_
        refine E.retG2 rfl rfl rfl ?_
        exact ⟨(by first | rfl | (simp [addC, q1_3, q1_8, c0]; done) | (simp [addC, q1_3, q1_8, c0]; omega) | (simp [addC, q1_3, q1_8, c0]; split <;> first | (exfalso; omega) | (simp; done) | (simp; omega))), L2⟩
      · refine WC.condN rfl (decide_eq_false c0) ?_
        refine WC.skip ?_
        refine E.thenN ?_
        refine WC.seq ?_
        refine WC.region ?_
        refine W.any (.move rfl) rfl rfl rfl ?_
        refine W.any (.move rfl) rfl rfl rfl ?_
        refine W.any (.add rfl rfl (by have := inB_T (show inB a 0 1125899906842624 = true by assumption); have := inB_T (show inB b 0 1125899906842624 = true by assumption); omega)) rfl rfl rfl ?_
        refine W.any (.assign rfl) rfl rfl rfl ?_
        refine W.any (.assign rfl) rfl rfl rfl ?_
        refine W.nil ?_
        refine E.thenN ?_
        refine WC.ret ?_
        refine E.retG2 rfl rfl rfl ?_
        exact ⟨(by first | rfl | (simp [addC, q1_3, q1_8, c0]; done) | (simp [addC, q1_3, q1_8, c0]; omega) | (simp [addC, q1_3, q1_8, c0]; split <;> first | (exfalso; omega) | (simp; done) | (simp; omega))), L2⟩
    · refine W.any (.dec (.move rfl) (congrArg not ((Bool.eq_false_iff.2 q1_8)))) rfl rfl rfl ?_
      refine W.skip rfl rfl rfl (rfl) rfl rfl ?_
      refine W.skip rfl rfl rfl (rfl) rfl rfl ?_
      refine W.skip rfl rfl rfl (rfl) rfl rfl ?_
      refine W.skip rfl rfl rfl (rfl) rfl rfl ?_
      refine W.any (.pickT rfl rfl rfl) rfl rfl rfl ?_
      refine W.nil ?_
      refine E.thenN ?_
      refine WC.condT rfl ?_
      refine WC.seq ?_
      refine WC.region ?_
      refine W.any (.assign rfl) rfl rfl rfl ?_
      refine W.any (.assign rfl) rfl rfl rfl ?_
      refine W.nil ?_
      refine E.thenN ?_
      refine WC.ret ?_
      refine E.thenR ?_
      refine E.retG2 rfl rfl rfl ?_
      exact ⟨(by first | rfl | (simp [addC, q1_3, q1_8]; done) | (simp [addC, q1_3, q1_8]; omega) | (simp [addC, q1_3, q1_8]; split <;> first | (exfalso; omega) | (simp; done) | (simp; omega))), L2⟩
  · refine W.any (.dec (.move rfl) (congrArg not ((Bool.eq_false_iff.2 q1_3)))) rfl rfl rfl ?_
    refine W.skip rfl rfl rfl (rfl) rfl rfl ?_
    refine W.skip rfl rfl rfl (rfl) rfl rfl ?_
    refine W.skip rfl rfl rfl (rfl) rfl rfl ?_
    refine W.any (.pickT rfl rfl rfl) rfl rfl rfl ?_
    refine W.any (.move rfl) rfl rfl rfl ?_
    refine W.skip rfl rfl rfl (rfl) rfl rfl ?_
    refine W.skip rfl rfl rfl (rfl) rfl rfl ?_
    refine W.skip rfl rfl rfl (rfl) rfl rfl ?_
    refine W.skip rfl rfl rfl (rfl) rfl rfl ?_
    refine W.any (.pickT rfl rfl rfl) rfl rfl rfl ?_
    refine W.nil ?_
    refine E.thenN ?_
    refine WC.condT rfl ?_
    refine WC.seq ?_
    refine WC.region ?_
    refine W.any (.assign rfl) rfl rfl rfl ?_
    refine W.any (.assign rfl) rfl rfl rfl ?_
    refine W.nil ?_
    refine E.thenN ?_
    refine WC.ret ?_
    refine E.thenR ?_
    refine E.retG2 rfl rfl rfl ?_
    exact ⟨(by first | rfl | (simp [addC, q1_3]; done) | (simp [addC, q1_3]; omega) | (simp [addC, q1_3]; split <;> first | (exfalso; omega) | (simp; done) | (simp; omega))), L1⟩

end Go.Proofs.Ytfgakofjkldcjaa

namespace Go.Proofs.Ytfgakofjkldcjaa
open Go Go.Sx Go.Hsp Go.Num Go.Osp Go.Gsp
set_option maxRecDepth 20000
set_option linter.unusedSimpArgs false
set_option linter.unusedVariables false
def partV (x : Part) : List Value := [.int .i64 x.ch, .int .i64 x.id, .int .i64 x.am, .int .i64 x.ex, .int .u64 ((x.pt : Nat) : Int), .int .u64 ((x.bl : Nat) : Int)]
theorem partV_row : RowF partV 6 := ⟨fun _ => rfl, fun x v hv => by simp [partV] at hv; rcases hv with rfl | rfl | rfl | rfl | rfl | rfl <;> rfl, by decide⟩
def paidV (x : Paid) : List Value := [.int .i64 x.ch, .int .i64 x.id, .int .u64 ((x.sec : Nat) : Int)]
theorem paidV_row : RowF paidV 3 := ⟨fun _ => rfl, fun x v hv => by simp [paidV] at hv; rcases hv with rfl | rfl | rfl <;> rfl, by decide⟩
def ckV (k : Int × Int) : List Value := [.int .i64 k.1, .int .i64 k.2]
def ikf (x : Int) : Value := .int .i64 x
def ckf (k : Int × Int) : Value := .agg (ckV k).toArray
def ptf (g : Nat) : Value := .pointer (some ⟨g, 0, none⟩)
theorem kint : KeyG Try.prog 3 ikf := KeyG.int Try.underlying3
theorem eqv_ck {d : Nat} (a b : Int × Int) : Eqv Try.prog (d + 2) 135 (ckf a) (ckf b) (decide (a = b)) := by
  have h := Eqv.ints (P := Try.prog) (d := d) (t := 135) (ckV a) (ckV b) [(.i64, 0), (.i64, 1)] (by kernel_rfl) (by kernel_rfl) (by
    rw [show (Try.prog.fieldsOf 135) = _ from (by unfold Program.fieldsOf; rw [Try.underlying135])]
    exact ⟨by decide, rfl, Try.underlying3, ⟨_, _, rfl, rfl⟩, by decide, rfl, Try.underlying3, ⟨_, _, rfl, rfl⟩, trivial⟩)
  have e : eqAll (ckV a) (ckV b) [(.i64, 0), (.i64, 1)] = decide (a = b) := by
    obtain ⟨a1, a2⟩ := a
    obtain ⟨b1, b2⟩ := b
    simp only [eqAll, ckV, List.getElem?_cons_zero, List.getElem?_cons_succ, Prod.mk.injEq]
    rw [Bool.eq_iff_iff]
    simp only [Bool.and_eq_true, decide_eq_true_eq, Bool.and_true]
  rw [e] at h
  exact h
theorem check_ck (b : Bool) (k : Int × Int) (w : World) : ∀ m : Nat, (Instr.checkKey b (m + 2) 135 (ckf k)).run Try.prog w = .ok () w := by
  intro m
  have hi : ∀ (v : Int) (w : World), (Instr.checkKey b (m + 1) 3 (.int .i64 v)).run Try.prog w = .ok () w := fun v w => by unfold Instr.checkKey; simp [run_underlying Try.underlying3]
  have p0 : ∀ w : World, (part 3 (ckV k).toArray 0).run Try.prog w = .ok (.int .i64 k.1) w := run_part1 na3 rfl
  have p1 : ∀ w : World, (part 3 (ckV k).toArray 1).run Try.prog w = .ok (.int .i64 k.2) w := run_part1 na3 rfl
  unfold Instr.checkKey
  simp only [Sem.run_bind, run_underlying Try.underlying135, Result.andThen_ok, ckf]
  simp [p0, p1, hi]
theorem kcond : KeyG Try.prog 135 ckf := KeyG.struct Try.underlying135 (fun b k w => check_ck b k w 9998) (fun k => ⟨_, rfl⟩) (fun a b => eqv_ck (d := 9998) a b)
/-- What is left behind parts are let go. -/
def delK (l : List Part) (m : List (Nat × (Int × Int) × Bool)) : List (Nat × (Int × Int) × Bool) := m.filter fun y => !(l.any fun p => decide (y.2.1 = keyP p))
theorem delK_nil (m : List (Nat × (Int × Int) × Bool)) : delK [] m = m := by simp [delK]
theorem delK_snoc (l : List Part) (k : Nat) (h : k < l.length) (m : List (Nat × (Int × Int) × Bool)) : (delK (l.take k) m).filter (fun y => decide (y.2.1 ≠ ((l.getD k noPart).ch, (l.getD k noPart).id))) = delK (l.take (k + 1)) m := by
  unfold delK
  rw [List.filter_filter, List.take_add_one, getS l noPart h]
  apply List.filter_congr
  intro y _
  rw [List.any_append]
  rw [Bool.eq_iff_iff]
  simp only [Bool.and_eq_true, Bool.not_eq_true', List.any_cons, List.any_nil, Bool.or_false, Bool.or_eq_false_iff, decide_eq_true_eq, Option.toList, decide_eq_false_iff_not, keyP, ne_eq]
  exact ⟨fun h => ⟨h.2, decide_eq_false h.1⟩, fun h => ⟨of_decide_eq_false h.2, h.1⟩⟩
theorem may_ok3 {gp ga gh gq cq ck : Nat} {Aq : Option Addr} {lh : List (Nat × (Int × Int) × Bool)} (p : Pay) (x : Part) (ht : Int) (w : World) (hp : Blk w gp 117 #[.map (some ga), .map (some gh)]) (hq : Blk w gq 126 #[.int .u64 (((p.sec : Nat) : Int)), .int .i64 (p.tot), .int .i64 (p.by_), .int .i64 (p.lst), .slice Aq p.held.length cq, .int .i64 (p.sum), .bool (p.ovr), .bool (p.paid)]) (hM : MapG w ckf Value.bool gh lh ck) (hhl : p.held.length ≤ 1000000) : Calls Try.prog 64 #[.pointer (some ⟨gp, 0, none⟩), .pointer (some ⟨gq, 0, none⟩), .agg (partV x).toArray, .int .i64 (ht)] w fun r w' => r = .returned (.tuple #[.int .i64 (mayP p (fun k => (getG k lh).getD false) x ht).1, .int .i64 (mayP p (fun k => (getG k lh).getD false) x ht).2]) ∧ Le w w' := by
  refine enter Try.func64 rfl rfl ?_
  have L0 := Le.refl w
  refine WC.seq ?_
  refine WC.region ?_
  refine W.ef rfl rfl rfl ?_
  refine Ef.boxA rfl ?_
  intro g0_0 w0_0 hg0_0 b0_0 h0_0
  have L1 := L0.trans h0_0
  have b0_0 : Blk w0_0 g0_0 33 (partV x).toArray := b0_0
  refine W.any (.assign rfl) rfl rfl rfl ?_
  refine W.any (.assign rfl) rfl rfl rfl ?_
  refine W.nil ?_
  refine E.thenN ?_
  refine WC.seq ?_
  refine WC.draw [0, 1, 2, 3, 4, 5, 6, 7, 8, 9, 10, 11] mixed (by kernel_rfl) ?_
  intro w1 d1
  have L2 := L1.trans d1
  refine G.any rfl rfl (.move rfl) rfl rfl rfl ?_
  refine G.any rfl rfl (.nilCheck rfl) rfl rfl rfl ?_
  refine G.any rfl rfl (.field0 fa126_5 rfl) rfl rfl rfl ?_
  refine G.rd rfl rfl (.loadB (v := .int .i64 (p.sum)) na3 rfl (hq.le L2) rfl) rfl rfl rfl ?_
  refine G.any rfl rfl (.field0 fa33_2 rfl) rfl rfl rfl ?_
  have f3 := (b0_0.le d1)
  refine G.rd rfl rfl (.loadB (v := .int .i64 (x.am)) na3 rfl f3 rfl) rfl rfl rfl ?_
  refine G.ef rfl rfl rfl rfl rfl ?_
  refine Ef.call go75 rfl rfl (nadd_ok p.sum x.am w1) ?_
  rintro _ w1_6 ⟨rfl, h1_6⟩
  refine ⟨_, rfl, ?_⟩
  refine ⟨fun _ => h1_6, ?_⟩
  have L4 := L2.trans h1_6
  refine G.any rfl rfl (.move rfl) rfl rfl rfl ?_
  refine G.any rfl rfl (.extract (v := .int .i64 ((addC p.sum x.am).1)) rfl rfl) rfl rfl rfl ?_
  refine G.any rfl rfl (.extract (v := .bool ((addC p.sum x.am).2)) rfl rfl) rfl rfl rfl ?_
  refine G.any rfl rfl (.assign rfl) rfl rfl rfl ?_
  refine G.any rfl rfl (.assign rfl) rfl rfl rfl ?_
  refine G.nil ?_
  refine E.thenN ?_
  refine WC.seq ?_
  refine WC.block ?_
  refine WC.seq ?_
  refine WC.region ?_
  refine W.any (.move rfl) rfl rfl rfl ?_
  refine W.any (.nilCheck rfl) rfl rfl rfl ?_
  refine W.any (.field0 fa126_6 rfl) rfl rfl rfl ?_
  refine W.rd (.loadB (v := .bool (p.ovr)) na4 rfl (hq.le L4) rfl) rfl rfl rfl ?_
  refine W.any (.assign rfl) rfl rfl rfl ?_
  refine W.nil ?_
  refine E.thenN ?_
  by_cases c0 : p.ovr = true
  · refine WC.condY rfl (c0) ?_
    refine WC.seq ?_
    refine WC.region ?_
    refine W.any (.assign rfl) rfl rfl rfl ?_
    refine W.any (.assign rfl) rfl rfl rfl ?_
    refine W.nil ?_
    refine E.thenN ?_
    refine WC.ret ?_
    refine E.blkR ?_
    refine E.thenR ?_
    refine E.retG2 rfl rfl rfl ?_
    have h8 : ((8 : Int) ≤ ↑p.held.length) = (8 ≤ p.held.length) := propext (by omega); (try simp only [ne_eq, Decidable.not_not, Int.natCast_inj, h8] at c0); exact ⟨by unfold mayP opensP keyP; simp [c0]; try omega, L4⟩
  · refine WC.condN rfl ((Bool.eq_false_iff.2 c0)) ?_
    refine WC.seq ?_
    refine WC.region ?_
    refine W.any (.move rfl) rfl rfl rfl ?_
    refine W.any (.move rfl) rfl rfl rfl ?_
    refine W.any (.nilCheck rfl) rfl rfl rfl ?_
    refine W.any (.field0 fa126_2 rfl) rfl rfl rfl ?_
    refine W.rd (.loadB (v := .int .i64 (p.by_)) na3 rfl (hq.le L4) rfl) rfl rfl rfl ?_
    refine W.any (.geq rfl rfl) rfl rfl rfl ?_
    refine W.any (.assign rfl) rfl rfl rfl ?_
    refine W.nil ?_
    refine E.thenN ?_
    by_cases c1 : p.by_ ≤ ht
    · refine WC.condY rfl (decide_eq_true c1) ?_
      refine WC.seq ?_
      refine WC.region ?_
      refine W.any (.assign rfl) rfl rfl rfl ?_
      refine W.any (.assign rfl) rfl rfl rfl ?_
      refine W.nil ?_
      refine E.thenN ?_
      refine WC.ret ?_
      refine E.blkR ?_
      refine E.thenR ?_
      refine E.retG2 rfl rfl rfl ?_
      have h8 : ((8 : Int) ≤ ↑p.held.length) = (8 ≤ p.held.length) := propext (by omega); (try simp only [ne_eq, Decidable.not_not, Int.natCast_inj, h8] at c0); (try simp only [ne_eq, Decidable.not_not, Int.natCast_inj, h8] at c1); exact ⟨by unfold mayP opensP keyP; simp [c0, c1]; try omega, L4⟩
    · refine WC.condN rfl (decide_eq_false c1) ?_
      refine WC.seq ?_
      refine WC.region ?_
      refine W.any (.field0 fa33_2 rfl) rfl rfl rfl ?_
      have f5 := (f3.le h1_6)
      refine W.rd (.loadB (v := .int .i64 (x.am)) na3 rfl f5 rfl) rfl rfl rfl ?_
      refine W.any (.lss rfl rfl) rfl rfl rfl ?_
      by_cases q6_3 : x.am < 1
      · refine W.any (.dec (.move rfl) (decide_eq_true q6_3)) rfl rfl rfl ?_
        refine W.skip rfl rfl rfl (rfl) rfl rfl ?_
        refine W.skip rfl rfl rfl (rfl) rfl rfl ?_
        refine W.skip rfl rfl rfl (rfl) rfl rfl ?_
        refine W.any (.pickT rfl rfl rfl) rfl rfl rfl ?_
        refine W.any (.assign rfl) rfl rfl rfl ?_
        refine W.nil ?_
        refine E.thenN ?_
        refine WC.condT rfl ?_
        refine WC.seq ?_
        refine WC.region ?_
        refine W.any (.assign rfl) rfl rfl rfl ?_
        refine W.any (.assign rfl) rfl rfl rfl ?_
        refine W.nil ?_
        refine E.thenN ?_
        refine WC.ret ?_
        refine E.blkR ?_
        refine E.thenR ?_
        refine E.retG2 rfl rfl rfl ?_
        have h8 : ((8 : Int) ≤ ↑p.held.length) = (8 ≤ p.held.length) := propext (by omega); (try simp only [ne_eq, Decidable.not_not, Int.natCast_inj, h8] at c0); (try simp only [ne_eq, Decidable.not_not, Int.natCast_inj, h8] at c1); (try simp only [ne_eq, Decidable.not_not, Int.natCast_inj, h8] at q6_3); exact ⟨by unfold mayP opensP keyP; simp [c0, c1, q6_3]; try omega, L4⟩
      · refine W.any (.dec (.move rfl) (decide_eq_false q6_3)) rfl rfl rfl ?_
        refine W.rdg (Any.rd (.field0 fa33_2 rfl) _) rfl rfl rfl (rfl) rfl rfl ?_
        refine W.rdg (.loadB (v := .int .i64 (x.am)) na3 rfl f5 rfl) rfl rfl rfl (rfl) rfl rfl ?_
        refine W.rdg (Any.rd (.gtr rfl rfl) _) rfl rfl rfl (rfl) rfl rfl ?_
        refine W.any (.pickF rfl rfl rfl) rfl rfl rfl ?_
        refine W.any (.assign rfl) rfl rfl rfl ?_
        refine W.nil ?_
        refine E.thenN ?_
        by_cases c2 : 1125899906842624 < x.am
        · refine WC.condY rfl (decide_eq_true c2) ?_
          refine WC.seq ?_
          refine WC.region ?_
          refine W.any (.assign rfl) rfl rfl rfl ?_
          refine W.any (.assign rfl) rfl rfl rfl ?_
          refine W.nil ?_
          refine E.thenN ?_
          refine WC.ret ?_
          refine E.blkR ?_
          refine E.thenR ?_
          refine E.retG2 rfl rfl rfl ?_
          have h8 : ((8 : Int) ≤ ↑p.held.length) = (8 ≤ p.held.length) := propext (by omega); (try simp only [ne_eq, Decidable.not_not, Int.natCast_inj, h8] at c0); (try simp only [ne_eq, Decidable.not_not, Int.natCast_inj, h8] at c1); (try simp only [ne_eq, Decidable.not_not, Int.natCast_inj, h8] at q6_3); (try simp only [ne_eq, Decidable.not_not, Int.natCast_inj, h8] at c2); exact ⟨by unfold mayP opensP keyP; simp [c0, c1, q6_3, c2]; try omega, L4⟩
        · refine WC.condN rfl (decide_eq_false c2) ?_
          refine WC.seq ?_
          refine WC.draw [0, 1, 2, 3, 4, 5, 6, 7] mixed (by kernel_rfl) ?_
          intro w8 d8
          have L6 := L4.trans d8
          refine G.any rfl rfl (.field0 fa33_3 rfl) rfl rfl rfl ?_
          have f7 := (f5.le d8)
          refine G.rd rfl rfl (.loadB (v := .int .i64 (x.ex)) na3 rfl f7 rfl) rfl rfl rfl ?_
          refine G.any rfl rfl (.move rfl) rfl rfl rfl ?_
          refine G.any rfl rfl (.nilCheck rfl) rfl rfl rfl ?_
          refine G.any rfl rfl (.field0 fa126_3 rfl) rfl rfl rfl ?_
          refine G.rd rfl rfl (.loadB (v := .int .i64 (p.lst)) na3 rfl (hq.le L6) rfl) rfl rfl rfl ?_
          refine G.any rfl rfl (.lss rfl rfl) rfl rfl rfl ?_
          refine G.any rfl rfl (.assign rfl) rfl rfl rfl ?_
          refine G.nil ?_
          refine E.thenN ?_
          by_cases c3 : x.ex < p.lst
          · refine WC.condY rfl (decide_eq_true c3) ?_
            refine WC.seq ?_
            refine WC.region ?_
            refine W.any (.assign rfl) rfl rfl rfl ?_
            refine W.any (.assign rfl) rfl rfl rfl ?_
            refine W.nil ?_
            refine E.thenN ?_
            refine WC.ret ?_
            refine E.blkR ?_
            refine E.thenR ?_
            refine E.retG2 rfl rfl rfl ?_
            have h8 : ((8 : Int) ≤ ↑p.held.length) = (8 ≤ p.held.length) := propext (by omega); (try simp only [ne_eq, Decidable.not_not, Int.natCast_inj, h8] at c0); (try simp only [ne_eq, Decidable.not_not, Int.natCast_inj, h8] at c1); (try simp only [ne_eq, Decidable.not_not, Int.natCast_inj, h8] at q6_3); (try simp only [ne_eq, Decidable.not_not, Int.natCast_inj, h8] at c2); (try simp only [ne_eq, Decidable.not_not, Int.natCast_inj, h8] at c3); exact ⟨by unfold mayP opensP keyP; simp [c0, c1, q6_3, c2, c3]; try omega, L6⟩
          · refine WC.condN rfl (decide_eq_false c3) ?_
            refine WC.seq ?_
            refine WC.draw [0, 1, 2, 3, 4, 5, 6, 7, 8, 9, 10] mixed (by kernel_rfl) ?_
            intro w10 d10
            have L8 := L6.trans d10
            refine G.any rfl rfl (.move rfl) rfl rfl rfl ?_
            refine G.any rfl rfl (.nilCheck rfl) rfl rfl rfl ?_
            refine G.any rfl rfl (.field0 fa117_1 rfl) rfl rfl rfl ?_
            refine G.rd rfl rfl (.loadB (v := .map (some gh)) na115 rfl (hp.le L8) rfl) rfl rfl rfl ?_
            refine G.any rfl rfl (.field0 fa33_0 rfl) rfl rfl rfl ?_
            have f9 := (f7.le d10)
            refine G.rd rfl rfl (.loadB (v := .int .i64 (x.ch)) na3 rfl f9 rfl) rfl rfl rfl ?_
            refine G.any rfl rfl (.field0 fa33_1 rfl) rfl rfl rfl ?_
            refine G.rd rfl rfl (.loadB (v := .int .i64 (x.id)) na3 rfl f9 rfl) rfl rfl rfl ?_
            refine G.any rfl rfl (.buildP (ckV (x.ch, x.id)) pl135 z135 rfl rfl) rfl rfl rfl ?_
            refine G.rd rfl rfl (.as (.lookup1 (key := (x.ch, x.id)) Try.underlying115 kcond z4 rfl rfl (hM.le L8)) (boolGet _)) rfl rfl rfl ?_
            refine G.any rfl rfl (.assign rfl) rfl rfl rfl ?_
            refine G.nil ?_
            refine E.thenN ?_
            by_cases c4 : (getG (x.ch, x.id) lh).getD false = true
            · refine WC.condY rfl (c4) ?_
              refine WC.seq ?_
              refine WC.region ?_
              refine W.any (.assign rfl) rfl rfl rfl ?_
              refine W.any (.assign rfl) rfl rfl rfl ?_
              refine W.nil ?_
              refine E.thenN ?_
              refine WC.ret ?_
              refine E.blkR ?_
              refine E.thenR ?_
              refine E.retG2 rfl rfl rfl ?_
              have h8 : ((8 : Int) ≤ ↑p.held.length) = (8 ≤ p.held.length) := propext (by omega); (try simp only [ne_eq, Decidable.not_not, Int.natCast_inj, h8] at c0); (try simp only [ne_eq, Decidable.not_not, Int.natCast_inj, h8] at c1); (try simp only [ne_eq, Decidable.not_not, Int.natCast_inj, h8] at q6_3); (try simp only [ne_eq, Decidable.not_not, Int.natCast_inj, h8] at c2); (try simp only [ne_eq, Decidable.not_not, Int.natCast_inj, h8] at c3); (try simp only [ne_eq, Decidable.not_not, Int.natCast_inj, h8] at c4); exact ⟨by unfold mayP opensP keyP; simp [c0, c1, q6_3, c2, c3, c4]; try omega, L8⟩
            · refine WC.condN rfl ((Bool.eq_false_iff.2 c4)) ?_
              refine WC.seq ?_
              refine WC.draw [0, 1, 2, 3, 4, 5, 6, 7, 8, 9, 10, 13, 14, 11, 12, 15, 16, 17] mixed (by kernel_rfl) ?_
              intro w12 d12
              have L10 := L8.trans d12
              refine G.any rfl rfl (.field0 fa33_5 rfl) rfl rfl rfl ?_
              have f11 := (f9.le d12)
              refine G.rd rfl rfl (.loadB (v := .int .u64 (((x.bl : Nat) : Int))) na30 rfl f11 rfl) rfl rfl rfl ?_
              refine G.ef rfl rfl rfl rfl rfl ?_
              refine Ef.call go60 rfl rfl (fright_ok x.bl w12) ?_
              rintro _ w12_2 ⟨rfl, h12_2⟩
              refine ⟨_, rfl, ?_⟩
              refine ⟨fun _ => h12_2, ?_⟩
              have L12 := L10.trans h12_2
              refine G.any rfl rfl (.not rfl) rfl rfl rfl ?_
              by_cases q12_4 : x.bl < q
              · refine G.any rfl rfl (.dec (.move rfl) (congrArg not (decide_eq_true q12_4))) rfl rfl rfl ?_
                refine G.anyg rfl rfl (.move rfl) rfl rfl rfl (rfl) rfl rfl ?_
                refine G.anyg rfl rfl (.nilCheck rfl) rfl rfl rfl (rfl) rfl rfl ?_
                refine G.anyg rfl rfl (.field0 fa126_0 rfl) rfl rfl rfl (rfl) rfl rfl ?_
                refine G.rdg rfl rfl (.loadB (v := .int .u64 (((p.sec : Nat) : Int))) na30 rfl (hq.le L12) rfl) rfl rfl rfl (rfl) rfl rfl ?_
                refine G.anyg rfl rfl (.field0 fa33_5 rfl) rfl rfl rfl (rfl) rfl rfl ?_
                have f13 := (f11.le h12_2)
                refine G.rdg rfl rfl (.loadB (v := .int .u64 (((x.bl : Nat) : Int))) na30 rfl f13 rfl) rfl rfl rfl (rfl) rfl rfl ?_
                refine G.anyg rfl rfl (.field0 fa33_4 rfl) rfl rfl rfl (rfl) rfl rfl ?_
                refine G.rdg rfl rfl (.loadB (v := .int .u64 (((x.pt : Nat) : Int))) na31 rfl f13 rfl) rfl rfl rfl (rfl) rfl rfl ?_
                refine G.efg rfl rfl rfl rfl rfl (rfl) rfl rfl ?_
                refine Ef.call go55 rfl rfl (fadd_ok p.sec x.bl w12_2) ?_
                rintro _ w12_11 ⟨rfl, h12_11⟩
                refine ⟨_, rfl, ?_⟩
                refine ⟨fun _ => h12_11, ?_⟩
                have L14 := L12.trans h12_11
                refine G.efg rfl rfl rfl rfl rfl (rfl) rfl rfl ?_
                refine Ef.call go49 rfl rfl (base_ok (addS p.sec x.bl) w12_11) ?_
                rintro _ w12_12 ⟨rfl, h12_12⟩
                refine ⟨_, rfl, ?_⟩
                refine ⟨fun _ => h12_12, ?_⟩
                have L15 := L14.trans h12_12
                refine G.anyg rfl rfl (.neq rfl rfl) rfl rfl rfl (rfl) rfl rfl ?_
                refine G.any rfl rfl (.pickF rfl rfl rfl) rfl rfl rfl ?_
                refine G.any rfl rfl (.assign rfl) rfl rfl rfl ?_
                refine G.nil ?_
                refine E.thenN ?_
                by_cases c5 : ((base (addS p.sec x.bl) : Nat) : Int) ≠ ((x.pt : Nat) : Int)
                · refine WC.condY rfl (decide_eq_true c5) ?_
                  refine WC.seq ?_
                  refine WC.region ?_
                  refine W.any (.assign rfl) rfl rfl rfl ?_
                  refine W.any (.assign rfl) rfl rfl rfl ?_
                  refine W.nil ?_
                  refine E.thenN ?_
                  refine WC.ret ?_
                  refine E.blkR ?_
                  refine E.thenR ?_
                  refine E.retG2 rfl rfl rfl ?_
                  have h8 : ((8 : Int) ≤ ↑p.held.length) = (8 ≤ p.held.length) := propext (by omega); (try simp only [ne_eq, Decidable.not_not, Int.natCast_inj, h8] at c0); (try simp only [ne_eq, Decidable.not_not, Int.natCast_inj, h8] at c1); (try simp only [ne_eq, Decidable.not_not, Int.natCast_inj, h8] at q6_3); (try simp only [ne_eq, Decidable.not_not, Int.natCast_inj, h8] at c2); (try simp only [ne_eq, Decidable.not_not, Int.natCast_inj, h8] at c3); (try simp only [ne_eq, Decidable.not_not, Int.natCast_inj, h8] at c4); (try simp only [ne_eq, Decidable.not_not, Int.natCast_inj, h8] at q12_4); (try simp only [ne_eq, Decidable.not_not, Int.natCast_inj, h8] at c5); exact ⟨by unfold mayP opensP keyP; simp [c0, c1, q6_3, c2, c3, c4, q12_4, c5]; try omega, L15⟩
                · refine WC.condN rfl (decide_eq_false c5) ?_
                  refine WC.seq ?_
                  refine WC.region ?_
                  refine W.any (.move rfl) rfl rfl rfl ?_
                  refine W.any (.nilCheck rfl) rfl rfl rfl ?_
                  refine W.any (.field0 fa126_4 rfl) rfl rfl rfl ?_
                  refine W.rd (.loadB (v := .slice Aq p.held.length cq) na46 rfl (hq.le L15) rfl) rfl rfl rfl ?_
                  refine W.rd (.len Try.underlying46 rfl) rfl rfl rfl ?_
                  refine W.any (.geq rfl rfl) rfl rfl rfl ?_
                  refine W.any (.assign rfl) rfl rfl rfl ?_
                  refine W.nil ?_
                  refine E.thenN ?_
                  by_cases c6 : 8 ≤ ((p.held.length : Nat) : Int)
                  · refine WC.condY rfl (decide_eq_true c6) ?_
                    refine WC.seq ?_
                    refine WC.region ?_
                    refine W.any (.assign rfl) rfl rfl rfl ?_
                    refine W.any (.assign rfl) rfl rfl rfl ?_
                    refine W.nil ?_
                    refine E.thenN ?_
                    refine WC.ret ?_
                    refine E.blkR ?_
                    refine E.thenR ?_
                    refine E.retG2 rfl rfl rfl ?_
                    have h8 : ((8 : Int) ≤ ↑p.held.length) = (8 ≤ p.held.length) := propext (by omega); (try simp only [ne_eq, Decidable.not_not, Int.natCast_inj, h8] at c0); (try simp only [ne_eq, Decidable.not_not, Int.natCast_inj, h8] at c1); (try simp only [ne_eq, Decidable.not_not, Int.natCast_inj, h8] at q6_3); (try simp only [ne_eq, Decidable.not_not, Int.natCast_inj, h8] at c2); (try simp only [ne_eq, Decidable.not_not, Int.natCast_inj, h8] at c3); (try simp only [ne_eq, Decidable.not_not, Int.natCast_inj, h8] at c4); (try simp only [ne_eq, Decidable.not_not, Int.natCast_inj, h8] at q12_4); (try simp only [ne_eq, Decidable.not_not, Int.natCast_inj, h8] at c5); (try simp only [ne_eq, Decidable.not_not, Int.natCast_inj, h8] at c6); exact ⟨by unfold mayP opensP keyP; simp [c0, c1, q6_3, c2, c3, c4, q12_4, c5, c6]; try omega, L15⟩
                  · refine WC.condN rfl (decide_eq_false c6) ?_
                    refine WC.seq ?_
                    refine WC.region ?_
                    refine W.any (.move rfl) rfl rfl rfl ?_
                    refine W.any (.not rfl) rfl rfl rfl ?_
                    refine W.any (.assign rfl) rfl rfl rfl ?_
                    refine W.nil ?_
                    refine E.thenN ?_
                    by_cases c7 : (addC p.sum x.am).2 = true
                    · refine WC.condN rfl (congrArg not (c7)) ?_
                      refine WC.skip ?_
                      refine E.blkN ?_
                      refine E.thenN ?_
                      refine WC.seq ?_
                      refine WC.region ?_
                      refine W.any (.move rfl) rfl rfl rfl ?_
                      refine W.any (.assign rfl) rfl rfl rfl ?_
                      refine W.any (.assign rfl) rfl rfl rfl ?_
                      refine W.nil ?_
                      refine E.thenN ?_
                      refine WC.ret ?_
                      refine E.retG2 rfl rfl rfl ?_
                      have h8 : ((8 : Int) ≤ ↑p.held.length) = (8 ≤ p.held.length) := propext (by omega); (try simp only [ne_eq, Decidable.not_not, Int.natCast_inj, h8] at c0); (try simp only [ne_eq, Decidable.not_not, Int.natCast_inj, h8] at c1); (try simp only [ne_eq, Decidable.not_not, Int.natCast_inj, h8] at q6_3); (try simp only [ne_eq, Decidable.not_not, Int.natCast_inj, h8] at c2); (try simp only [ne_eq, Decidable.not_not, Int.natCast_inj, h8] at c3); (try simp only [ne_eq, Decidable.not_not, Int.natCast_inj, h8] at c4); (try simp only [ne_eq, Decidable.not_not, Int.natCast_inj, h8] at q12_4); (try simp only [ne_eq, Decidable.not_not, Int.natCast_inj, h8] at c5); (try simp only [ne_eq, Decidable.not_not, Int.natCast_inj, h8] at c6); (try simp only [ne_eq, Decidable.not_not, Int.natCast_inj, h8] at c7); exact ⟨by unfold mayP opensP keyP; simp [c0, c1, q6_3, c2, c3, c4, q12_4, c5, c6, c7]; try omega, L15⟩
                    · refine WC.condY rfl (congrArg not ((Bool.eq_false_iff.2 c7))) ?_
                      refine WC.seq ?_
                      refine WC.region ?_
                      refine W.any (.assign rfl) rfl rfl rfl ?_
                      refine W.any (.assign rfl) rfl rfl rfl ?_
                      refine W.nil ?_
                      refine E.thenN ?_
                      refine WC.ret ?_
                      refine E.blkR ?_
                      refine E.thenR ?_
                      refine E.retG2 rfl rfl rfl ?_
                      have h8 : ((8 : Int) ≤ ↑p.held.length) = (8 ≤ p.held.length) := propext (by omega); (try simp only [ne_eq, Decidable.not_not, Int.natCast_inj, h8] at c0); (try simp only [ne_eq, Decidable.not_not, Int.natCast_inj, h8] at c1); (try simp only [ne_eq, Decidable.not_not, Int.natCast_inj, h8] at q6_3); (try simp only [ne_eq, Decidable.not_not, Int.natCast_inj, h8] at c2); (try simp only [ne_eq, Decidable.not_not, Int.natCast_inj, h8] at c3); (try simp only [ne_eq, Decidable.not_not, Int.natCast_inj, h8] at c4); (try simp only [ne_eq, Decidable.not_not, Int.natCast_inj, h8] at q12_4); (try simp only [ne_eq, Decidable.not_not, Int.natCast_inj, h8] at c5); (try simp only [ne_eq, Decidable.not_not, Int.natCast_inj, h8] at c6); (try simp only [ne_eq, Decidable.not_not, Int.natCast_inj, h8] at c7); exact ⟨by unfold mayP opensP keyP; simp [c0, c1, q6_3, c2, c3, c4, q12_4, c5, c6, c7]; try omega, L15⟩
              · refine G.any rfl rfl (.dec (.move rfl) (congrArg not (decide_eq_false q12_4))) rfl rfl rfl ?_
                refine G.skip rfl rfl rfl rfl (rfl) rfl rfl ?_
                refine G.skip rfl rfl rfl rfl (rfl) rfl rfl ?_
                refine G.skip rfl rfl rfl rfl (rfl) rfl rfl ?_
                refine G.skip rfl rfl rfl rfl (rfl) rfl rfl ?_
                refine G.skip rfl rfl rfl rfl (rfl) rfl rfl ?_
                refine G.skip rfl rfl rfl rfl (rfl) rfl rfl ?_
                refine G.skip rfl rfl rfl rfl (rfl) rfl rfl ?_
                refine G.skip rfl rfl rfl rfl (rfl) rfl rfl ?_
                refine G.skip rfl rfl rfl rfl (rfl) rfl rfl ?_
                refine G.skip rfl rfl rfl rfl (rfl) rfl rfl ?_
                refine G.skip rfl rfl rfl rfl (rfl) rfl rfl ?_
                refine G.any rfl rfl (.pickT rfl rfl rfl) rfl rfl rfl ?_
                refine G.any rfl rfl (.assign rfl) rfl rfl rfl ?_
                refine G.nil ?_
                refine E.thenN ?_
                refine WC.condT rfl ?_
                refine WC.seq ?_
                refine WC.region ?_
                refine W.any (.assign rfl) rfl rfl rfl ?_
                refine W.any (.assign rfl) rfl rfl rfl ?_
                refine W.nil ?_
                refine E.thenN ?_
                refine WC.ret ?_
                refine E.blkR ?_
                refine E.thenR ?_
                refine E.retG2 rfl rfl rfl ?_
                have h8 : ((8 : Int) ≤ ↑p.held.length) = (8 ≤ p.held.length) := propext (by omega); (try simp only [ne_eq, Decidable.not_not, Int.natCast_inj, h8] at c0); (try simp only [ne_eq, Decidable.not_not, Int.natCast_inj, h8] at c1); (try simp only [ne_eq, Decidable.not_not, Int.natCast_inj, h8] at q6_3); (try simp only [ne_eq, Decidable.not_not, Int.natCast_inj, h8] at c2); (try simp only [ne_eq, Decidable.not_not, Int.natCast_inj, h8] at c3); (try simp only [ne_eq, Decidable.not_not, Int.natCast_inj, h8] at c4); (try simp only [ne_eq, Decidable.not_not, Int.natCast_inj, h8] at q12_4); exact ⟨by unfold mayP opensP keyP; simp [c0, c1, q6_3, c2, c3, c4, q12_4]; try omega, L12⟩

theorem clear_ok {gp ga gh gq nq cq ck : Nat} {Aq : Option Addr} {lh : List (Nat × (Int × Int) × Bool)} (p : Pay) (w : World) (hp : Blk w gp 117 #[.map (some ga), .map (some gh)]) (hq : Blk w gq 126 #[.int .u64 (((p.sec : Nat) : Int)), .int .i64 (p.tot), .int .i64 (p.by_), .int .i64 (p.lst), .slice Aq nq cq, .int .i64 (p.sum), .bool (p.ovr), .bool (p.paid)]) (hM : MapG w ckf Value.bool gh lh ck) (hO : OVec w 0 33 partV 6 Aq nq cq p.held) (hhl : nq ≤ 1000000) (n1 : gp ≠ gq) (n2 : gp ≠ gh) (n3 : gq ≠ gh) (n4 : rowOf Aq cq ≠ some gh) (n5 : rowOf Aq cq ≠ some gq) : Calls Try.prog 65 #[.pointer (some ⟨gp, 0, none⟩), .pointer (some ⟨gq, 0, none⟩)] w fun r w' => r = .returned (.slice Aq nq cq) ∧ Blk w' gq 126 #[.int .u64 (((p.sec : Nat) : Int)), .int .i64 (p.tot), .int .i64 (p.by_), .int .i64 (p.lst), .slice none 0 0, .int .i64 (p.sum), .bool true, .bool (p.paid)] ∧ MapG w' ckf Value.bool gh (delK p.held lh) ck ∧ ChP w w' (fun k => k = gq ∨ k = gh) := by
  refine enter Try.func65 rfl rfl ?_
  have L0 := ChP.refl w (fun k => k = gq ∨ k = gh)
  refine WC.seq ?_
  refine WC.region ?_
  refine W.any (.assign rfl) rfl rfl rfl ?_
  refine W.nil ?_
  refine E.thenN ?_
  refine WC.seq ?_
  refine WC.seq ?_
  refine WC.region ?_
  refine W.any (.move rfl) rfl rfl rfl ?_
  refine W.any (.nilCheck rfl) rfl rfl rfl ?_
  refine W.any (.field0 fa126_4 rfl) rfl rfl rfl ?_
  refine W.rd (.loadB (v := .slice Aq nq cq) na46 rfl hq rfl) rfl rfl rfl ?_
  refine W.rd (.len Try.underlying46 rfl) rfl rfl rfl ?_
  refine W.any (.move rfl) rfl rfl rfl ?_
  refine W.nil ?_
  refine E.thenN ?_
  refine WC.block ?_
  refine WC.loop (ι := Nat) (fun k => [(0, .pointer (some ⟨gp, 0, none⟩)), (1, .pointer (some ⟨gq, 0, none⟩)), (10, .slice Aq nq cq), (11, .int .i64 (((nq : Nat) : Int))), (12, .int .i64 (((k : Nat) : Int)))]) (fun k wl0 => (k ≤ nq) ∧ ChP w wl0 (fun k => k = gq ∨ k = gh) ∧ w.heap.size ≤ wl0.heap.size ∧ Blk wl0 gp 117 #[.map (some ga), .map (some gh)] ∧ MapG wl0 ckf Value.bool gh (delK (p.held.take k) lh) ck ∧ Blk wl0 gq 126 #[.int .u64 (((p.sec : Nat) : Int)), .int .i64 (p.tot), .int .i64 (p.by_), .int .i64 (p.lst), .slice Aq nq cq, .int .i64 (p.sum), .bool (p.ovr), .bool (p.paid)] ∧ OVec wl0 0 33 partV 6 Aq nq cq p.held) (fun k => nq - k) 0 ?_ ?_ ?_
  · exact .cons rfl (.cons rfl (.cons rfl (.cons rfl (.cons rfl (.nil _)))))
  · exact ⟨by omega, L0, Nat.le_refl _, hp, (by rw [List.take_zero, delK_nil]; exact hM), hq, hO⟩
  · rintro k wl0 ⟨hk, Ll0, sz0, f0_0, f0_1, f0_2, f0_3⟩
    have hOl := hO.1
    refine WC.seq ?_
    refine WC.region ?_
    refine W.any (.lss rfl rfl) rfl rfl rfl ?_
    refine W.nil ?_
    refine E.thenN ?_
    refine WC.seq ?_
    by_cases c0 : ((k : Nat) : Int) < ((nq : Nat) : Int)
    · refine WC.condY rfl (decide_eq_true c0) ?_
      refine WC.skip ?_
      refine E.thenN ?_
      refine WC.seq ?_
      refine WC.block ?_
      refine WC.seq ?_
      refine WC.region ?_
      refine W.any (.idxS (k) Try.underlying46 sz33 rfl rfl (hO.vec.isSome partV_row (by omega)) (rfl) (by omega)) rfl rfl rfl ?_
      refine W.rd (.vload ag33 rfl f0_3.vec partV_row (getS p.held noPart (by first | omega | (simp only [List.length_cons, List.length_nil]; omega)))) rfl rfl rfl ?_
      refine W.ef rfl rfl rfl ?_
      refine Ef.allocA z33 ?_
      intro g3_2 w3_2 hg3_2 b3_2 h3_2
      have L1 := Ll0.le h3_2
      have b3_2 : Blk w3_2 g3_2 33 (partV noPart).toArray := b3_2
      refine W.ef0 rfl rfl ?_
      refine Ef.storeAll sz33 (by rfl) rfl rfl b3_2 (by rfl) (partV_row.one (p.held.getD k noPart)) ?_
      intro w3_3 b3_3 h3_3
      have b3_3 : Blk w3_3 g3_2 33 (partV (p.held.getD k noPart)).toArray := b3_3
      have L2 : ChP w w3_3 (fun k => k = gq ∨ k = gh) := L1.ch h3_3 (fun i hi hlt => by cases hi; exact absurd hlt (by have := Ll0.size; have := hg3_2; omega))
      refine W.nil ?_
      refine E.thenN ?_
      refine WC.draw [0, 1, 2, 3, 4, 5, 6, 7, 8, 9] mixed (by kernel_rfl) ?_
      intro w4 d4
      have L3 := L2.le d4
      refine G.any rfl rfl (.move rfl) rfl rfl rfl ?_
      refine G.any rfl rfl (.nilCheck rfl) rfl rfl rfl ?_
      refine G.any rfl rfl (.field0 fa117_1 rfl) rfl rfl rfl ?_
      have f4 := (((f0_0.le h3_2).ch h3_3 (fun h => (show g3_2 ≠ gp from by have := f0_0.lt; omega) (Option.some.inj h))).le d4)
      refine G.rd rfl rfl (.loadB (v := .map (some gh)) na115 rfl f4 rfl) rfl rfl rfl ?_
      refine G.any rfl rfl (.field0 fa33_0 rfl) rfl rfl rfl ?_
      have f5 := (b3_3.le d4)
      refine G.rd rfl rfl (.loadB (v := .int .i64 ((p.held.getD k noPart).ch)) na3 rfl f5 rfl) rfl rfl rfl ?_
      refine G.any rfl rfl (.field0 fa33_1 rfl) rfl rfl rfl ?_
      refine G.rd rfl rfl (.loadB (v := .int .i64 ((p.held.getD k noPart).id)) na3 rfl f5 rfl) rfl rfl rfl ?_
      refine G.any rfl rfl (.buildP (ckV ((p.held.getD k noPart).ch, (p.held.getD k noPart).id)) pl135 z135 rfl rfl) rfl rfl rfl ?_
      have f6 := (((f0_1.le h3_2).ch h3_3 (fun h => (show g3_2 ≠ gh from by have := f0_1.lt; omega) (Option.some.inj h))).le d4)
      refine G.ef0 rfl rfl rfl rfl ?_
      refine Ef.deleteG (key := ((p.held.getD k noPart).ch, (p.held.getD k noPart).id)) Try.underlying115 kcond rfl rfl f6 ?_
      intro w4_9 b4_9 h4_9
      refine ⟨fun h => absurd h (ne_true_of_eq_false (by kernel_rfl)), ?_⟩
      have L7 : ChP w w4_9 (fun k => k = gq ∨ k = gh) := L3.ch h4_9 (fun i hi _ => by cases hi; exact Or.inr rfl)
      refine G.nil ?_
      refine E.blkN ?_
      refine E.thenN ?_
      refine WC.region ?_
      refine W.any (.add rfl rfl (by omega)) rfl rfl rfl ?_
      refine W.any (.move rfl) rfl rfl rfl ?_
      refine W.nil ?_
      have f8 := (f4.ch h4_9 (fun h => (Ne.symm n2) (Option.some.inj h)))
      have f9 := ((((f0_2.le h3_2).ch h3_3 (fun h => (show g3_2 ≠ gq from by have := f0_2.lt; omega) (Option.some.inj h))).le d4).ch h4_9 (fun h => (Ne.symm n3) (Option.some.inj h)))
      have f10 := ((((f0_3.le h3_2).ch h3_3 (fun q hq => by cases hq; exact (fun he => by have := (f0_3.row he).2; omega))).le d4).ch h4_9 (fun q hq => by cases hq; exact n4))
      refine E.again (k + 1) (.cons rfl (.cons rfl (.cons rfl (.cons rfl (.cons rfl (.nil _)))))) ?_ ?_
      · exact ⟨by omega, L7, by have := sz0; have := h3_2.size; have := h3_3.size; have := d4.size; have := h4_9.size; omega, f8, (by rw [← delK_snoc p.held k (by have := hO.1; omega)]; exact b4_9), f9, f10⟩
      · first | omega | (simp only []; omega)
    · refine WC.condN rfl (decide_eq_false c0) ?_
      refine WC.exit ?_
      refine E.thenX ?_
      refine E.thenX ?_
      refine E.blkH ?_
      refine E.thenN ?_
      refine WC.seq ?_
      refine WC.region ?_
      refine W.any (.move rfl) rfl rfl rfl ?_
      refine W.any (.move rfl) rfl rfl rfl ?_
      refine W.any (.move rfl) rfl rfl rfl ?_
      refine W.any (.nilCheck rfl) rfl rfl rfl ?_
      refine W.any (.field0 fa126_4 rfl) rfl rfl rfl ?_
      refine W.rd (.loadB (v := .slice Aq nq cq) na46 rfl f0_2 rfl) rfl rfl rfl ?_
      refine W.any (.assign rfl) rfl rfl rfl ?_
      refine W.any (.nilCheck rfl) rfl rfl rfl ?_
      refine W.any (.field0 fa126_4 rfl) rfl rfl rfl ?_
      refine W.ef0 rfl rfl ?_
      refine Ef.store sz46 rfl rfl f0_2 (by first | decide | simp) (rfl) ?_
      intro w6_9 b6_9 h6_9
      have b6_9 : Blk w6_9 gq 126 #[.int .u64 (((p.sec : Nat) : Int)), .int .i64 (p.tot), .int .i64 (p.by_), .int .i64 (p.lst), .slice none 0 0, .int .i64 (p.sum), .bool (p.ovr), .bool (p.paid)] := b6_9
      have L11 : ChP w w6_9 (fun k => k = gq ∨ k = gh) := Ll0.ch h6_9 (fun i hi _ => by cases hi; exact Or.inl rfl)
      refine W.any (.nilCheck rfl) rfl rfl rfl ?_
      refine W.any (.field0 fa126_6 rfl) rfl rfl rfl ?_
      refine W.ef0 rfl rfl ?_
      refine Ef.store sz4 rfl rfl b6_9 (by first | decide | simp) (rfl) ?_
      intro w6_12 b6_12 h6_12
      have b6_12 : Blk w6_12 gq 126 #[.int .u64 (((p.sec : Nat) : Int)), .int .i64 (p.tot), .int .i64 (p.by_), .int .i64 (p.lst), .slice none 0 0, .int .i64 (p.sum), .bool true, .bool (p.paid)] := b6_12
      have L12 : ChP w w6_12 (fun k => k = gq ∨ k = gh) := L11.ch h6_12 (fun i hi _ => by cases hi; exact Or.inl rfl)
      refine W.nil ?_
      refine E.thenN ?_
      refine WC.seq ?_
      refine WC.region ?_
      refine W.any (.move rfl) rfl rfl rfl ?_
      refine W.any (.assign rfl) rfl rfl rfl ?_
      refine W.nil ?_
      refine E.thenN ?_
      refine WC.ret ?_
      have f13 := ((f0_1.ch h6_9 (fun h => n3 (Option.some.inj h))).ch h6_12 (fun h => n3 (Option.some.inj h)))
      refine E.retG1 rfl rfl ?_
      exact ⟨rfl, b6_12, (by have hk2 := hO.1; have e := f13; rw [List.take_of_length_le (by omega)] at e; exact e), L12⟩
end Go.Proofs.Ytfgakofjkldcjaa

