/- GossipTells: for every input the law answers true and leaves its arguments as they were. -/
import Derived.Test.YtbpfhenbcgjpcaaGreatGossipTellsM
import Derived.OrdersHeld
import Derived.WalkKit
import Derived.Deep.AppendSrc
import Derived.Deep.MidRow
import Derived.Laws.OwnMore
import Derived.WalkSpells
import Derived.Lib.ConvBytes
import Derived.Lib.AppendZerosOnto
import Derived.Laws.StructEq
import Derived.Maps.RangeRun
import Derived.Laws.Pointers
import Derived.Test.YtbpfhenbcgjpcaaGreatProg
import Derived.KernelRfl
import Derived.Lib.Mul64
import Derived.Shelf.SlSortCmp.NoneTotal
import Derived.Lib.QuietBelow
import Derived.Ground.SlsfProg
namespace Go.Proofs.YtbpfhenbcgjpcaaGreat
open Go Go.Sx Go.Hsp Go.Num Go.Osp Go.Gsp Go.Asp Go.Bsp
set_option maxRecDepth 20000
set_option linter.unusedSimpArgs false
set_option linter.unusedVariables false

theorem addByte {P : Program} {env : Env} {n : Nat} {d : Option Nat} {T : TypeId} {p : String} {af : Array Go.Edge} {g : Option (Nat × Bool)} {t ty : TypeId} {x y : Operand} {m k : Nat} (hx : Sx.ev env x = some (u8v (BitVec.ofNat 8 m))) (hy : Sx.ev env y = some (.int .u8 ((k : Nat) : Int))) (hm : m + k < 256) :
    Sx.Any P env n ⟨d, .binOp .add t x y ty, T, p, af, g⟩ (u8v (BitVec.ofNat 8 (m + k))) := by
  have e1 : (BitVec.ofNat 8 m).toNat = m := by rw [BitVec.toNat_ofNat]; omega
  have e2 : (BitVec.ofNat 8 (m + k)).toNat = m + k := by rw [BitVec.toNat_ofNat]; omega
  unfold u8v at hx ⊢
  rw [e1] at hx
  rw [e2]
  refine Sx.Any.int (k := .u8) (k' := .u8) (a := ((m : Nat) : Int)) (b := ((k : Nat) : Int)) hx hy fun w => ?_
  have e3 : IntKind.u8.wrap (((m : Nat) : Int) + ((k : Nat) : Int)) = ((m + k : Nat) : Int) := by rw [IntWalk.u8_in _ (by omega)]; omega
  simp only [binOp, Op.intArith, e3]
  rfl
theorem mulS_comm (a b : Nat) : mulS a b = mulS b a := by unfold mulS; rw [Nat.mul_comm]
theorem ver_eq (p c r s : Nat) : (decide (addP (base s) 1 = addP r (scale p c))) = decide (base s = allP [r, scale p c, negP 1]) := by
  have e1 : addP (base s) 1 = base s := addP_one (right_base s)
  have e2 : allP [r, scale p c, negP 1] = addP r (scale p c) := by
    rw [negP_one]
    show 1 * taken r % M * taken (scale p c) % M * taken 1 % M = taken r * taken (scale p c) % M
    rw [taken_right right_one, Nat.mul_one, Nat.one_mul, Nat.mod_mod, Nat.mod_mul_mod]
  rw [e1, e2]
theorem may_of2 {e : Gsp.Edge} {no : Int} (h1 : edgeA e = true) (h2 : inB no 1 1048576 = true) : mayA e no = true := by
  simp only [mayA, h1, h2, Bool.and_self]
theorem rrow_step (n : Nat) (hn : n ≤ 9223372036854775807) (w : World) (ih : 128 ≤ n → ∀ w : World, Calls Tryz.prog 54 #[.int .i64 (((n : Nat) : Int) / 128)] w (fun r w' => ∃ A' c', r = .returned (.slice A' (rowN (n / 128)).length c') ∧ OVec w' w.heap.size 5 byteV 1 A' (rowN (n / 128)).length c' (rowN (n / 128)) ∧ Le w w')) : Calls Tryz.prog 54 #[.int .i64 (((n : Nat) : Int))] w fun r w' => ∃ A' c', r = .returned (.slice A' (rowN n).length c') ∧ OVec w' w.heap.size 5 byteV 1 A' (rowN n).length c' (rowN n) ∧ Le w w' := by
  have hrl := rowN_length (n / 128) (by omega)
  have hm : n % 128 + 128 < 256 := by omega
  refine enter Tryz.func54 rfl rfl ?_
  have L0 := Le.refl w
  refine WC.seq ?_
  refine WC.region ?_
  refine W.any (.assign rfl) rfl rfl rfl ?_
  refine W.nil ?_
  refine E.thenN ?_
  refine WC.seq ?_
  refine WC.seq ?_
  refine WC.region ?_
  refine W.any (.move rfl) rfl rfl rfl ?_
  refine W.any (.lss rfl rfl) rfl rfl rfl ?_
  refine W.nil ?_
  refine E.thenN ?_
  by_cases c0 : ((n : Nat) : Int) < 128
  · refine WC.condY rfl (decide_eq_true c0) ?_
    refine WC.seq ?_
    refine WC.region ?_
    refine W.any (.move rfl) rfl rfl rfl ?_
    refine W.rd (.toU8 n (isS Tryz.underlying3) Tryz.underlying5 rfl (by omega)) rfl rfl rfl ?_
    refine W.ef rfl rfl rfl ?_
    refine Ef.buildSliceV (len := 1) [_] Tryz.underlying64 el5 rfl (by simp [Value.cells, u8v]) rfl (by decide) (by decide) ?_
    intro g2_2 w2_2 hg2_2 b2_2 h2_2
    have L1 := L0.trans h2_2
    have b2_2 : Blk w2_2 g2_2 5 (([BitVec.ofNat 8 n]).map byteV).flatten.toArray := b2_2
    have o2_2 : OVec w2_2 w.heap.size 5 byteV 1 (some ⟨g2_2, 0, none⟩) 1 1 ([BitVec.ofNat 8 n]) := b2_2.ovec hg2_2 byteV_row rfl rfl (by decide)
    refine W.any (.assign rfl) rfl rfl rfl ?_
    refine W.nil ?_
    refine E.thenN ?_
    refine WC.ret ?_
    refine E.thenR ?_
    refine E.retG1 rfl rfl ?_
    have e : rowN n = [BitVec.ofNat 8 n] := rowN_end (by omega); exact ⟨_, _, by rw [e]; rfl, (o2_2.mono L0.size).cast (by rw [e]; rfl) e.symm, L1⟩
  · refine WC.condN rfl (decide_eq_false c0) ?_
    refine WC.skip ?_
    refine E.thenN ?_
    refine WC.seq ?_
    refine WC.region ?_
    refine W.any (.move rfl) rfl rfl rfl ?_
    refine W.any (.rem rfl rfl (by omega)) rfl rfl rfl ?_
    refine W.rd (.toU8 (n % 128) (isS Tryz.underlying3) Tryz.underlying5 rfl (by omega)) rfl rfl rfl ?_
    refine W.any (addByte (k := 128) rfl rfl hm) rfl rfl rfl ?_
    refine W.ef rfl rfl rfl ?_
    refine Ef.buildSliceV (len := 1) [_] Tryz.underlying64 el5 rfl (by simp [Value.cells, u8v]) rfl (by decide) (by decide) ?_
    intro g3_4 w3_4 hg3_4 b3_4 h3_4
    have L2 := L0.trans h3_4
    have b3_4 : Blk w3_4 g3_4 5 (([BitVec.ofNat 8 (n % 128 + 128)]).map byteV).flatten.toArray := b3_4
    have o3_4 : OVec w3_4 w.heap.size 5 byteV 1 (some ⟨g3_4, 0, none⟩) 1 1 ([BitVec.ofNat 8 (n % 128 + 128)]) := b3_4.ovec hg3_4 byteV_row rfl rfl (by decide)
    refine W.any (.assign rfl) rfl rfl rfl ?_
    refine W.nil ?_
    refine E.thenN ?_
    refine WC.seq ?_
    refine WC.region ?_
    refine W.any (.move rfl) rfl rfl rfl ?_
    refine W.any (.move rfl) rfl rfl rfl ?_
    refine W.any (.quo rfl rfl (by omega)) rfl rfl rfl ?_
    refine W.ef rfl rfl rfl ?_
    refine Ef.call go54 rfl rfl (ih (by omega) w3_4) ?_
    rintro _ w4_3 ⟨Ag4_3, cg4_3, rfl, o4_3, h4_3⟩
    refine ⟨_, rfl, ?_⟩
    have L3 := L2.trans h4_3
    have f4 := (o3_4.le h4_3)
    refine W.ef rfl rfl rfl ?_
    refine Ef.vcat Tryz.underlying64 el5 Tryz.underlying64 byteV_row rfl f4 rfl o4_3.vec (by omega) (by unfold maxLen; omega) (by have := h3_4.size; have := h4_3.size; omega) ?_
    intro A4_4 c4_4 w4_4 o4_4 h4_4 at4_4
    have L5 : Le w w4_4 := L3.then_ h4_4 (fun q hq => Nat.le_trans L0.size (f4.row hq).1)
    refine W.any (.assign rfl) rfl rfl rfl ?_
    refine W.nil ?_
    refine E.thenN ?_
    refine WC.seq ?_
    refine WC.region ?_
    refine W.any (.move rfl) rfl rfl rfl ?_
    refine W.any (.assign rfl) rfl rfl rfl ?_
    refine W.nil ?_
    refine E.thenN ?_
    refine WC.ret ?_
    refine E.retG1 rfl rfl ?_
    have e : rowN n = [BitVec.ofNat 8 (n % 128 + 128)] ++ rowN (n / 128) := rowN_more (by omega); have el : (rowN n).length = 1 + (rowN (n / 128)).length := (by rw [e]; simp; omega); exact ⟨_, _, by rw [el], (o4_4.mono L0.size).cast el.symm (by rw [e]), L5⟩

theorem rrow_ok (n : Nat) : n ≤ 9223372036854775807 → ∀ w : World, Calls Tryz.prog 54 #[.int .i64 ((n : Nat) : Int)] w (fun r w' => ∃ A' c', r = .returned (.slice A' (rowN n).length c') ∧ OVec w' w.heap.size 5 byteV 1 A' (rowN n).length c' (rowN n) ∧ Le w w') := by
  induction n using Nat.strongRecOn with
  | ind n ih =>
    intro hn w
    refine rrow_step n hn w (fun h w => ?_)
    have := ih (n / 128) (by omega) (by omega) w
    rwa [Int.natCast_ediv] at this

theorem rput_ok (i : Nat) (hi : i ≤ 9223372036854775807) {A : Option Addr} {n c : Nat} {xs : List (BitVec 8)} (w : World) (hV : Vec w byteV 1 A n xs) (hn : n ≤ 100000) : Calls Tryz.prog 31 #[.slice A n c, .int .i64 (((i : Nat) : Int))] w fun r w' => ∃ A' c', r = .returned (.slice A' (xs ++ rowN i).length c') ∧ OVec w' w.heap.size 5 byteV 1 A' (xs ++ rowN i).length c' (xs ++ rowN i) ∧ Le w w' := by
  have hl := hV.1
  have hrl := rowN_length i (by omega)
  refine enter Tryz.func31 rfl rfl ?_
  have L0 := Le.refl w
  refine WC.seq ?_
  refine WC.region ?_
  refine W.any (.assign rfl) rfl rfl rfl ?_
  refine W.nil ?_
  refine E.thenN ?_
  refine WC.seq ?_
  refine WC.region ?_
  refine W.ef rfl rfl rfl ?_
  refine Ef.buildSlice0 Tryz.underlying64 el5 ?_
  intro g1_0 w1_0 hg1_0 b1_0 h1_0
  have L1 := L0.trans h1_0
  have o1_0 : OVec w1_0 w.heap.size 5 byteV 1 (some ⟨g1_0, 0, none⟩) 0 0 [] := OVec.nil _ _ _ _ _ _
  refine W.any (.move rfl) rfl rfl rfl ?_
  refine W.ef rfl rfl rfl ?_
  refine Ef.vcat Tryz.underlying64 el5 Tryz.underlying64 byteV_row rfl o1_0 rfl (hV.le L1) (by omega) (by unfold maxLen; omega) (by have := h1_0.size; omega) ?_
  intro A1_2 c1_2 w1_2 o1_2 h1_2 at1_2
  have L2 : Le w w1_2 := L1.then_ h1_2 (fun q hq => Nat.le_trans L0.size (o1_0.row hq).1)
  refine W.any (.assign rfl) rfl rfl rfl ?_
  refine W.nil ?_
  refine E.thenN ?_
  refine WC.seq ?_
  refine WC.seq ?_
  refine WC.region ?_
  refine W.any (.move rfl) rfl rfl rfl ?_
  refine W.any (.geq rfl rfl) rfl rfl rfl ?_
  refine W.nil ?_
  refine E.thenN ?_
  refine WC.condY rfl (decide_eq_true (by omega)) ?_
  refine WC.region ?_
  refine W.any (.move rfl) rfl rfl rfl ?_
  refine W.any (.move rfl) rfl rfl rfl ?_
  refine W.ef rfl rfl rfl ?_
  refine Ef.call go54 rfl rfl (rrow_ok i (by omega) w1_2) ?_
  rintro _ w3_2 ⟨Ag3_2, cg3_2, rfl, o3_2, h3_2⟩
  refine ⟨_, rfl, ?_⟩
  have L3 := L2.trans h3_2
  have f4 := (o1_2.le h3_2)
  refine W.ef rfl rfl rfl ?_
  refine Ef.vcat Tryz.underlying64 el5 Tryz.underlying64 byteV_row rfl f4 rfl o3_2.vec (by omega) (by unfold maxLen; omega) (by have := h1_0.size; have := h1_2.size; have := h3_2.size; omega) ?_
  intro A3_3 c3_3 w3_3 o3_3 h3_3 at3_3
  have L5 : Le w w3_3 := L3.then_ h3_3 (fun q hq => Nat.le_trans L0.size (f4.row hq).1)
  refine W.any (.assign rfl) rfl rfl rfl ?_
  refine W.nil ?_
  refine E.thenN ?_
  refine WC.seq ?_
  refine WC.region ?_
  refine W.any (.move rfl) rfl rfl rfl ?_
  refine W.any (.assign rfl) rfl rfl rfl ?_
  refine W.nil ?_
  refine E.thenN ?_
  refine WC.ret ?_
  refine E.retG1 rfl rfl ?_
  have el : (xs ++ rowN i).length = ((0 + n) + (rowN i).length) := (by simp; omega); exact ⟨_, _, by rw [el], (o3_3.mono L0.size).cast el.symm (by simp), L5⟩

theorem rfadd_ok (a b : Nat) (w : World) : Calls Tryz.prog 89 #[.int .u64 (((a : Nat) : Int)), .int .u64 (((b : Nat) : Int))] w fun r w' => r = .returned (.int .u64 ((addS a b : Nat) : Int)) ∧ Le w w' := by
  have hq : q = 2305843009213688669 := rfl
  have ha := Nat.mod_lt a (show 0 < q by decide)
  have hb := Nat.mod_lt b (show 0 < q by decide)
  refine enter Tryz.func89 rfl rfl ?_
  have L0 := Le.refl w
  refine WC.seq ?_
  refine WC.region ?_
  refine W.any (.assign rfl) rfl rfl rfl ?_
  refine W.nil ?_
  refine E.thenN ?_
  refine WC.seq ?_
  refine WC.region ?_
  refine W.any (.move rfl) rfl rfl rfl ?_
  refine W.ef rfl rfl rfl ?_
  refine Ef.call go121 rfl rfl (rof_ok a w) ?_
  rintro _ w1_1 ⟨rfl, h1_1⟩
  refine ⟨_, rfl, ?_⟩
  have L1 := L0.trans h1_1
  refine W.any (.move rfl) rfl rfl rfl ?_
  refine W.ef rfl rfl rfl ?_
  refine Ef.call go121 rfl rfl (rof_ok b w1_1) ?_
  rintro _ w1_3 ⟨rfl, h1_3⟩
  refine ⟨_, rfl, ?_⟩
  have L2 := L1.trans h1_3
  refine W.any (.addN (a % q) (b % q) ((a % q) + (b % q)) rfl rfl rfl rfl (by omega)) rfl rfl rfl ?_
  refine W.any (.remN ((a % q) + (b % q)) 2305843009213688669 (addS a b) rfl rfl rfl rfl (by omega) (by unfold addS; rw [← hq, ← Nat.add_mod])) rfl rfl rfl ?_
  refine W.any (.assign rfl) rfl rfl rfl ?_
  refine W.nil ?_
  refine E.thenN ?_
  refine WC.ret ?_
  refine E.retG1 rfl rfl ?_
  exact ⟨rfl, L2⟩

theorem radd_ok (a b : Nat) (ha : a < 18446744073709551616) (hb : b < 18446744073709551616) (w : World) : Calls Tryz.prog 86 #[.int .u64 (((a : Nat) : Int)), .int .u64 (((b : Nat) : Int))] w fun r w' => r = .returned (.int .u64 ((addP a b : Nat) : Int)) ∧ Le w w' := by
  refine enter Tryz.func86 rfl rfl ?_
  have L0 := Le.refl w
  refine WC.seq ?_
  refine WC.region ?_
  refine W.any (.assign rfl) rfl rfl rfl ?_
  refine W.nil ?_
  refine E.thenN ?_
  refine WC.seq ?_
  refine WC.region ?_
  refine W.any (.move rfl) rfl rfl rfl ?_
  refine W.ef rfl rfl rfl ?_
  refine Ef.call go118 rfl rfl (rtaken_ok a (by first | assumption | omega | decide) w) ?_
  rintro _ w1_1 ⟨rfl, h1_1⟩
  refine ⟨_, rfl, ?_⟩
  have L1 := L0.trans h1_1
  refine W.any (.move rfl) rfl rfl rfl ?_
  refine W.ef rfl rfl rfl ?_
  refine Ef.call go118 rfl rfl (rtaken_ok b (by first | assumption | omega | decide) w1_1) ?_
  rintro _ w1_3 ⟨rfl, h1_3⟩
  refine ⟨_, rfl, ?_⟩
  have L2 := L1.trans h1_3
  refine W.ef rfl rfl rfl ?_
  refine Ef.call go117 rfl rfl (rtimes_ok (taken a) (taken b) (taken_M _) (taken_lt _) w1_3) ?_
  rintro _ w1_4 ⟨rfl, h1_4⟩
  refine ⟨_, rfl, ?_⟩
  have L3 := L2.trans h1_4
  refine W.any (.assign rfl) rfl rfl rfl ?_
  refine W.nil ?_
  refine E.thenN ?_
  refine WC.ret ?_
  refine E.retG1 rfl rfl ?_
  exact ⟨rfl, L3⟩

theorem rkey_ok (k : Nat) (w : World) : Calls Tryz.prog 61 #[.int .u64 (((k : Nat) : Int))] w fun r w' => r = .returned (.bool (keyB k)) ∧ Le w w' := by
  refine enter Tryz.func61 rfl rfl ?_
  have L0 := Le.refl w
  refine WC.seq ?_
  refine WC.region ?_
  refine W.any (.assign rfl) rfl rfl rfl ?_
  refine W.nil ?_
  refine E.thenN ?_
  refine WC.seq ?_
  refine WC.region ?_
  refine W.any (.move rfl) rfl rfl rfl ?_
  refine W.ef rfl rfl rfl ?_
  refine Ef.call go85 rfl rfl (rfright_ok k w) ?_
  rintro _ w1_1 ⟨rfl, h1_1⟩
  refine ⟨_, rfl, ?_⟩
  have L1 := L0.trans h1_1
  by_cases q1_2 : k < q
  · refine W.any (.dec (.move rfl) (decide_eq_true q1_2)) rfl rfl rfl ?_
    refine W.rdg (Any.rd (.move rfl) _) rfl rfl rfl (rfl) rfl rfl ?_
    refine W.rdg (Any.rd (.neq rfl rfl) _) rfl rfl rfl (rfl) rfl rfl ?_
    refine W.any (.pickT rfl rfl rfl) rfl rfl rfl ?_
    refine W.any (.assign rfl) rfl rfl rfl ?_
    refine W.nil ?_
    refine E.thenN ?_
    refine WC.ret ?_
    refine E.retG1 rfl rfl ?_
    exact ⟨(by first | rfl | (simp [keyB, q1_2]; done) | (simp [keyB, q1_2]; omega) | (simp [keyB, q1_2]; split <;> first | (exfalso; omega) | (simp; done) | (simp; omega))), L1⟩
  · refine W.any (.dec (.move rfl) (decide_eq_false q1_2)) rfl rfl rfl ?_
    refine W.skip rfl rfl rfl (rfl) rfl rfl ?_
    refine W.skip rfl rfl rfl (rfl) rfl rfl ?_
    refine W.any (.pickF rfl rfl rfl) rfl rfl rfl ?_
    refine W.any (.assign rfl) rfl rfl rfl ?_
    refine W.nil ?_
    refine E.thenN ?_
    refine WC.ret ?_
    refine E.retG1 rfl rfl ?_
    exact ⟨(by first | rfl | (simp [keyB, q1_2]; done) | (simp [keyB, q1_2]; omega) | (simp [keyB, q1_2]; split <;> first | (exfalso; omega) | (simp; done) | (simp; omega))), L1⟩

theorem reight_ok (p : Nat) (w : World) (hp : p < 18446744073709551616) : Calls Tryz.prog 120 #[.int .u64 (((p : Nat) : Int))] w fun e w' => ∃ A' c', e = .returned (.slice A' (8) c') ∧ Own w' w.heap.size 5 1 A' (8) c' ((be8 p).map u8v) ∧ Le w w' := by
  refine enter Tryz.func120 rfl rfl ?_
  have L0 := Le.refl w
  refine WC.seq ?_
  refine WC.region ?_
  refine W.any (.assign rfl) rfl rfl rfl ?_
  refine W.nil ?_
  refine E.thenN ?_
  refine WC.seq ?_
  refine WC.region ?_
  refine W.any (.move rfl) rfl rfl rfl ?_
  refine W.ef rfl rfl rfl ?_
  refine Ef.call go55 rfl rfl (rlong_ok p w (by first | assumption | omega | decide)) ?_
  rintro _ w1_1 ⟨Ag1_1, cg1_1, rfl, ou1_1, h1_1⟩
  refine ⟨_, rfl, ?_⟩
  have L1 := L0.trans h1_1
  have o1_1 := byte_ovec ou1_1
  refine W.any (.assign rfl) rfl rfl rfl ?_
  refine W.nil ?_
  refine E.thenN ?_
  refine WC.ret ?_
  refine E.retG1 rfl rfl ?_
  exact ⟨_, _, rfl, ((o1_1.mono L0.size)).own, L1⟩

theorem rchal_ok (rr p : Nat) (m : List (BitVec 8)) (hm : m.length = 32) (hr : rr < 18446744073709551616) (hp : p < 18446744073709551616) (w : World) : Calls Tryz.prog 88 #[.int .u64 (((rr : Nat) : Int)), .int .u64 (((p : Nat) : Int)), .agg (m.map u8v).toArray] w fun r w' => r = .returned (.int .u64 ((chalB rr p m : Nat) : Int)) ∧ Le w w' := by
  refine enter Tryz.func88 rfl rfl ?_
  have L0 := Le.refl w
  refine WC.seq ?_
  refine WC.region ?_
  refine W.ef rfl rfl rfl ?_
  refine Ef.boxA rfl ?_
  intro g0_0 w0_0 hg0_0 b0_0 h0_0
  have L1 := L0.trans h0_0
  have b0_0 : Blk w0_0 g0_0 33 (m.map u8v).toArray := b0_0
  refine W.any (.assign rfl) rfl rfl rfl ?_
  refine W.nil ?_
  refine E.thenN ?_
  refine WC.seq ?_
  refine WC.draw [0, 2, 4, 1, 3, 5, 6, 7, 8] mixed (by kernel_rfl) ?_
  intro w1 d1
  have L2 := L1.trans d1
  refine G.any rfl rfl (.move rfl) rfl rfl rfl ?_
  refine G.any rfl rfl (.move rfl) rfl rfl rfl ?_
  refine G.any rfl rfl (.cutArr Tryz.underlying33 sz5 rfl) rfl rfl rfl ?_
  refine G.ef rfl rfl rfl rfl rfl ?_
  refine Ef.call go120 rfl rfl (reight_ok rr w1 (by first | assumption | omega | decide)) ?_
  rintro _ w1_1 ⟨Ag1_1, cg1_1, rfl, ou1_1, h1_1⟩
  refine ⟨_, rfl, ?_⟩
  refine ⟨fun _ => h1_1, ?_⟩
  have L3 := L2.trans h1_1
  have o1_1 := byte_ovec ou1_1
  refine G.ef rfl rfl rfl rfl rfl ?_
  refine Ef.call go120 rfl rfl (reight_ok p w1_1 (by first | assumption | omega | decide)) ?_
  rintro _ w1_3 ⟨Ag1_3, cg1_3, rfl, ou1_3, h1_3⟩
  refine ⟨_, rfl, ?_⟩
  refine ⟨fun _ => h1_3, ?_⟩
  have L4 := L3.trans h1_3
  have o1_3 := byte_ovec ou1_3
  refine G.ef rfl rfl rfl rfl rfl ?_
  refine Ef.buildSliceN [_, _, _] Tryz.underlying91 el64 rfl (by intro v hv; simp at hv; rcases hv with rfl | rfl | rfl <;> rfl) rfl (by decide) (by decide) ?_
  intro g1_5 w1_5 hg1_5 b1_5 h1_5
  refine ⟨fun _ => h1_5, ?_⟩
  have L5 := L4.trans h1_5
  have b1_5 : Blk w1_5 g1_5 64 #[.slice Ag1_1 8 cg1_1, .slice Ag1_3 8 cg1_3, .slice (some ⟨g0_0, 0, none⟩) 32 32] := b1_5
  have f6 := (o1_1.le (h1_3.trans h1_5))
  have f7 := (o1_3.le h1_5)
  have f8 := (b0_0.le (d1.trans (h1_1.trans (h1_3.trans h1_5))))
  refine G.ef rfl rfl rfl rfl rfl ?_
  refine Ef.call go32 rfl rfl (rtag_ok _ nSig w1_5 (ps := [(be8 rr), (be8 p), m]) rfl (b1_5.sl (s := 1) (n := 3) rfl) (.cons (byte_sb f6.vec) (.cons (byte_sb f7.vec) (.cons (f8.sb hm) (.nil _)))) (by simp [tagBytes, be8_length, hm]; decide)) ?_
  rintro _ w1_6 ⟨rfl, h1_6⟩
  refine ⟨_, rfl, ?_⟩
  refine ⟨fun _ => h1_6, ?_⟩
  have L9 := L5.trans h1_6
  refine G.ef rfl rfl rfl rfl rfl ?_
  refine Ef.call go62 rfl rfl (rfrom_ok (tag nSig [(be8 rr), (be8 p), m]) (tag_length _ _) w1_6) ?_
  rintro _ w1_7 ⟨rfl, h1_7⟩
  refine ⟨_, rfl, ?_⟩
  refine ⟨fun _ => h1_7, ?_⟩
  have L10 := L9.trans h1_7
  refine G.any rfl rfl (.assign rfl) rfl rfl rfl ?_
  refine G.nil ?_
  refine E.thenN ?_
  refine WC.ret ?_
  refine E.retG1 rfl rfl ?_
  exact ⟨rfl, L10⟩

theorem rmade_ok (k n : Nat) (m : List (BitVec 8)) (hm : m.length = 32) (t : Nat) (ht : t < 18446744073709551616) (w : World) : Calls Tryz.prog 63 #[.int .u64 (((k : Nat) : Int)), .int .u64 (((n : Nat) : Int)), .agg (m.map u8v).toArray, .int .u64 (((t : Nat) : Int))] w fun r w' => r = .returned (.agg (sigV (ansB k n m t)).toArray) ∧ Le w w' := by
  refine enter Tryz.func63 rfl rfl ?_
  have L0 := Le.refl w
  refine WC.seq ?_
  refine WC.region ?_
  refine W.ef rfl rfl rfl ?_
  refine Ef.boxA rfl ?_
  intro g0_0 w0_0 hg0_0 b0_0 h0_0
  have L1 := L0.trans h0_0
  have b0_0 : Blk w0_0 g0_0 33 (m.map u8v).toArray := b0_0
  refine W.ef rfl rfl rfl ?_
  refine Ef.allocA z37 ?_
  intro g0_1 w0_1 hg0_1 b0_1 h0_1
  have L2 := L1.trans h0_1
  have b0_1 : Blk w0_1 g0_1 37 (sigV noSig).toArray := b0_1
  refine W.nil ?_
  refine E.thenN ?_
  refine WC.seq ?_
  refine WC.region ?_
  refine W.any (.move rfl) rfl rfl rfl ?_
  refine W.ef rfl rfl rfl ?_
  refine Ef.call go87 rfl rfl (rbase_ok n w0_1) ?_
  rintro _ w1_1 ⟨rfl, h1_1⟩
  refine ⟨_, rfl, ?_⟩
  have L3 := L2.trans h1_1
  refine W.any (.move rfl) rfl rfl rfl ?_
  refine W.ef rfl rfl rfl ?_
  refine Ef.call go86 rfl rfl (radd_ok (base n) t (base_lt' _) (by first | assumption | omega | decide) w1_1) ?_
  rintro _ w1_3 ⟨rfl, h1_3⟩
  refine ⟨_, rfl, ?_⟩
  have L4 := L3.trans h1_3
  refine W.any (.assign rfl) rfl rfl rfl ?_
  refine W.nil ?_
  refine E.thenN ?_
  refine WC.seq ?_
  refine WC.draw [0, 1, 3, 2, 4, 5] mixed (by kernel_rfl) ?_
  intro w2 d2
  have L5 := L4.trans d2
  refine G.any rfl rfl (.move rfl) rfl rfl rfl ?_
  refine G.any rfl rfl (.move rfl) rfl rfl rfl ?_
  have f6 := (b0_0.le (h0_1.trans (h1_1.trans (h1_3.trans d2))))
  refine G.rd rfl rfl (.loadAll ag33 (by simp [hm]) rfl f6) rfl rfl rfl ?_
  refine G.ef rfl rfl rfl rfl rfl ?_
  refine Ef.call go87 rfl rfl (rbase_ok k w2) ?_
  rintro _ w2_2 ⟨rfl, h2_2⟩
  refine ⟨_, rfl, ?_⟩
  refine ⟨fun _ => h2_2, ?_⟩
  have L7 := L5.trans h2_2
  refine G.ef rfl rfl rfl rfl rfl ?_
  refine Ef.call go88 rfl rfl (rchal_ok (addP (base n) t) (base k) m hm (addP_lt' _ _) (base_lt' _) w2_2) ?_
  rintro _ w2_4 ⟨rfl, h2_4⟩
  refine ⟨_, rfl, ?_⟩
  refine ⟨fun _ => h2_4, ?_⟩
  have L8 := L7.trans h2_4
  refine G.any rfl rfl (.assign rfl) rfl rfl rfl ?_
  refine G.nil ?_
  refine E.thenN ?_
  refine WC.seq ?_
  refine WC.region ?_
  refine W.any (.move rfl) rfl rfl rfl ?_
  refine W.any (.move rfl) rfl rfl rfl ?_
  refine W.any (.move rfl) rfl rfl rfl ?_
  refine W.any (.move rfl) rfl rfl rfl ?_
  refine W.ef rfl rfl rfl ?_
  refine Ef.call go90 rfl rfl (rfmul_ok k (chalB (addP (base n) t) (base k) m) w2_4) ?_
  rintro _ w3_4 ⟨rfl, h3_4⟩
  refine ⟨_, rfl, ?_⟩
  have L9 := L8.trans h3_4
  refine W.ef rfl rfl rfl ?_
  refine Ef.call go89 rfl rfl (rfadd_ok n (mulS k (chalB (addP (base n) t) (base k) m)) w3_4) ?_
  rintro _ w3_5 ⟨rfl, h3_5⟩
  refine ⟨_, rfl, ?_⟩
  have L10 := L9.trans h3_5
  refine W.any (.buildP (sigV (Asp.Sig.mk (addP (base n) t) (addS n (mulS k (chalB (addP (base n) t) (base k) m))))) pl37 z37 rfl rfl) rfl rfl rfl ?_
  have f11 := (b0_1.le (h1_1.trans (h1_3.trans (d2.trans (h2_2.trans (h2_4.trans (h3_4.trans h3_5)))))))
  refine W.ef0 rfl rfl ?_
  refine Ef.storeAll sz37 (by rfl) rfl rfl f11 (by simp only [List.size_toArray, sigV_row.len]) (sigV_row.one (Asp.Sig.mk (addP (base n) t) (addS n (mulS k (chalB (addP (base n) t) (base k) m))))) ?_
  intro w3_7 b3_7 h3_7
  have b3_7 : Blk w3_7 g0_1 37 (sigV (Asp.Sig.mk (addP (base n) t) (addS n (mulS k (chalB (addP (base n) t) (base k) m))))).toArray := b3_7
  have L12 : Le w w3_7 := L10.then_ h3_7 (fun q hq => by cases hq; exact Nat.le_trans L1.size hg0_1)
  refine W.nil ?_
  refine E.thenN ?_
  refine WC.ret ?_
  refine E.retG1 rfl (resA rfl b3_7 ag37 (by rfl)) ?_
  exact ⟨by unfold ansB; rw [mulS_comm k], L12⟩

theorem rholds_ok (p : Nat) (m : List (BitVec 8)) (hm : m.length = 32) (s : Asp.Sig) (hp : p < 18446744073709551616) (hr : s.r < 18446744073709551616) (w : World) : Calls Tryz.prog 91 #[.int .u64 (((p : Nat) : Int)), .agg (m.map u8v).toArray, .int .u64 (1), .agg (sigV s).toArray] w fun r w' => r = .returned (.bool (verifyB p m s)) ∧ Le w w' := by
  refine enter Tryz.func91 rfl rfl ?_
  have L0 := Le.refl w
  refine WC.seq ?_
  refine WC.region ?_
  refine W.ef rfl rfl rfl ?_
  refine Ef.boxA rfl ?_
  intro g0_0 w0_0 hg0_0 b0_0 h0_0
  have L1 := L0.trans h0_0
  have b0_0 : Blk w0_0 g0_0 33 (m.map u8v).toArray := b0_0
  refine W.ef rfl rfl rfl ?_
  refine Ef.boxA rfl ?_
  intro g0_1 w0_1 hg0_1 b0_1 h0_1
  have L2 := L1.trans h0_1
  have b0_1 : Blk w0_1 g0_1 37 (sigV s).toArray := b0_1
  refine W.any (.assign rfl) rfl rfl rfl ?_
  refine W.nil ?_
  refine E.thenN ?_
  refine WC.seq ?_
  refine WC.region ?_
  refine W.any (.move rfl) rfl rfl rfl ?_
  refine W.ef rfl rfl rfl ?_
  refine Ef.call go122 rfl rfl (rpright_ok p (by first | assumption | omega | decide) w0_1) ?_
  rintro _ w1_1 ⟨rfl, h1_1⟩
  refine ⟨_, rfl, ?_⟩
  have L3 := L2.trans h1_1
  refine W.any (.assign rfl) rfl rfl rfl ?_
  refine W.nil ?_
  refine E.thenN ?_
  refine WC.seq ?_
  refine WC.region ?_
  refine W.any (.move rfl) rfl rfl rfl ?_
  refine W.ef rfl rfl rfl ?_
  refine Ef.call go122 rfl rfl (rpright_ok 1 (by first | assumption | omega | decide) w1_1) ?_
  rintro _ w2_1 ⟨rfl, h2_1⟩
  refine ⟨_, rfl, ?_⟩
  have L4 := L3.trans h2_1
  refine W.any (.assign rfl) rfl rfl rfl ?_
  refine W.nil ?_
  refine E.thenN ?_
  refine WC.seq ?_
  refine WC.region ?_
  refine W.any (.field0 fa37_0 rfl) rfl rfl rfl ?_
  have f5 := (b0_1.le (h1_1.trans h2_1))
  refine W.rd (.loadB (v := .int .u64 (((s.r : Nat) : Int))) na35 rfl f5 rfl) rfl rfl rfl ?_
  refine W.ef rfl rfl rfl ?_
  refine Ef.call go122 rfl rfl (rpright_ok s.r hr w2_1) ?_
  rintro _ w3_2 ⟨rfl, h3_2⟩
  refine ⟨_, rfl, ?_⟩
  have L6 := L4.trans h3_2
  refine W.any (.assign rfl) rfl rfl rfl ?_
  refine W.nil ?_
  refine E.thenN ?_
  refine WC.seq ?_
  refine WC.region ?_
  refine W.any (.field0 fa37_1 rfl) rfl rfl rfl ?_
  have f7 := (f5.le h3_2)
  refine W.rd (.loadB (v := .int .u64 (((s.s : Nat) : Int))) na29 rfl f7 rfl) rfl rfl rfl ?_
  refine W.ef rfl rfl rfl ?_
  refine Ef.call go85 rfl rfl (rfright_ok s.s w3_2) ?_
  rintro _ w4_2 ⟨rfl, h4_2⟩
  refine ⟨_, rfl, ?_⟩
  have L8 := L6.trans h4_2
  refine W.any (.assign rfl) rfl rfl rfl ?_
  refine W.nil ?_
  refine E.thenN ?_
  refine WC.seq ?_
  refine WC.seq ?_
  refine WC.region ?_
  refine W.any (.move rfl) rfl rfl rfl ?_
  refine W.any (.not rfl) rfl rfl rfl ?_
  by_cases q5_2 : (right p) = true
  · refine W.any (.dec (.move rfl) (congrArg not (q5_2))) rfl rfl rfl ?_
    refine W.rdg (Any.rd (.move rfl) _) rfl rfl rfl (rfl) rfl rfl ?_
    refine W.rdg (Any.rd (.not rfl) _) rfl rfl rfl (rfl) rfl rfl ?_
    refine W.any (.pickF rfl rfl rfl) rfl rfl rfl ?_
    by_cases q5_6 : (right 1) = true
    · refine W.any (.dec (.move rfl) (congrArg not (q5_6))) rfl rfl rfl ?_
      refine W.rdg (Any.rd (.move rfl) _) rfl rfl rfl (rfl) rfl rfl ?_
      refine W.rdg (Any.rd (.not rfl) _) rfl rfl rfl (rfl) rfl rfl ?_
      refine W.any (.pickF rfl rfl rfl) rfl rfl rfl ?_
      by_cases q5_10 : (right s.r) = true
      · refine W.any (.dec (.move rfl) (congrArg not (q5_10))) rfl rfl rfl ?_
        refine W.rdg (Any.rd (.move rfl) _) rfl rfl rfl (rfl) rfl rfl ?_
        refine W.rdg (Any.rd (.not rfl) _) rfl rfl rfl (rfl) rfl rfl ?_
        refine W.any (.pickF rfl rfl rfl) rfl rfl rfl ?_
        by_cases q5_14 : s.s < q
        · refine W.any (.dec (.move rfl) (congrArg not (decide_eq_true q5_14))) rfl rfl rfl ?_
          refine W.rdg (Any.rd (.move rfl) _) rfl rfl rfl (rfl) rfl rfl ?_
          refine W.rdg (Any.rd (.eql rfl rfl) _) rfl rfl rfl (rfl) rfl rfl ?_
          refine W.any (.pickF rfl rfl rfl) rfl rfl rfl ?_
          refine W.nil ?_
          refine E.thenN ?_
          by_cases c0 : ((p : Nat) : Int) = 1
          · refine WC.condY rfl (decide_eq_true c0) ?_
            refine WC.seq ?_
            refine WC.region ?_
            refine W.any (.assign rfl) rfl rfl rfl ?_
            refine W.nil ?_
            refine E.thenN ?_
            refine WC.ret ?_
            refine E.thenR ?_
            refine E.retG1 rfl rfl ?_
            exact ⟨congrArg (fun b => Ending.returned (Value.bool b)) (by unfold verifyB checksB; have hr1 : right 1 = true := right_one; first | (exact absurd hr1 (by assumption)) | (have hp1 : p = 1 := (by omega); simp [hp1]; done) | simp [hr1, Int.natCast_inj, q5_2, q5_6, q5_10, q5_14, c0]), L8⟩
          · refine WC.condN rfl (decide_eq_false c0) ?_
            refine WC.skip ?_
            refine E.thenN ?_
            refine WC.seq ?_
            refine WC.region ?_
            refine W.any (.field0 fa37_1 rfl) rfl rfl rfl ?_
            have f9 := (f7.le h4_2)
            refine W.rd (.loadB (v := .int .u64 (((s.s : Nat) : Int))) na29 rfl f9 rfl) rfl rfl rfl ?_
            refine W.ef rfl rfl rfl ?_
            refine Ef.call go87 rfl rfl (rbase_ok s.s w4_2) ?_
            rintro _ w7_2 ⟨rfl, h7_2⟩
            refine ⟨_, rfl, ?_⟩
            have L10 := L8.trans h7_2
            refine W.any (.move rfl) rfl rfl rfl ?_
            refine W.ef rfl rfl rfl ?_
            refine Ef.call go86 rfl rfl (radd_ok (base s.s) 1 (base_lt' _) (by first | assumption | omega | decide) w7_2) ?_
            rintro _ w7_4 ⟨rfl, h7_4⟩
            refine ⟨_, rfl, ?_⟩
            have L11 := L10.trans h7_4
            refine W.any (.assign rfl) rfl rfl rfl ?_
            refine W.nil ?_
            refine E.thenN ?_
            refine WC.seq ?_
            refine WC.draw [0, 1, 2, 3, 4, 5, 6, 7, 8, 9, 10] mixed (by kernel_rfl) ?_
            intro w8 d8
            have L12 := L11.trans d8
            refine G.any rfl rfl (.field0 fa37_0 rfl) rfl rfl rfl ?_
            have f13 := (f9.le (h7_2.trans (h7_4.trans d8)))
            refine G.rd rfl rfl (.loadB (v := .int .u64 (((s.r : Nat) : Int))) na35 rfl f13 rfl) rfl rfl rfl ?_
            refine G.any rfl rfl (.move rfl) rfl rfl rfl ?_
            refine G.any rfl rfl (.field0 fa37_0 rfl) rfl rfl rfl ?_
            refine G.rd rfl rfl (.loadB (v := .int .u64 (((s.r : Nat) : Int))) na35 rfl f13 rfl) rfl rfl rfl ?_
            refine G.any rfl rfl (.move rfl) rfl rfl rfl ?_
            have f14 := (b0_0.le (h0_1.trans (h1_1.trans (h2_1.trans (h3_2.trans (h4_2.trans (h7_2.trans (h7_4.trans d8))))))))
            refine G.rd rfl rfl (.loadAll ag33 (by simp [hm]) rfl f14) rfl rfl rfl ?_
            refine G.ef rfl rfl rfl rfl rfl ?_
            refine Ef.call go88 rfl rfl (rchal_ok s.r p m hm (by first | assumption | omega | decide) (by first | assumption | omega | decide) w8) ?_
            rintro _ w8_7 ⟨rfl, h8_7⟩
            refine ⟨_, rfl, ?_⟩
            refine ⟨fun _ => h8_7, ?_⟩
            have L15 := L12.trans h8_7
            refine G.ef rfl rfl rfl rfl rfl ?_
            refine Ef.call go119 rfl rfl (rscale_ok p (chalB s.r p m) (by first | assumption | omega | decide) w8_7) ?_
            rintro _ w8_8 ⟨rfl, h8_8⟩
            refine ⟨_, rfl, ?_⟩
            refine ⟨fun _ => h8_8, ?_⟩
            have L16 := L15.trans h8_8
            refine G.ef rfl rfl rfl rfl rfl ?_
            refine Ef.call go86 rfl rfl (radd_ok s.r (scale p (chalB s.r p m)) (by first | assumption | omega | decide) (scale_lt' _ _) w8_8) ?_
            rintro _ w8_9 ⟨rfl, h8_9⟩
            refine ⟨_, rfl, ?_⟩
            refine ⟨fun _ => h8_9, ?_⟩
            have L17 := L16.trans h8_9
            refine G.any rfl rfl (.assign rfl) rfl rfl rfl ?_
            refine G.nil ?_
            refine E.thenN ?_
            refine WC.seq ?_
            refine WC.region ?_
            refine W.any (.move rfl) rfl rfl rfl ?_
            refine W.any (.move rfl) rfl rfl rfl ?_
            refine W.any (.eql rfl rfl) rfl rfl rfl ?_
            refine W.any (.assign rfl) rfl rfl rfl ?_
            refine W.nil ?_
            refine E.thenN ?_
            refine WC.ret ?_
            refine E.retG1 rfl rfl ?_
            exact ⟨congrArg (fun b => Ending.returned (Value.bool b)) (by unfold verifyB checksB; have hr1 : right 1 = true := right_one; rw [← ver_eq]; have hp1 : ¬ p = 1 := (by omega); simp [hr1, hp1, Int.natCast_inj, q5_2, q5_6, q5_10, q5_14, c0]), L17⟩
        · refine W.any (.dec (.move rfl) (congrArg not (decide_eq_false q5_14))) rfl rfl rfl ?_
          refine W.skip rfl rfl rfl (rfl) rfl rfl ?_
          refine W.skip rfl rfl rfl (rfl) rfl rfl ?_
          refine W.any (.pickT rfl rfl rfl) rfl rfl rfl ?_
          refine W.nil ?_
          refine E.thenN ?_
          refine WC.condT rfl ?_
          refine WC.seq ?_
          refine WC.region ?_
          refine W.any (.assign rfl) rfl rfl rfl ?_
          refine W.nil ?_
          refine E.thenN ?_
          refine WC.ret ?_
          refine E.thenR ?_
          refine E.retG1 rfl rfl ?_
          exact ⟨congrArg (fun b => Ending.returned (Value.bool b)) (by unfold verifyB checksB; have hr1 : right 1 = true := right_one; first | (exact absurd hr1 (by assumption)) | (have hp1 : p = 1 := (by omega); simp [hp1]; done) | simp [hr1, Int.natCast_inj, q5_2, q5_6, q5_10, q5_14]), L8⟩
      · refine W.any (.dec (.move rfl) (congrArg not ((Bool.eq_false_iff.2 q5_10)))) rfl rfl rfl ?_
        refine W.skip rfl rfl rfl (rfl) rfl rfl ?_
        refine W.skip rfl rfl rfl (rfl) rfl rfl ?_
        refine W.any (.pickT rfl rfl rfl) rfl rfl rfl ?_
        refine W.any (.move rfl) rfl rfl rfl ?_
        refine W.skip rfl rfl rfl (rfl) rfl rfl ?_
        refine W.skip rfl rfl rfl (rfl) rfl rfl ?_
        refine W.any (.pickT rfl rfl rfl) rfl rfl rfl ?_
        refine W.nil ?_
        refine E.thenN ?_
        refine WC.condT rfl ?_
        refine WC.seq ?_
        refine WC.region ?_
        refine W.any (.assign rfl) rfl rfl rfl ?_
        refine W.nil ?_
        refine E.thenN ?_
        refine WC.ret ?_
        refine E.thenR ?_
        refine E.retG1 rfl rfl ?_
        exact ⟨congrArg (fun b => Ending.returned (Value.bool b)) (by unfold verifyB checksB; have hr1 : right 1 = true := right_one; first | (exact absurd hr1 (by assumption)) | (have hp1 : p = 1 := (by omega); simp [hp1]; done) | simp [hr1, Int.natCast_inj, q5_2, q5_6, q5_10]), L8⟩
    · refine W.any (.dec (.move rfl) (congrArg not ((Bool.eq_false_iff.2 q5_6)))) rfl rfl rfl ?_
      refine W.skip rfl rfl rfl (rfl) rfl rfl ?_
      refine W.skip rfl rfl rfl (rfl) rfl rfl ?_
      refine W.any (.pickT rfl rfl rfl) rfl rfl rfl ?_
      refine W.any (.move rfl) rfl rfl rfl ?_
      refine W.skip rfl rfl rfl (rfl) rfl rfl ?_
      refine W.skip rfl rfl rfl (rfl) rfl rfl ?_
      refine W.any (.pickT rfl rfl rfl) rfl rfl rfl ?_
      refine W.any (.move rfl) rfl rfl rfl ?_
      refine W.skip rfl rfl rfl (rfl) rfl rfl ?_
      refine W.skip rfl rfl rfl (rfl) rfl rfl ?_
      refine W.any (.pickT rfl rfl rfl) rfl rfl rfl ?_
      refine W.nil ?_
      refine E.thenN ?_
      refine WC.condT rfl ?_
      refine WC.seq ?_
      refine WC.region ?_
      refine W.any (.assign rfl) rfl rfl rfl ?_
      refine W.nil ?_
      refine E.thenN ?_
      refine WC.ret ?_
      refine E.thenR ?_
      refine E.retG1 rfl rfl ?_
      exact ⟨congrArg (fun b => Ending.returned (Value.bool b)) (by unfold verifyB checksB; have hr1 : right 1 = true := right_one; first | (exact absurd hr1 (by assumption)) | (have hp1 : p = 1 := (by omega); simp [hp1]; done) | simp [hr1, Int.natCast_inj, q5_2, q5_6]), L8⟩
  · refine W.any (.dec (.move rfl) (congrArg not ((Bool.eq_false_iff.2 q5_2)))) rfl rfl rfl ?_
    refine W.skip rfl rfl rfl (rfl) rfl rfl ?_
    refine W.skip rfl rfl rfl (rfl) rfl rfl ?_
    refine W.any (.pickT rfl rfl rfl) rfl rfl rfl ?_
    refine W.any (.move rfl) rfl rfl rfl ?_
    refine W.skip rfl rfl rfl (rfl) rfl rfl ?_
    refine W.skip rfl rfl rfl (rfl) rfl rfl ?_
    refine W.any (.pickT rfl rfl rfl) rfl rfl rfl ?_
    refine W.any (.move rfl) rfl rfl rfl ?_
    refine W.skip rfl rfl rfl (rfl) rfl rfl ?_
    refine W.skip rfl rfl rfl (rfl) rfl rfl ?_
    refine W.any (.pickT rfl rfl rfl) rfl rfl rfl ?_
    refine W.any (.move rfl) rfl rfl rfl ?_
    refine W.skip rfl rfl rfl (rfl) rfl rfl ?_
    refine W.skip rfl rfl rfl (rfl) rfl rfl ?_
    refine W.any (.pickT rfl rfl rfl) rfl rfl rfl ?_
    refine W.nil ?_
    refine E.thenN ?_
    refine WC.condT rfl ?_
    refine WC.seq ?_
    refine WC.region ?_
    refine W.any (.assign rfl) rfl rfl rfl ?_
    refine W.nil ?_
    refine E.thenN ?_
    refine WC.ret ?_
    refine E.thenR ?_
    refine E.retG1 rfl rfl ?_
    exact ⟨congrArg (fun b => Ending.returned (Value.bool b)) (by unfold verifyB checksB; have hr1 : right 1 = true := right_one; first | (exact absurd hr1 (by assumption)) | (have hp1 : p = 1 := (by omega); simp [hp1]; done) | simp [hr1, Int.natCast_inj, q5_2]), L8⟩

theorem rssign_ok (k : Nat) (m : List (BitVec 8)) (hm : m.length = 32) (hk : k < 18446744073709551616) (w : World) : Calls Tryz.prog 34 #[.int .u64 (((k : Nat) : Int)), .agg (m.map u8v).toArray] w fun r w' => r = .returned (.agg (sigV (signB k m)).toArray) ∧ Le w w' := by
  refine enter Tryz.func34 rfl rfl ?_
  have L0 := Le.refl w
  refine WC.seq ?_
  refine WC.region ?_
  refine W.ef rfl rfl rfl ?_
  refine Ef.boxA rfl ?_
  intro g0_0 w0_0 hg0_0 b0_0 h0_0
  have L1 := L0.trans h0_0
  have b0_0 : Blk w0_0 g0_0 33 (m.map u8v).toArray := b0_0
  refine W.ef rfl rfl rfl ?_
  refine Ef.allocA z37 ?_
  intro g0_1 w0_1 hg0_1 b0_1 h0_1
  have L2 := L1.trans h0_1
  have b0_1 : Blk w0_1 g0_1 37 (sigV noSig).toArray := b0_1
  refine W.nil ?_
  refine E.thenN ?_
  refine WC.seq ?_
  refine WC.seq ?_
  refine WC.region ?_
  refine W.any (.move rfl) rfl rfl rfl ?_
  refine W.ef rfl rfl rfl ?_
  refine Ef.call go61 rfl rfl (rkey_ok k w0_1) ?_
  rintro _ w1_1 ⟨rfl, h1_1⟩
  refine ⟨_, rfl, ?_⟩
  have L3 := L2.trans h1_1
  refine W.any (.not rfl) rfl rfl rfl ?_
  refine W.nil ?_
  refine E.thenN ?_
  by_cases c0 : (keyB k) = true
  · refine WC.condN rfl (congrArg not (c0)) ?_
    refine WC.skip ?_
    refine E.thenN ?_
    refine WC.seq ?_
    refine WC.draw [0, 2, 1, 3, 4, 5, 6] mixed (by kernel_rfl) ?_
    intro w3 d3
    have L4 := L3.trans d3
    refine G.any rfl rfl (.move rfl) rfl rfl rfl ?_
    refine G.any rfl rfl (.cutArr Tryz.underlying33 sz5 rfl) rfl rfl rfl ?_
    refine G.ef rfl rfl rfl rfl rfl ?_
    refine Ef.call go55 rfl rfl (rlong_ok k w3 (by first | assumption | omega | decide)) ?_
    rintro _ w3_1 ⟨Ag3_1, cg3_1, rfl, ou3_1, h3_1⟩
    refine ⟨_, rfl, ?_⟩
    refine ⟨fun _ => h3_1, ?_⟩
    have L5 := L4.trans h3_1
    have o3_1 := byte_ovec ou3_1
    refine G.ef rfl rfl rfl rfl rfl ?_
    refine Ef.buildSliceN [_, _] Tryz.underlying91 el64 rfl (by intro v hv; simp at hv; rcases hv with rfl | rfl <;> rfl) rfl (by decide) (by decide) ?_
    intro g3_3 w3_3 hg3_3 b3_3 h3_3
    refine ⟨fun _ => h3_3, ?_⟩
    have L6 := L5.trans h3_3
    have b3_3 : Blk w3_3 g3_3 64 #[.slice Ag3_1 8 cg3_1, .slice (some ⟨g0_0, 0, none⟩) 32 32] := b3_3
    have f7 := (o3_1.le h3_3)
    have f8 := (b0_0.le (h0_1.trans (h1_1.trans (d3.trans (h3_1.trans h3_3)))))
    refine G.ef rfl rfl rfl rfl rfl ?_
    refine Ef.call go32 rfl rfl (rtag_ok _ nNonce w3_3 (ps := [(be8 k), m]) rfl (b3_3.sl (s := 1) (n := 2) rfl) (.cons (byte_sb f7.vec) (.cons (f8.sb hm) (.nil _))) (by simp [tagBytes, be8_length, hm]; decide)) ?_
    rintro _ w3_4 ⟨rfl, h3_4⟩
    refine ⟨_, rfl, ?_⟩
    refine ⟨fun _ => h3_4, ?_⟩
    have L9 := L6.trans h3_4
    refine G.ef rfl rfl rfl rfl rfl ?_
    refine Ef.call go62 rfl rfl (rfrom_ok (tag nNonce [(be8 k), m]) (tag_length _ _) w3_4) ?_
    rintro _ w3_5 ⟨rfl, h3_5⟩
    refine ⟨_, rfl, ?_⟩
    refine ⟨fun _ => h3_5, ?_⟩
    have L10 := L9.trans h3_5
    refine G.any rfl rfl (.assign rfl) rfl rfl rfl ?_
    refine G.nil ?_
    refine E.thenN ?_
    refine WC.seq ?_
    refine WC.region ?_
    refine W.any (.move rfl) rfl rfl rfl ?_
    refine W.any (.move rfl) rfl rfl rfl ?_
    have f11 := (f8.le (h3_4.trans h3_5))
    refine W.rd (.loadAll ag33 (by simp [hm]) rfl f11) rfl rfl rfl ?_
    refine W.ef rfl rfl rfl ?_
    refine Ef.call go63 rfl rfl (rmade_ok k (fromB (tag nNonce [(be8 k), m])) m hm 1 (by first | assumption | omega | decide) w3_5) ?_
    rintro _ w4_3 ⟨rfl, h4_3⟩
    refine ⟨_, rfl, ?_⟩
    have L12 := L10.trans h4_3
    have f13 := (b0_1.le (h1_1.trans (d3.trans (h3_1.trans (h3_3.trans (h3_4.trans (h3_5.trans h4_3)))))))
    refine W.ef0 rfl rfl ?_
    refine Ef.storeAll sz37 (by rfl) rfl rfl f13 (by simp only [List.size_toArray, sigV_row.len]) (sigV_row.one (ansB k (fromB (tag nNonce [(be8 k), m])) m 1)) ?_
    intro w4_4 b4_4 h4_4
    have b4_4 : Blk w4_4 g0_1 37 (sigV (ansB k (fromB (tag nNonce [(be8 k), m])) m 1)).toArray := b4_4
    have L14 : Le w w4_4 := L12.then_ h4_4 (fun q hq => by cases hq; exact Nat.le_trans L1.size hg0_1)
    refine W.nil ?_
    refine E.thenN ?_
    refine WC.ret ?_
    refine E.retG1 rfl (resA rfl b4_4 ag37 (by rfl)) ?_
    exact ⟨(by first | rfl | (simp [signB, nonceB, noSig, c0]; done) | (simp [signB, nonceB, noSig, c0]; omega) | (simp [signB, nonceB, noSig, c0]; split <;> first | (exfalso; omega) | (simp; done) | (simp; omega))), L14⟩
  · refine WC.condY rfl (congrArg not ((Bool.eq_false_iff.2 c0))) ?_
    refine WC.seq ?_
    refine WC.region ?_
    refine W.any (.buildP (sigV noSig) pl37 z37 rfl rfl) rfl rfl rfl ?_
    have f15 := (b0_1.le h1_1)
    refine W.ef0 rfl rfl ?_
    refine Ef.storeAll sz37 (by rfl) rfl rfl f15 (by simp only [List.size_toArray, sigV_row.len]) (sigV_row.one noSig) ?_
    intro w2_1 b2_1 h2_1
    have b2_1 : Blk w2_1 g0_1 37 (sigV noSig).toArray := b2_1
    have L16 : Le w w2_1 := L3.then_ h2_1 (fun q hq => by cases hq; exact Nat.le_trans L1.size hg0_1)
    refine W.nil ?_
    refine E.thenN ?_
    refine WC.ret ?_
    refine E.thenR ?_
    refine E.retG1 rfl (resA rfl b2_1 ag37 (by rfl)) ?_
    exact ⟨(by first | rfl | (simp [signB, nonceB, noSig, c0]; done) | (simp [signB, nonceB, noSig, c0]; omega) | (simp [signB, nonceB, noSig, c0]; split <;> first | (exfalso; omega) | (simp; done) | (simp; omega))), L16⟩

theorem rsverify_ok (p : Nat) (m : List (BitVec 8)) (hm : m.length = 32) (s : Asp.Sig) (hp : p < 18446744073709551616) (hr : s.r < 18446744073709551616) (w : World) : Calls Tryz.prog 65 #[.int .u64 (((p : Nat) : Int)), .agg (m.map u8v).toArray, .agg (sigV s).toArray] w fun r w' => r = .returned (.bool (verifyB p m s)) ∧ Le w w' := by
  refine enter Tryz.func65 rfl rfl ?_
  have L0 := Le.refl w
  refine WC.seq ?_
  refine WC.region ?_
  refine W.ef rfl rfl rfl ?_
  refine Ef.boxA rfl ?_
  intro g0_0 w0_0 hg0_0 b0_0 h0_0
  have L1 := L0.trans h0_0
  have b0_0 : Blk w0_0 g0_0 33 (m.map u8v).toArray := b0_0
  refine W.ef rfl rfl rfl ?_
  refine Ef.boxA rfl ?_
  intro g0_1 w0_1 hg0_1 b0_1 h0_1
  have L2 := L1.trans h0_1
  have b0_1 : Blk w0_1 g0_1 37 (sigV s).toArray := b0_1
  refine W.any (.assign rfl) rfl rfl rfl ?_
  refine W.nil ?_
  refine E.thenN ?_
  refine WC.seq ?_
  refine WC.region ?_
  refine W.any (.move rfl) rfl rfl rfl ?_
  have f3 := (b0_0.le h0_1)
  refine W.rd (.loadAll ag33 (by simp [hm]) rfl f3) rfl rfl rfl ?_
  refine W.rd (.loadAll ag37 (by rfl) rfl b0_1) rfl rfl rfl ?_
  refine W.ef rfl rfl rfl ?_
  refine Ef.call go91 rfl rfl (rholds_ok p m hm s hp hr w0_1) ?_
  rintro _ w1_3 ⟨rfl, h1_3⟩
  refine ⟨_, rfl, ?_⟩
  have L4 := L2.trans h1_3
  refine W.any (.assign rfl) rfl rfl rfl ?_
  refine W.nil ?_
  refine E.thenN ?_
  refine WC.ret ?_
  refine E.retG1 rfl rfl ?_
  exact ⟨rfl, L4⟩

theorem rin_ok (n lo hi : Int) (w : World) : Calls Tryz.prog 27 #[.int .i64 (n), .int .i64 (lo), .int .i64 (hi)] w fun r w' => r = .returned (.bool (inB n lo hi)) ∧ Le w w' := by
  refine enter Tryz.func27 rfl rfl ?_
  have L0 := Le.refl w
  refine WC.seq ?_
  refine WC.region ?_
  refine W.any (.assign rfl) rfl rfl rfl ?_
  refine W.nil ?_
  refine E.thenN ?_
  refine WC.seq ?_
  refine WC.region ?_
  refine W.any (.move rfl) rfl rfl rfl ?_
  refine W.any (.move rfl) rfl rfl rfl ?_
  refine W.any (.geq rfl rfl) rfl rfl rfl ?_
  by_cases q1_3 : lo ≤ n
  · refine W.any (.dec (.move rfl) (decide_eq_true q1_3)) rfl rfl rfl ?_
    refine W.rdg (Any.rd (.move rfl) _) rfl rfl rfl (rfl) rfl rfl ?_
    refine W.rdg (Any.rd (.move rfl) _) rfl rfl rfl (rfl) rfl rfl ?_
    refine W.rdg (Any.rd (.leq rfl rfl) _) rfl rfl rfl (rfl) rfl rfl ?_
    refine W.any (.pickT rfl rfl rfl) rfl rfl rfl ?_
    refine W.any (.assign rfl) rfl rfl rfl ?_
    refine W.nil ?_
    refine E.thenN ?_
    refine WC.ret ?_
    refine E.retG1 rfl rfl ?_
    exact ⟨(by first | rfl | (simp [inB, q1_3]; done) | (simp [inB, q1_3]; omega) | (simp [inB, q1_3]; split <;> first | (exfalso; omega) | (simp; done) | (simp; omega))), L0⟩
  · refine W.any (.dec (.move rfl) (decide_eq_false q1_3)) rfl rfl rfl ?_
    refine W.skip rfl rfl rfl (rfl) rfl rfl ?_
    refine W.skip rfl rfl rfl (rfl) rfl rfl ?_
    refine W.skip rfl rfl rfl (rfl) rfl rfl ?_
    refine W.any (.pickF rfl rfl rfl) rfl rfl rfl ?_
    refine W.any (.assign rfl) rfl rfl rfl ?_
    refine W.nil ?_
    refine E.thenN ?_
    refine WC.ret ?_
    refine E.retG1 rfl rfl ?_
    exact ⟨(by first | rfl | (simp [inB, q1_3]; done) | (simp [inB, q1_3]; omega) | (simp [inB, q1_3]; split <;> first | (exfalso; omega) | (simp; done) | (simp; omega))), L0⟩

theorem raright_ok (e : Gsp.Edge) (w : World) : Calls Tryz.prog 6 #[.agg (edgeV e).toArray] w fun r w' => r = .returned (.bool (edgeA e)) ∧ Le w w' := by
  refine enter Tryz.func6 rfl rfl ?_
  have L0 := Le.refl w
  refine WC.seq ?_
  refine WC.region ?_
  refine W.ef rfl rfl rfl ?_
  refine Ef.boxA rfl ?_
  intro g0_0 w0_0 hg0_0 b0_0 h0_0
  have L1 := L0.trans h0_0
  have b0_0 : Blk w0_0 g0_0 27 (edgeV e).toArray := b0_0
  refine W.any (.assign rfl) rfl rfl rfl ?_
  refine W.nil ?_
  refine E.thenN ?_
  refine WC.seq ?_
  refine WC.region ?_
  refine W.any (.field0 fa27_4 rfl) rfl rfl rfl ?_
  refine W.rd (.bpart (polV e.pol) ag25 rfl (by decide) rfl b0_0 rfl) rfl rfl rfl ?_
  refine W.ef rfl rfl rfl ?_
  refine Ef.allocA z25 ?_
  intro g1_2 w1_2 hg1_2 b1_2 h1_2
  have L2 := L1.trans h1_2
  have b1_2 : Blk w1_2 g1_2 25 (polV noPol).toArray := b1_2
  refine W.ef0 rfl rfl ?_
  refine Ef.storeAll sz25 (by rfl) rfl rfl b1_2 (by simp only [List.size_toArray, polV_row.len]) (polV_row.one e.pol) ?_
  intro w1_3 b1_3 h1_3
  have b1_3 : Blk w1_3 g1_2 25 (polV e.pol).toArray := b1_3
  have L3 : Le w w1_3 := L2.then_ h1_3 (fun q hq => by cases hq; exact Nat.le_trans L1.size hg1_2)
  refine W.nil ?_
  refine E.thenN ?_
  refine WC.seq ?_
  refine WC.region ?_
  refine W.any (.field0 fa27_0 rfl) rfl rfl rfl ?_
  have f4 := ((b0_0.le h1_2).ch h1_3 (fun h => (show g1_2 ≠ g0_0 from by have := b0_0.lt; omega) (Option.some.inj h)))
  refine W.rd (.loadB (v := .int .i64 (e.f)) na3 rfl f4 rfl) rfl rfl rfl ?_
  refine W.ef rfl rfl rfl ?_
  refine Ef.call go27 rfl rfl (rin_ok e.f 0 11 w1_3) ?_
  rintro _ w2_2 ⟨rfl, h2_2⟩
  refine ⟨_, rfl, ?_⟩
  have L5 := L3.trans h2_2
  by_cases q2_3 : (inB e.f 0 11) = true
  · refine W.any (.dec (.move rfl) (q2_3)) rfl rfl rfl ?_
    refine W.rdg (Any.rd (.field0 fa27_1 rfl) _) rfl rfl rfl (rfl) rfl rfl ?_
    have f6 := (f4.le h2_2)
    refine W.rdg (.loadB (v := .int .i64 (e.t)) na3 rfl f6 rfl) rfl rfl rfl (rfl) rfl rfl ?_
    refine W.efg rfl rfl rfl (rfl) rfl rfl ?_
    refine Ef.call go27 rfl rfl (rin_ok e.t 0 11 w2_2) ?_
    rintro _ w2_6 ⟨rfl, h2_6⟩
    refine ⟨_, rfl, ?_⟩
    have L7 := L5.trans h2_6
    refine W.any (.pickT rfl rfl rfl) rfl rfl rfl ?_
    by_cases q2_8 : (inB e.t 0 11) = true
    · refine W.any (.dec (.move rfl) (q2_8)) rfl rfl rfl ?_
      refine W.rdg (Any.rd (.field0 fa27_0 rfl) _) rfl rfl rfl (rfl) rfl rfl ?_
      have f8 := (f6.le h2_6)
      refine W.rdg (.loadB (v := .int .i64 (e.f)) na3 rfl f8 rfl) rfl rfl rfl (rfl) rfl rfl ?_
      refine W.rdg (Any.rd (.field0 fa27_1 rfl) _) rfl rfl rfl (rfl) rfl rfl ?_
      refine W.rdg (.loadB (v := .int .i64 (e.t)) na3 rfl f8 rfl) rfl rfl rfl (rfl) rfl rfl ?_
      refine W.rdg (Any.rd (.neq rfl rfl) _) rfl rfl rfl (rfl) rfl rfl ?_
      refine W.any (.pickT rfl rfl rfl) rfl rfl rfl ?_
      by_cases q2_15 : e.f ≠ e.t
      · refine W.any (.dec (.move rfl) (decide_eq_true q2_15)) rfl rfl rfl ?_
        refine W.rdg (Any.rd (.field0 fa27_2 rfl) _) rfl rfl rfl (rfl) rfl rfl ?_
        refine W.rdg (.loadB (v := .int .i64 (e.c)) na3 rfl f8 rfl) rfl rfl rfl (rfl) rfl rfl ?_
        refine W.efg rfl rfl rfl (rfl) rfl rfl ?_
        refine Ef.call go27 rfl rfl (rin_ok e.c 0 39 w2_6) ?_
        rintro _ w2_18 ⟨rfl, h2_18⟩
        refine ⟨_, rfl, ?_⟩
        have L9 := L7.trans h2_18
        refine W.any (.pickT rfl rfl rfl) rfl rfl rfl ?_
        by_cases q2_20 : (inB e.c 0 39) = true
        · refine W.any (.dec (.move rfl) (q2_20)) rfl rfl rfl ?_
          refine W.rdg (Any.rd (.field0 fa27_3 rfl) _) rfl rfl rfl (rfl) rfl rfl ?_
          have f10 := (f8.le h2_18)
          refine W.rdg (.loadB (v := .int .i64 (e.r)) na3 rfl f10 rfl) rfl rfl rfl (rfl) rfl rfl ?_
          refine W.efg rfl rfl rfl (rfl) rfl rfl ?_
          refine Ef.call go27 rfl rfl (rin_ok e.r 1 1125899906842624 w2_18) ?_
          rintro _ w2_23 ⟨rfl, h2_23⟩
          refine ⟨_, rfl, ?_⟩
          have L11 := L9.trans h2_23
          refine W.any (.pickT rfl rfl rfl) rfl rfl rfl ?_
          by_cases q2_25 : (inB e.r 1 1125899906842624) = true
          · refine W.any (.dec (.move rfl) (q2_25)) rfl rfl rfl ?_
            refine W.rdg (Any.rd (.field0 fa25_0 rfl) _) rfl rfl rfl (rfl) rfl rfl ?_
            have f12 := (b1_3.le (h2_2.trans (h2_6.trans (h2_18.trans h2_23))))
            refine W.rdg (.loadB (v := .int .i64 (e.pol.b)) na3 rfl f12 rfl) rfl rfl rfl (rfl) rfl rfl ?_
            refine W.efg rfl rfl rfl (rfl) rfl rfl ?_
            refine Ef.call go27 rfl rfl (rin_ok e.pol.b 0 1125899906842624 w2_23) ?_
            rintro _ w2_28 ⟨rfl, h2_28⟩
            refine ⟨_, rfl, ?_⟩
            have L13 := L11.trans h2_28
            refine W.any (.pickT rfl rfl rfl) rfl rfl rfl ?_
            by_cases q2_30 : (inB e.pol.b 0 1125899906842624) = true
            · refine W.any (.dec (.move rfl) (q2_30)) rfl rfl rfl ?_
              refine W.rdg (Any.rd (.field0 fa25_1 rfl) _) rfl rfl rfl (rfl) rfl rfl ?_
              have f14 := (f12.le h2_28)
              refine W.rdg (.loadB (v := .int .i64 (e.pol.p)) na3 rfl f14 rfl) rfl rfl rfl (rfl) rfl rfl ?_
              refine W.efg rfl rfl rfl (rfl) rfl rfl ?_
              refine Ef.call go27 rfl rfl (rin_ok e.pol.p 0 1000000 w2_28) ?_
              rintro _ w2_33 ⟨rfl, h2_33⟩
              refine ⟨_, rfl, ?_⟩
              have L15 := L13.trans h2_33
              refine W.any (.pickT rfl rfl rfl) rfl rfl rfl ?_
              by_cases q2_35 : (inB e.pol.p 0 1000000) = true
              · refine W.any (.dec (.move rfl) (q2_35)) rfl rfl rfl ?_
                refine W.rdg (Any.rd (.field0 fa25_2 rfl) _) rfl rfl rfl (rfl) rfl rfl ?_
                have f16 := (f14.le h2_33)
                refine W.rdg (.loadB (v := .int .i64 (e.pol.d)) na3 rfl f16 rfl) rfl rfl rfl (rfl) rfl rfl ?_
                refine W.efg rfl rfl rfl (rfl) rfl rfl ?_
                refine Ef.call go27 rfl rfl (rin_ok e.pol.d 1 4096 w2_33) ?_
                rintro _ w2_38 ⟨rfl, h2_38⟩
                refine ⟨_, rfl, ?_⟩
                have L17 := L15.trans h2_38
                refine W.any (.pickT rfl rfl rfl) rfl rfl rfl ?_
                by_cases q2_40 : (inB e.pol.d 1 4096) = true
                · refine W.any (.dec (.move rfl) (q2_40)) rfl rfl rfl ?_
                  refine W.rdg (Any.rd (.field0 fa25_3 rfl) _) rfl rfl rfl (rfl) rfl rfl ?_
                  have f18 := (f16.le h2_38)
                  refine W.rdg (.loadB (v := .int .i64 (e.pol.l)) na3 rfl f18 rfl) rfl rfl rfl (rfl) rfl rfl ?_
                  refine W.rdg (Any.rd (.field0 fa25_4 rfl) _) rfl rfl rfl (rfl) rfl rfl ?_
                  refine W.rdg (.loadB (v := .int .i64 (e.pol.m)) na3 rfl f18 rfl) rfl rfl rfl (rfl) rfl rfl ?_
                  refine W.efg rfl rfl rfl (rfl) rfl rfl ?_
                  refine Ef.call go27 rfl rfl (rin_ok e.pol.l 1 e.pol.m w2_38) ?_
                  rintro _ w2_45 ⟨rfl, h2_45⟩
                  refine ⟨_, rfl, ?_⟩
                  have L19 := L17.trans h2_45
                  refine W.any (.pickT rfl rfl rfl) rfl rfl rfl ?_
                  by_cases q2_47 : (inB e.pol.l 1 e.pol.m) = true
                  · refine W.any (.dec (.move rfl) (q2_47)) rfl rfl rfl ?_
                    refine W.rdg (Any.rd (.field0 fa25_4 rfl) _) rfl rfl rfl (rfl) rfl rfl ?_
                    have f20 := (f18.le h2_45)
                    refine W.rdg (.loadB (v := .int .i64 (e.pol.m)) na3 rfl f20 rfl) rfl rfl rfl (rfl) rfl rfl ?_
                    refine W.rdg (Any.rd (.field0 fa27_3 rfl) _) rfl rfl rfl (rfl) rfl rfl ?_
                    have f21 := (f10.le (h2_23.trans (h2_28.trans (h2_33.trans (h2_38.trans h2_45)))))
                    refine W.rdg (.loadB (v := .int .i64 (e.r)) na3 rfl f21 rfl) rfl rfl rfl (rfl) rfl rfl ?_
                    refine W.efg rfl rfl rfl (rfl) rfl rfl ?_
                    refine Ef.call go27 rfl rfl (rin_ok e.pol.m 1 e.r w2_45) ?_
                    rintro _ w2_52 ⟨rfl, h2_52⟩
                    refine ⟨_, rfl, ?_⟩
                    have L22 := L19.trans h2_52
                    refine W.any (.pickT rfl rfl rfl) rfl rfl rfl ?_
                    refine W.any (.assign rfl) rfl rfl rfl ?_
                    refine W.nil ?_
                    refine E.thenN ?_
                    refine WC.ret ?_
                    refine E.retG1 rfl rfl ?_
                    exact ⟨congrArg (fun b => Ending.returned (Value.bool b)) (by have hl7 := inB_T.1 (show inB e.pol.l 1 e.pol.m = true by assumption); simp only [edgeA, q2_3, q2_8, q2_15, q2_20, q2_25, q2_30, q2_35, q2_40, q2_47, Bool.true_and]; rw [Bool.eq_iff_iff]; simp [inB]; omega), L22⟩
                  · refine W.any (.dec (.move rfl) ((Bool.eq_false_iff.2 q2_47))) rfl rfl rfl ?_
                    refine W.skip rfl rfl rfl (rfl) rfl rfl ?_
                    refine W.skip rfl rfl rfl (rfl) rfl rfl ?_
                    refine W.skip rfl rfl rfl (rfl) rfl rfl ?_
                    refine W.skip rfl rfl rfl (rfl) rfl rfl ?_
                    refine W.skip rfl rfl rfl (rfl) rfl rfl ?_
                    refine W.any (.pickF rfl rfl rfl) rfl rfl rfl ?_
                    refine W.any (.assign rfl) rfl rfl rfl ?_
                    refine W.nil ?_
                    refine E.thenN ?_
                    refine WC.ret ?_
                    refine E.retG1 rfl rfl ?_
                    exact ⟨congrArg (fun b => Ending.returned (Value.bool b)) (by simp [edgeA, q2_3, q2_8, q2_15, q2_20, q2_25, q2_30, q2_35, q2_40, q2_47]), L19⟩
                · refine W.any (.dec (.move rfl) ((Bool.eq_false_iff.2 q2_40))) rfl rfl rfl ?_
                  refine W.skip rfl rfl rfl (rfl) rfl rfl ?_
                  refine W.skip rfl rfl rfl (rfl) rfl rfl ?_
                  refine W.skip rfl rfl rfl (rfl) rfl rfl ?_
                  refine W.skip rfl rfl rfl (rfl) rfl rfl ?_
                  refine W.skip rfl rfl rfl (rfl) rfl rfl ?_
                  refine W.any (.pickF rfl rfl rfl) rfl rfl rfl ?_
                  refine W.any (.move rfl) rfl rfl rfl ?_
                  refine W.skip rfl rfl rfl (rfl) rfl rfl ?_
                  refine W.skip rfl rfl rfl (rfl) rfl rfl ?_
                  refine W.skip rfl rfl rfl (rfl) rfl rfl ?_
                  refine W.skip rfl rfl rfl (rfl) rfl rfl ?_
                  refine W.skip rfl rfl rfl (rfl) rfl rfl ?_
                  refine W.any (.pickF rfl rfl rfl) rfl rfl rfl ?_
                  refine W.any (.assign rfl) rfl rfl rfl ?_
                  refine W.nil ?_
                  refine E.thenN ?_
                  refine WC.ret ?_
                  refine E.retG1 rfl rfl ?_
                  exact ⟨congrArg (fun b => Ending.returned (Value.bool b)) (by simp [edgeA, q2_3, q2_8, q2_15, q2_20, q2_25, q2_30, q2_35, q2_40]), L17⟩
              · refine W.any (.dec (.move rfl) ((Bool.eq_false_iff.2 q2_35))) rfl rfl rfl ?_
                refine W.skip rfl rfl rfl (rfl) rfl rfl ?_
                refine W.skip rfl rfl rfl (rfl) rfl rfl ?_
                refine W.skip rfl rfl rfl (rfl) rfl rfl ?_
                refine W.any (.pickF rfl rfl rfl) rfl rfl rfl ?_
                refine W.any (.move rfl) rfl rfl rfl ?_
                refine W.skip rfl rfl rfl (rfl) rfl rfl ?_
                refine W.skip rfl rfl rfl (rfl) rfl rfl ?_
                refine W.skip rfl rfl rfl (rfl) rfl rfl ?_
                refine W.skip rfl rfl rfl (rfl) rfl rfl ?_
                refine W.skip rfl rfl rfl (rfl) rfl rfl ?_
                refine W.any (.pickF rfl rfl rfl) rfl rfl rfl ?_
                refine W.any (.move rfl) rfl rfl rfl ?_
                refine W.skip rfl rfl rfl (rfl) rfl rfl ?_
                refine W.skip rfl rfl rfl (rfl) rfl rfl ?_
                refine W.skip rfl rfl rfl (rfl) rfl rfl ?_
                refine W.skip rfl rfl rfl (rfl) rfl rfl ?_
                refine W.skip rfl rfl rfl (rfl) rfl rfl ?_
                refine W.any (.pickF rfl rfl rfl) rfl rfl rfl ?_
                refine W.any (.assign rfl) rfl rfl rfl ?_
                refine W.nil ?_
                refine E.thenN ?_
                refine WC.ret ?_
                refine E.retG1 rfl rfl ?_
                exact ⟨congrArg (fun b => Ending.returned (Value.bool b)) (by simp [edgeA, q2_3, q2_8, q2_15, q2_20, q2_25, q2_30, q2_35]), L15⟩
            · refine W.any (.dec (.move rfl) ((Bool.eq_false_iff.2 q2_30))) rfl rfl rfl ?_
              refine W.skip rfl rfl rfl (rfl) rfl rfl ?_
              refine W.skip rfl rfl rfl (rfl) rfl rfl ?_
              refine W.skip rfl rfl rfl (rfl) rfl rfl ?_
              refine W.any (.pickF rfl rfl rfl) rfl rfl rfl ?_
              refine W.any (.move rfl) rfl rfl rfl ?_
              refine W.skip rfl rfl rfl (rfl) rfl rfl ?_
              refine W.skip rfl rfl rfl (rfl) rfl rfl ?_
              refine W.skip rfl rfl rfl (rfl) rfl rfl ?_
              refine W.any (.pickF rfl rfl rfl) rfl rfl rfl ?_
              refine W.any (.move rfl) rfl rfl rfl ?_
              refine W.skip rfl rfl rfl (rfl) rfl rfl ?_
              refine W.skip rfl rfl rfl (rfl) rfl rfl ?_
              refine W.skip rfl rfl rfl (rfl) rfl rfl ?_
              refine W.skip rfl rfl rfl (rfl) rfl rfl ?_
              refine W.skip rfl rfl rfl (rfl) rfl rfl ?_
              refine W.any (.pickF rfl rfl rfl) rfl rfl rfl ?_
              refine W.any (.move rfl) rfl rfl rfl ?_
              refine W.skip rfl rfl rfl (rfl) rfl rfl ?_
              refine W.skip rfl rfl rfl (rfl) rfl rfl ?_
              refine W.skip rfl rfl rfl (rfl) rfl rfl ?_
              refine W.skip rfl rfl rfl (rfl) rfl rfl ?_
              refine W.skip rfl rfl rfl (rfl) rfl rfl ?_
              refine W.any (.pickF rfl rfl rfl) rfl rfl rfl ?_
              refine W.any (.assign rfl) rfl rfl rfl ?_
              refine W.nil ?_
              refine E.thenN ?_
              refine WC.ret ?_
              refine E.retG1 rfl rfl ?_
              exact ⟨congrArg (fun b => Ending.returned (Value.bool b)) (by simp [edgeA, q2_3, q2_8, q2_15, q2_20, q2_25, q2_30]), L13⟩
          · refine W.any (.dec (.move rfl) ((Bool.eq_false_iff.2 q2_25))) rfl rfl rfl ?_
            refine W.skip rfl rfl rfl (rfl) rfl rfl ?_
            refine W.skip rfl rfl rfl (rfl) rfl rfl ?_
            refine W.skip rfl rfl rfl (rfl) rfl rfl ?_
            refine W.any (.pickF rfl rfl rfl) rfl rfl rfl ?_
            refine W.any (.move rfl) rfl rfl rfl ?_
            refine W.skip rfl rfl rfl (rfl) rfl rfl ?_
            refine W.skip rfl rfl rfl (rfl) rfl rfl ?_
            refine W.skip rfl rfl rfl (rfl) rfl rfl ?_
            refine W.any (.pickF rfl rfl rfl) rfl rfl rfl ?_
            refine W.any (.move rfl) rfl rfl rfl ?_
            refine W.skip rfl rfl rfl (rfl) rfl rfl ?_
            refine W.skip rfl rfl rfl (rfl) rfl rfl ?_
            refine W.skip rfl rfl rfl (rfl) rfl rfl ?_
            refine W.any (.pickF rfl rfl rfl) rfl rfl rfl ?_
            refine W.any (.move rfl) rfl rfl rfl ?_
            refine W.skip rfl rfl rfl (rfl) rfl rfl ?_
            refine W.skip rfl rfl rfl (rfl) rfl rfl ?_
            refine W.skip rfl rfl rfl (rfl) rfl rfl ?_
            refine W.skip rfl rfl rfl (rfl) rfl rfl ?_
            refine W.skip rfl rfl rfl (rfl) rfl rfl ?_
            refine W.any (.pickF rfl rfl rfl) rfl rfl rfl ?_
            refine W.any (.move rfl) rfl rfl rfl ?_
            refine W.skip rfl rfl rfl (rfl) rfl rfl ?_
            refine W.skip rfl rfl rfl (rfl) rfl rfl ?_
            refine W.skip rfl rfl rfl (rfl) rfl rfl ?_
            refine W.skip rfl rfl rfl (rfl) rfl rfl ?_
            refine W.skip rfl rfl rfl (rfl) rfl rfl ?_
            refine W.any (.pickF rfl rfl rfl) rfl rfl rfl ?_
            refine W.any (.assign rfl) rfl rfl rfl ?_
            refine W.nil ?_
            refine E.thenN ?_
            refine WC.ret ?_
            refine E.retG1 rfl rfl ?_
            exact ⟨congrArg (fun b => Ending.returned (Value.bool b)) (by simp [edgeA, q2_3, q2_8, q2_15, q2_20, q2_25]), L11⟩
        · refine W.any (.dec (.move rfl) ((Bool.eq_false_iff.2 q2_20))) rfl rfl rfl ?_
          refine W.skip rfl rfl rfl (rfl) rfl rfl ?_
          refine W.skip rfl rfl rfl (rfl) rfl rfl ?_
          refine W.skip rfl rfl rfl (rfl) rfl rfl ?_
          refine W.any (.pickF rfl rfl rfl) rfl rfl rfl ?_
          refine W.any (.move rfl) rfl rfl rfl ?_
          refine W.skip rfl rfl rfl (rfl) rfl rfl ?_
          refine W.skip rfl rfl rfl (rfl) rfl rfl ?_
          refine W.skip rfl rfl rfl (rfl) rfl rfl ?_
          refine W.any (.pickF rfl rfl rfl) rfl rfl rfl ?_
          refine W.any (.move rfl) rfl rfl rfl ?_
          refine W.skip rfl rfl rfl (rfl) rfl rfl ?_
          refine W.skip rfl rfl rfl (rfl) rfl rfl ?_
          refine W.skip rfl rfl rfl (rfl) rfl rfl ?_
          refine W.any (.pickF rfl rfl rfl) rfl rfl rfl ?_
          refine W.any (.move rfl) rfl rfl rfl ?_
          refine W.skip rfl rfl rfl (rfl) rfl rfl ?_
          refine W.skip rfl rfl rfl (rfl) rfl rfl ?_
          refine W.skip rfl rfl rfl (rfl) rfl rfl ?_
          refine W.any (.pickF rfl rfl rfl) rfl rfl rfl ?_
          refine W.any (.move rfl) rfl rfl rfl ?_
          refine W.skip rfl rfl rfl (rfl) rfl rfl ?_
          refine W.skip rfl rfl rfl (rfl) rfl rfl ?_
          refine W.skip rfl rfl rfl (rfl) rfl rfl ?_
          refine W.skip rfl rfl rfl (rfl) rfl rfl ?_
          refine W.skip rfl rfl rfl (rfl) rfl rfl ?_
          refine W.any (.pickF rfl rfl rfl) rfl rfl rfl ?_
          refine W.any (.move rfl) rfl rfl rfl ?_
          refine W.skip rfl rfl rfl (rfl) rfl rfl ?_
          refine W.skip rfl rfl rfl (rfl) rfl rfl ?_
          refine W.skip rfl rfl rfl (rfl) rfl rfl ?_
          refine W.skip rfl rfl rfl (rfl) rfl rfl ?_
          refine W.skip rfl rfl rfl (rfl) rfl rfl ?_
          refine W.any (.pickF rfl rfl rfl) rfl rfl rfl ?_
          refine W.any (.assign rfl) rfl rfl rfl ?_
          refine W.nil ?_
          refine E.thenN ?_
          refine WC.ret ?_
          refine E.retG1 rfl rfl ?_
          exact ⟨congrArg (fun b => Ending.returned (Value.bool b)) (by simp [edgeA, q2_3, q2_8, q2_15, q2_20]), L9⟩
      · refine W.any (.dec (.move rfl) (decide_eq_false q2_15)) rfl rfl rfl ?_
        refine W.skip rfl rfl rfl (rfl) rfl rfl ?_
        refine W.skip rfl rfl rfl (rfl) rfl rfl ?_
        refine W.skip rfl rfl rfl (rfl) rfl rfl ?_
        refine W.any (.pickF rfl rfl rfl) rfl rfl rfl ?_
        refine W.any (.move rfl) rfl rfl rfl ?_
        refine W.skip rfl rfl rfl (rfl) rfl rfl ?_
        refine W.skip rfl rfl rfl (rfl) rfl rfl ?_
        refine W.skip rfl rfl rfl (rfl) rfl rfl ?_
        refine W.any (.pickF rfl rfl rfl) rfl rfl rfl ?_
        refine W.any (.move rfl) rfl rfl rfl ?_
        refine W.skip rfl rfl rfl (rfl) rfl rfl ?_
        refine W.skip rfl rfl rfl (rfl) rfl rfl ?_
        refine W.skip rfl rfl rfl (rfl) rfl rfl ?_
        refine W.any (.pickF rfl rfl rfl) rfl rfl rfl ?_
        refine W.any (.move rfl) rfl rfl rfl ?_
        refine W.skip rfl rfl rfl (rfl) rfl rfl ?_
        refine W.skip rfl rfl rfl (rfl) rfl rfl ?_
        refine W.skip rfl rfl rfl (rfl) rfl rfl ?_
        refine W.any (.pickF rfl rfl rfl) rfl rfl rfl ?_
        refine W.any (.move rfl) rfl rfl rfl ?_
        refine W.skip rfl rfl rfl (rfl) rfl rfl ?_
        refine W.skip rfl rfl rfl (rfl) rfl rfl ?_
        refine W.skip rfl rfl rfl (rfl) rfl rfl ?_
        refine W.any (.pickF rfl rfl rfl) rfl rfl rfl ?_
        refine W.any (.move rfl) rfl rfl rfl ?_
        refine W.skip rfl rfl rfl (rfl) rfl rfl ?_
        refine W.skip rfl rfl rfl (rfl) rfl rfl ?_
        refine W.skip rfl rfl rfl (rfl) rfl rfl ?_
        refine W.skip rfl rfl rfl (rfl) rfl rfl ?_
        refine W.skip rfl rfl rfl (rfl) rfl rfl ?_
        refine W.any (.pickF rfl rfl rfl) rfl rfl rfl ?_
        refine W.any (.move rfl) rfl rfl rfl ?_
        refine W.skip rfl rfl rfl (rfl) rfl rfl ?_
        refine W.skip rfl rfl rfl (rfl) rfl rfl ?_
        refine W.skip rfl rfl rfl (rfl) rfl rfl ?_
        refine W.skip rfl rfl rfl (rfl) rfl rfl ?_
        refine W.skip rfl rfl rfl (rfl) rfl rfl ?_
        refine W.any (.pickF rfl rfl rfl) rfl rfl rfl ?_
        refine W.any (.assign rfl) rfl rfl rfl ?_
        refine W.nil ?_
        refine E.thenN ?_
        refine WC.ret ?_
        refine E.retG1 rfl rfl ?_
        exact ⟨congrArg (fun b => Ending.returned (Value.bool b)) (by simp [edgeA, q2_3, q2_8, q2_15]), L7⟩
    · refine W.any (.dec (.move rfl) ((Bool.eq_false_iff.2 q2_8))) rfl rfl rfl ?_
      refine W.skip rfl rfl rfl (rfl) rfl rfl ?_
      refine W.skip rfl rfl rfl (rfl) rfl rfl ?_
      refine W.skip rfl rfl rfl (rfl) rfl rfl ?_
      refine W.skip rfl rfl rfl (rfl) rfl rfl ?_
      refine W.skip rfl rfl rfl (rfl) rfl rfl ?_
      refine W.any (.pickF rfl rfl rfl) rfl rfl rfl ?_
      refine W.any (.move rfl) rfl rfl rfl ?_
      refine W.skip rfl rfl rfl (rfl) rfl rfl ?_
      refine W.skip rfl rfl rfl (rfl) rfl rfl ?_
      refine W.skip rfl rfl rfl (rfl) rfl rfl ?_
      refine W.any (.pickF rfl rfl rfl) rfl rfl rfl ?_
      refine W.any (.move rfl) rfl rfl rfl ?_
      refine W.skip rfl rfl rfl (rfl) rfl rfl ?_
      refine W.skip rfl rfl rfl (rfl) rfl rfl ?_
      refine W.skip rfl rfl rfl (rfl) rfl rfl ?_
      refine W.any (.pickF rfl rfl rfl) rfl rfl rfl ?_
      refine W.any (.move rfl) rfl rfl rfl ?_
      refine W.skip rfl rfl rfl (rfl) rfl rfl ?_
      refine W.skip rfl rfl rfl (rfl) rfl rfl ?_
      refine W.skip rfl rfl rfl (rfl) rfl rfl ?_
      refine W.any (.pickF rfl rfl rfl) rfl rfl rfl ?_
      refine W.any (.move rfl) rfl rfl rfl ?_
      refine W.skip rfl rfl rfl (rfl) rfl rfl ?_
      refine W.skip rfl rfl rfl (rfl) rfl rfl ?_
      refine W.skip rfl rfl rfl (rfl) rfl rfl ?_
      refine W.any (.pickF rfl rfl rfl) rfl rfl rfl ?_
      refine W.any (.move rfl) rfl rfl rfl ?_
      refine W.skip rfl rfl rfl (rfl) rfl rfl ?_
      refine W.skip rfl rfl rfl (rfl) rfl rfl ?_
      refine W.skip rfl rfl rfl (rfl) rfl rfl ?_
      refine W.any (.pickF rfl rfl rfl) rfl rfl rfl ?_
      refine W.any (.move rfl) rfl rfl rfl ?_
      refine W.skip rfl rfl rfl (rfl) rfl rfl ?_
      refine W.skip rfl rfl rfl (rfl) rfl rfl ?_
      refine W.skip rfl rfl rfl (rfl) rfl rfl ?_
      refine W.skip rfl rfl rfl (rfl) rfl rfl ?_
      refine W.skip rfl rfl rfl (rfl) rfl rfl ?_
      refine W.any (.pickF rfl rfl rfl) rfl rfl rfl ?_
      refine W.any (.move rfl) rfl rfl rfl ?_
      refine W.skip rfl rfl rfl (rfl) rfl rfl ?_
      refine W.skip rfl rfl rfl (rfl) rfl rfl ?_
      refine W.skip rfl rfl rfl (rfl) rfl rfl ?_
      refine W.skip rfl rfl rfl (rfl) rfl rfl ?_
      refine W.skip rfl rfl rfl (rfl) rfl rfl ?_
      refine W.any (.pickF rfl rfl rfl) rfl rfl rfl ?_
      refine W.any (.assign rfl) rfl rfl rfl ?_
      refine W.nil ?_
      refine E.thenN ?_
      refine WC.ret ?_
      refine E.retG1 rfl rfl ?_
      exact ⟨congrArg (fun b => Ending.returned (Value.bool b)) (by simp [edgeA, q2_3, q2_8]), L7⟩
  · refine W.any (.dec (.move rfl) ((Bool.eq_false_iff.2 q2_3))) rfl rfl rfl ?_
    refine W.skip rfl rfl rfl (rfl) rfl rfl ?_
    refine W.skip rfl rfl rfl (rfl) rfl rfl ?_
    refine W.skip rfl rfl rfl (rfl) rfl rfl ?_
    refine W.any (.pickF rfl rfl rfl) rfl rfl rfl ?_
    refine W.any (.move rfl) rfl rfl rfl ?_
    refine W.skip rfl rfl rfl (rfl) rfl rfl ?_
    refine W.skip rfl rfl rfl (rfl) rfl rfl ?_
    refine W.skip rfl rfl rfl (rfl) rfl rfl ?_
    refine W.skip rfl rfl rfl (rfl) rfl rfl ?_
    refine W.skip rfl rfl rfl (rfl) rfl rfl ?_
    refine W.any (.pickF rfl rfl rfl) rfl rfl rfl ?_
    refine W.any (.move rfl) rfl rfl rfl ?_
    refine W.skip rfl rfl rfl (rfl) rfl rfl ?_
    refine W.skip rfl rfl rfl (rfl) rfl rfl ?_
    refine W.skip rfl rfl rfl (rfl) rfl rfl ?_
    refine W.any (.pickF rfl rfl rfl) rfl rfl rfl ?_
    refine W.any (.move rfl) rfl rfl rfl ?_
    refine W.skip rfl rfl rfl (rfl) rfl rfl ?_
    refine W.skip rfl rfl rfl (rfl) rfl rfl ?_
    refine W.skip rfl rfl rfl (rfl) rfl rfl ?_
    refine W.any (.pickF rfl rfl rfl) rfl rfl rfl ?_
    refine W.any (.move rfl) rfl rfl rfl ?_
    refine W.skip rfl rfl rfl (rfl) rfl rfl ?_
    refine W.skip rfl rfl rfl (rfl) rfl rfl ?_
    refine W.skip rfl rfl rfl (rfl) rfl rfl ?_
    refine W.any (.pickF rfl rfl rfl) rfl rfl rfl ?_
    refine W.any (.move rfl) rfl rfl rfl ?_
    refine W.skip rfl rfl rfl (rfl) rfl rfl ?_
    refine W.skip rfl rfl rfl (rfl) rfl rfl ?_
    refine W.skip rfl rfl rfl (rfl) rfl rfl ?_
    refine W.any (.pickF rfl rfl rfl) rfl rfl rfl ?_
    refine W.any (.move rfl) rfl rfl rfl ?_
    refine W.skip rfl rfl rfl (rfl) rfl rfl ?_
    refine W.skip rfl rfl rfl (rfl) rfl rfl ?_
    refine W.skip rfl rfl rfl (rfl) rfl rfl ?_
    refine W.any (.pickF rfl rfl rfl) rfl rfl rfl ?_
    refine W.any (.move rfl) rfl rfl rfl ?_
    refine W.skip rfl rfl rfl (rfl) rfl rfl ?_
    refine W.skip rfl rfl rfl (rfl) rfl rfl ?_
    refine W.skip rfl rfl rfl (rfl) rfl rfl ?_
    refine W.skip rfl rfl rfl (rfl) rfl rfl ?_
    refine W.skip rfl rfl rfl (rfl) rfl rfl ?_
    refine W.any (.pickF rfl rfl rfl) rfl rfl rfl ?_
    refine W.any (.move rfl) rfl rfl rfl ?_
    refine W.skip rfl rfl rfl (rfl) rfl rfl ?_
    refine W.skip rfl rfl rfl (rfl) rfl rfl ?_
    refine W.skip rfl rfl rfl (rfl) rfl rfl ?_
    refine W.skip rfl rfl rfl (rfl) rfl rfl ?_
    refine W.skip rfl rfl rfl (rfl) rfl rfl ?_
    refine W.any (.pickF rfl rfl rfl) rfl rfl rfl ?_
    refine W.any (.assign rfl) rfl rfl rfl ?_
    refine W.nil ?_
    refine E.thenN ?_
    refine WC.ret ?_
    refine E.retG1 rfl rfl ?_
    exact ⟨congrArg (fun b => Ending.returned (Value.bool b)) (by simp [edgeA, q2_3]), L5⟩

theorem ralike_ok (a b : Gsp.Edge) (w : World) : Calls Tryz.prog 41 #[.agg (edgeV a).toArray, .agg (edgeV b).toArray] w fun r w' => r = .returned (.bool (alikeE a b)) ∧ Le w w' := by
  refine enter Tryz.func41 rfl rfl ?_
  have L0 := Le.refl w
  refine WC.seq ?_
  refine WC.region ?_
  refine W.ef rfl rfl rfl ?_
  refine Ef.boxA rfl ?_
  intro g0_0 w0_0 hg0_0 b0_0 h0_0
  have L1 := L0.trans h0_0
  have b0_0 : Blk w0_0 g0_0 27 (edgeV a).toArray := b0_0
  refine W.ef rfl rfl rfl ?_
  refine Ef.boxA rfl ?_
  intro g0_1 w0_1 hg0_1 b0_1 h0_1
  have L2 := L1.trans h0_1
  have b0_1 : Blk w0_1 g0_1 27 (edgeV b).toArray := b0_1
  refine W.any (.assign rfl) rfl rfl rfl ?_
  refine W.nil ?_
  refine E.thenN ?_
  refine WC.seq ?_
  refine WC.region ?_
  refine W.any (.field0 fa27_0 rfl) rfl rfl rfl ?_
  have f3 := (b0_0.le h0_1)
  refine W.rd (.loadB (v := .int .i64 (a.f)) na3 rfl f3 rfl) rfl rfl rfl ?_
  refine W.any (.field0 fa27_0 rfl) rfl rfl rfl ?_
  refine W.rd (.loadB (v := .int .i64 (b.f)) na3 rfl b0_1 rfl) rfl rfl rfl ?_
  refine W.any (.eql rfl rfl) rfl rfl rfl ?_
  by_cases q1_5 : a.f = b.f
  · refine W.any (.dec (.move rfl) (decide_eq_true q1_5)) rfl rfl rfl ?_
    refine W.rdg (Any.rd (.field0 fa27_1 rfl) _) rfl rfl rfl (rfl) rfl rfl ?_
    refine W.rdg (.loadB (v := .int .i64 (a.t)) na3 rfl f3 rfl) rfl rfl rfl (rfl) rfl rfl ?_
    refine W.rdg (Any.rd (.field0 fa27_1 rfl) _) rfl rfl rfl (rfl) rfl rfl ?_
    refine W.rdg (.loadB (v := .int .i64 (b.t)) na3 rfl b0_1 rfl) rfl rfl rfl (rfl) rfl rfl ?_
    refine W.rdg (Any.rd (.eql rfl rfl) _) rfl rfl rfl (rfl) rfl rfl ?_
    refine W.any (.pickT rfl rfl rfl) rfl rfl rfl ?_
    refine W.any (.assign rfl) rfl rfl rfl ?_
    refine W.nil ?_
    refine E.thenN ?_
    refine WC.seq ?_
    refine WC.region ?_
    refine W.any (.field0 fa27_0 rfl) rfl rfl rfl ?_
    refine W.rd (.loadB (v := .int .i64 (a.f)) na3 rfl f3 rfl) rfl rfl rfl ?_
    refine W.any (.field0 fa27_1 rfl) rfl rfl rfl ?_
    refine W.rd (.loadB (v := .int .i64 (b.t)) na3 rfl b0_1 rfl) rfl rfl rfl ?_
    refine W.any (.eql rfl rfl) rfl rfl rfl ?_
    by_cases q2_5 : a.f = b.t
    · refine W.any (.dec (.move rfl) (decide_eq_true q2_5)) rfl rfl rfl ?_
      refine W.rdg (Any.rd (.field0 fa27_1 rfl) _) rfl rfl rfl (rfl) rfl rfl ?_
      refine W.rdg (.loadB (v := .int .i64 (a.t)) na3 rfl f3 rfl) rfl rfl rfl (rfl) rfl rfl ?_
      refine W.rdg (Any.rd (.field0 fa27_0 rfl) _) rfl rfl rfl (rfl) rfl rfl ?_
      refine W.rdg (.loadB (v := .int .i64 (b.f)) na3 rfl b0_1 rfl) rfl rfl rfl (rfl) rfl rfl ?_
      refine W.rdg (Any.rd (.eql rfl rfl) _) rfl rfl rfl (rfl) rfl rfl ?_
      refine W.any (.pickT rfl rfl rfl) rfl rfl rfl ?_
      refine W.any (.assign rfl) rfl rfl rfl ?_
      refine W.nil ?_
      refine E.thenN ?_
      refine WC.seq ?_
      refine WC.region ?_
      refine W.any (.field0 fa27_3 rfl) rfl rfl rfl ?_
      refine W.rd (.loadB (v := .int .i64 (a.r)) na3 rfl f3 rfl) rfl rfl rfl ?_
      refine W.any (.field0 fa27_3 rfl) rfl rfl rfl ?_
      refine W.rd (.loadB (v := .int .i64 (b.r)) na3 rfl b0_1 rfl) rfl rfl rfl ?_
      refine W.any (.eql rfl rfl) rfl rfl rfl ?_
      by_cases q3_5 : a.r = b.r
      · refine W.any (.dec (.move rfl) (decide_eq_true q3_5)) rfl rfl rfl ?_
        refine W.rdg (Any.rd (.move rfl) _) rfl rfl rfl (rfl) rfl rfl ?_
        by_cases q3_7 : a.t = b.t
        · refine W.rdg (Any.rd (.dec (.move rfl) (decide_eq_true q3_7)) _) rfl rfl rfl (rfl) rfl rfl ?_
          refine W.skip rfl rfl rfl (rfl) rfl rfl ?_
          refine W.rdg (Any.rd (.pickT rfl rfl rfl) _) rfl rfl rfl (rfl) rfl rfl ?_
          refine W.any (.pickT rfl rfl rfl) rfl rfl rfl ?_
          refine W.any (.assign rfl) rfl rfl rfl ?_
          refine W.nil ?_
          refine E.thenN ?_
          refine WC.ret ?_
          refine E.retG1 rfl rfl ?_
          exact ⟨(by first | rfl | (simp [alikeE, q1_5, q2_5, q3_5, q3_7]; done) | (simp [alikeE, q1_5, q2_5, q3_5, q3_7]; omega) | (simp [alikeE, q1_5, q2_5, q3_5, q3_7]; split <;> first | (exfalso; omega) | (simp; done) | (simp; omega))), L2⟩
        · refine W.rdg (Any.rd (.dec (.move rfl) (decide_eq_false q3_7)) _) rfl rfl rfl (rfl) rfl rfl ?_
          refine W.rdg (Any.rd (.move rfl) _) rfl rfl rfl (rfl) rfl rfl ?_
          refine W.rdg (Any.rd (.pickF rfl rfl rfl) _) rfl rfl rfl (rfl) rfl rfl ?_
          refine W.any (.pickT rfl rfl rfl) rfl rfl rfl ?_
          refine W.any (.assign rfl) rfl rfl rfl ?_
          refine W.nil ?_
          refine E.thenN ?_
          refine WC.ret ?_
          refine E.retG1 rfl rfl ?_
          exact ⟨(by first | rfl | (simp [alikeE, q1_5, q2_5, q3_5, q3_7]; done) | (simp [alikeE, q1_5, q2_5, q3_5, q3_7]; omega) | (simp [alikeE, q1_5, q2_5, q3_5, q3_7]; split <;> first | (exfalso; omega) | (simp; done) | (simp; omega))), L2⟩
      · refine W.any (.dec (.move rfl) (decide_eq_false q3_5)) rfl rfl rfl ?_
        refine W.skip rfl rfl rfl (rfl) rfl rfl ?_
        refine W.skip rfl rfl rfl (rfl) rfl rfl ?_
        refine W.skipu rfl rfl rfl rfl rfl ?_
        refine W.skip rfl rfl rfl (rfl) rfl rfl ?_
        refine W.any (.pickF rfl rfl rfl) rfl rfl rfl ?_
        refine W.any (.assign rfl) rfl rfl rfl ?_
        refine W.nil ?_
        refine E.thenN ?_
        refine WC.ret ?_
        refine E.retG1 rfl rfl ?_
        exact ⟨(by first | rfl | (simp [alikeE, q1_5, q2_5, q3_5]; done) | (simp [alikeE, q1_5, q2_5, q3_5]; omega) | (simp [alikeE, q1_5, q2_5, q3_5]; split <;> first | (exfalso; omega) | (simp; done) | (simp; omega))), L2⟩
    · refine W.any (.dec (.move rfl) (decide_eq_false q2_5)) rfl rfl rfl ?_
      refine W.skip rfl rfl rfl (rfl) rfl rfl ?_
      refine W.skip rfl rfl rfl (rfl) rfl rfl ?_
      refine W.skip rfl rfl rfl (rfl) rfl rfl ?_
      refine W.skip rfl rfl rfl (rfl) rfl rfl ?_
      refine W.skip rfl rfl rfl (rfl) rfl rfl ?_
      refine W.any (.pickF rfl rfl rfl) rfl rfl rfl ?_
      refine W.any (.assign rfl) rfl rfl rfl ?_
      refine W.nil ?_
      refine E.thenN ?_
      refine WC.seq ?_
      refine WC.region ?_
      refine W.any (.field0 fa27_3 rfl) rfl rfl rfl ?_
      refine W.rd (.loadB (v := .int .i64 (a.r)) na3 rfl f3 rfl) rfl rfl rfl ?_
      refine W.any (.field0 fa27_3 rfl) rfl rfl rfl ?_
      refine W.rd (.loadB (v := .int .i64 (b.r)) na3 rfl b0_1 rfl) rfl rfl rfl ?_
      refine W.any (.eql rfl rfl) rfl rfl rfl ?_
      by_cases q3_5 : a.r = b.r
      · refine W.any (.dec (.move rfl) (decide_eq_true q3_5)) rfl rfl rfl ?_
        refine W.rdg (Any.rd (.move rfl) _) rfl rfl rfl (rfl) rfl rfl ?_
        by_cases q3_7 : a.t = b.t
        · refine W.rdg (Any.rd (.dec (.move rfl) (decide_eq_true q3_7)) _) rfl rfl rfl (rfl) rfl rfl ?_
          refine W.skip rfl rfl rfl (rfl) rfl rfl ?_
          refine W.rdg (Any.rd (.pickT rfl rfl rfl) _) rfl rfl rfl (rfl) rfl rfl ?_
          refine W.any (.pickT rfl rfl rfl) rfl rfl rfl ?_
          refine W.any (.assign rfl) rfl rfl rfl ?_
          refine W.nil ?_
          refine E.thenN ?_
          refine WC.ret ?_
          refine E.retG1 rfl rfl ?_
          exact ⟨(by first | rfl | (simp [alikeE, q1_5, q2_5, q3_5, q3_7]; done) | (simp [alikeE, q1_5, q2_5, q3_5, q3_7]; omega) | (simp [alikeE, q1_5, q2_5, q3_5, q3_7]; split <;> first | (exfalso; omega) | (simp; done) | (simp; omega))), L2⟩
        · refine W.rdg (Any.rd (.dec (.move rfl) (decide_eq_false q3_7)) _) rfl rfl rfl (rfl) rfl rfl ?_
          refine W.rdg (Any.rd (.move rfl) _) rfl rfl rfl (rfl) rfl rfl ?_
          refine W.rdg (Any.rd (.pickF rfl rfl rfl) _) rfl rfl rfl (rfl) rfl rfl ?_
          refine W.any (.pickT rfl rfl rfl) rfl rfl rfl ?_
          refine W.any (.assign rfl) rfl rfl rfl ?_
          refine W.nil ?_
          refine E.thenN ?_
          refine WC.ret ?_
          refine E.retG1 rfl rfl ?_
          exact ⟨(by first | rfl | (simp [alikeE, q1_5, q2_5, q3_5, q3_7]; done) | (simp [alikeE, q1_5, q2_5, q3_5, q3_7]; omega) | (simp [alikeE, q1_5, q2_5, q3_5, q3_7]; split <;> first | (exfalso; omega) | (simp; done) | (simp; omega))), L2⟩
      · refine W.any (.dec (.move rfl) (decide_eq_false q3_5)) rfl rfl rfl ?_
        refine W.skip rfl rfl rfl (rfl) rfl rfl ?_
        refine W.skip rfl rfl rfl (rfl) rfl rfl ?_
        refine W.skipu rfl rfl rfl rfl rfl ?_
        refine W.skip rfl rfl rfl (rfl) rfl rfl ?_
        refine W.any (.pickF rfl rfl rfl) rfl rfl rfl ?_
        refine W.any (.assign rfl) rfl rfl rfl ?_
        refine W.nil ?_
        refine E.thenN ?_
        refine WC.ret ?_
        refine E.retG1 rfl rfl ?_
        exact ⟨(by first | rfl | (simp [alikeE, q1_5, q2_5, q3_5]; done) | (simp [alikeE, q1_5, q2_5, q3_5]; omega) | (simp [alikeE, q1_5, q2_5, q3_5]; split <;> first | (exfalso; omega) | (simp; done) | (simp; omega))), L2⟩
  · refine W.any (.dec (.move rfl) (decide_eq_false q1_5)) rfl rfl rfl ?_
    refine W.skip rfl rfl rfl (rfl) rfl rfl ?_
    refine W.skip rfl rfl rfl (rfl) rfl rfl ?_
    refine W.skip rfl rfl rfl (rfl) rfl rfl ?_
    refine W.skip rfl rfl rfl (rfl) rfl rfl ?_
    refine W.skip rfl rfl rfl (rfl) rfl rfl ?_
    refine W.any (.pickF rfl rfl rfl) rfl rfl rfl ?_
    refine W.any (.assign rfl) rfl rfl rfl ?_
    refine W.nil ?_
    refine E.thenN ?_
    refine WC.seq ?_
    refine WC.region ?_
    refine W.any (.field0 fa27_0 rfl) rfl rfl rfl ?_
    refine W.rd (.loadB (v := .int .i64 (a.f)) na3 rfl f3 rfl) rfl rfl rfl ?_
    refine W.any (.field0 fa27_1 rfl) rfl rfl rfl ?_
    refine W.rd (.loadB (v := .int .i64 (b.t)) na3 rfl b0_1 rfl) rfl rfl rfl ?_
    refine W.any (.eql rfl rfl) rfl rfl rfl ?_
    by_cases q2_5 : a.f = b.t
    · refine W.any (.dec (.move rfl) (decide_eq_true q2_5)) rfl rfl rfl ?_
      refine W.rdg (Any.rd (.field0 fa27_1 rfl) _) rfl rfl rfl (rfl) rfl rfl ?_
      refine W.rdg (.loadB (v := .int .i64 (a.t)) na3 rfl f3 rfl) rfl rfl rfl (rfl) rfl rfl ?_
      refine W.rdg (Any.rd (.field0 fa27_0 rfl) _) rfl rfl rfl (rfl) rfl rfl ?_
      refine W.rdg (.loadB (v := .int .i64 (b.f)) na3 rfl b0_1 rfl) rfl rfl rfl (rfl) rfl rfl ?_
      refine W.rdg (Any.rd (.eql rfl rfl) _) rfl rfl rfl (rfl) rfl rfl ?_
      refine W.any (.pickT rfl rfl rfl) rfl rfl rfl ?_
      refine W.any (.assign rfl) rfl rfl rfl ?_
      refine W.nil ?_
      refine E.thenN ?_
      refine WC.seq ?_
      refine WC.region ?_
      refine W.any (.field0 fa27_3 rfl) rfl rfl rfl ?_
      refine W.rd (.loadB (v := .int .i64 (a.r)) na3 rfl f3 rfl) rfl rfl rfl ?_
      refine W.any (.field0 fa27_3 rfl) rfl rfl rfl ?_
      refine W.rd (.loadB (v := .int .i64 (b.r)) na3 rfl b0_1 rfl) rfl rfl rfl ?_
      refine W.any (.eql rfl rfl) rfl rfl rfl ?_
      by_cases q3_5 : a.r = b.r
      · refine W.any (.dec (.move rfl) (decide_eq_true q3_5)) rfl rfl rfl ?_
        refine W.rdg (Any.rd (.move rfl) _) rfl rfl rfl (rfl) rfl rfl ?_
        refine W.rdg (Any.rd (.move rfl) _) rfl rfl rfl (rfl) rfl rfl ?_
        refine W.rdg (Any.rd (.move rfl) _) rfl rfl rfl (rfl) rfl rfl ?_
        refine W.rdg (Any.rd (.pickF rfl rfl rfl) _) rfl rfl rfl (rfl) rfl rfl ?_
        refine W.any (.pickT rfl rfl rfl) rfl rfl rfl ?_
        refine W.any (.assign rfl) rfl rfl rfl ?_
        refine W.nil ?_
        refine E.thenN ?_
        refine WC.ret ?_
        refine E.retG1 rfl rfl ?_
        exact ⟨(by first | rfl | (simp [alikeE, q1_5, q2_5, q3_5]; done) | (simp [alikeE, q1_5, q2_5, q3_5]; omega) | (simp [alikeE, q1_5, q2_5, q3_5]; split <;> first | (exfalso; omega) | (simp; done) | (simp; omega))), L2⟩
      · refine W.any (.dec (.move rfl) (decide_eq_false q3_5)) rfl rfl rfl ?_
        refine W.skip rfl rfl rfl (rfl) rfl rfl ?_
        refine W.skip rfl rfl rfl (rfl) rfl rfl ?_
        refine W.skipu rfl rfl rfl rfl rfl ?_
        refine W.skip rfl rfl rfl (rfl) rfl rfl ?_
        refine W.any (.pickF rfl rfl rfl) rfl rfl rfl ?_
        refine W.any (.assign rfl) rfl rfl rfl ?_
        refine W.nil ?_
        refine E.thenN ?_
        refine WC.ret ?_
        refine E.retG1 rfl rfl ?_
        exact ⟨(by first | rfl | (simp [alikeE, q1_5, q2_5, q3_5]; done) | (simp [alikeE, q1_5, q2_5, q3_5]; omega) | (simp [alikeE, q1_5, q2_5, q3_5]; split <;> first | (exfalso; omega) | (simp; done) | (simp; omega))), L2⟩
    · refine W.any (.dec (.move rfl) (decide_eq_false q2_5)) rfl rfl rfl ?_
      refine W.skip rfl rfl rfl (rfl) rfl rfl ?_
      refine W.skip rfl rfl rfl (rfl) rfl rfl ?_
      refine W.skip rfl rfl rfl (rfl) rfl rfl ?_
      refine W.skip rfl rfl rfl (rfl) rfl rfl ?_
      refine W.skip rfl rfl rfl (rfl) rfl rfl ?_
      refine W.any (.pickF rfl rfl rfl) rfl rfl rfl ?_
      refine W.any (.assign rfl) rfl rfl rfl ?_
      refine W.nil ?_
      refine E.thenN ?_
      refine WC.seq ?_
      refine WC.region ?_
      refine W.any (.field0 fa27_3 rfl) rfl rfl rfl ?_
      refine W.rd (.loadB (v := .int .i64 (a.r)) na3 rfl f3 rfl) rfl rfl rfl ?_
      refine W.any (.field0 fa27_3 rfl) rfl rfl rfl ?_
      refine W.rd (.loadB (v := .int .i64 (b.r)) na3 rfl b0_1 rfl) rfl rfl rfl ?_
      refine W.any (.eql rfl rfl) rfl rfl rfl ?_
      by_cases q3_5 : a.r = b.r
      · refine W.any (.dec (.move rfl) (decide_eq_true q3_5)) rfl rfl rfl ?_
        refine W.rdg (Any.rd (.move rfl) _) rfl rfl rfl (rfl) rfl rfl ?_
        refine W.rdg (Any.rd (.move rfl) _) rfl rfl rfl (rfl) rfl rfl ?_
        refine W.rdg (Any.rd (.move rfl) _) rfl rfl rfl (rfl) rfl rfl ?_
        refine W.rdg (Any.rd (.pickF rfl rfl rfl) _) rfl rfl rfl (rfl) rfl rfl ?_
        refine W.any (.pickT rfl rfl rfl) rfl rfl rfl ?_
        refine W.any (.assign rfl) rfl rfl rfl ?_
        refine W.nil ?_
        refine E.thenN ?_
        refine WC.ret ?_
        refine E.retG1 rfl rfl ?_
        exact ⟨(by first | rfl | (simp [alikeE, q1_5, q2_5, q3_5]; done) | (simp [alikeE, q1_5, q2_5, q3_5]; omega) | (simp [alikeE, q1_5, q2_5, q3_5]; split <;> first | (exfalso; omega) | (simp; done) | (simp; omega))), L2⟩
      · refine W.any (.dec (.move rfl) (decide_eq_false q3_5)) rfl rfl rfl ?_
        refine W.skip rfl rfl rfl (rfl) rfl rfl ?_
        refine W.skip rfl rfl rfl (rfl) rfl rfl ?_
        refine W.skipu rfl rfl rfl rfl rfl ?_
        refine W.skip rfl rfl rfl (rfl) rfl rfl ?_
        refine W.any (.pickF rfl rfl rfl) rfl rfl rfl ?_
        refine W.any (.assign rfl) rfl rfl rfl ?_
        refine W.nil ?_
        refine E.thenN ?_
        refine WC.ret ?_
        refine E.retG1 rfl rfl ?_
        exact ⟨(by first | rfl | (simp [alikeE, q1_5, q2_5, q3_5]; done) | (simp [alikeE, q1_5, q2_5, q3_5]; omega) | (simp [alikeE, q1_5, q2_5, q3_5]; split <;> first | (exfalso; omega) | (simp; done) | (simp; omega))), L2⟩

theorem rasum_ok (e : Gsp.Edge) (no : Int) (gone : Bool) (w : World) : Calls Tryz.prog 8 #[.agg (edgeV e).toArray, .int .i64 (no), .bool (gone)] w fun r w' => r = .returned (.agg ((sumA e no gone).map u8v).toArray) ∧ Le w w' := by
  refine enter Tryz.func8 rfl rfl ?_
  have L0 := Le.refl w
  refine WC.seq ?_
  refine WC.region ?_
  refine W.ef rfl rfl rfl ?_
  refine Ef.boxA rfl ?_
  intro g0_0 w0_0 hg0_0 b0_0 h0_0
  have L1 := L0.trans h0_0
  have b0_0 : Blk w0_0 g0_0 27 (edgeV e).toArray := b0_0
  refine W.ef rfl rfl rfl ?_
  refine Ef.allocA z33 ?_
  intro g0_1 w0_1 hg0_1 b0_1 h0_1
  have L2 := L1.trans h0_1
  have b0_1 : Blk w0_1 g0_1 33 ((List.replicate 32 (0 : BitVec 8)).map u8v).toArray := b0_1
  refine W.nil ?_
  refine E.thenN ?_
  refine WC.seq ?_
  refine WC.region ?_
  have f3 := (b0_0.le h0_1)
  refine W.rd (.loadAll ag27 (by rfl) rfl f3) rfl rfl rfl ?_
  refine W.ef rfl rfl rfl ?_
  refine Ef.call go6 rfl rfl (raright_ok e w0_1) ?_
  rintro _ w1_1 ⟨rfl, h1_1⟩
  refine ⟨_, rfl, ?_⟩
  have L4 := L2.trans h1_1
  refine W.any (.assign rfl) rfl rfl rfl ?_
  refine W.nil ?_
  refine E.thenN ?_
  refine WC.seq ?_
  refine WC.seq ?_
  refine WC.region ?_
  refine W.any (.move rfl) rfl rfl rfl ?_
  refine W.any (.not rfl) rfl rfl rfl ?_
  by_cases q2_2 : (edgeA e) = true
  · refine W.any (.dec (.move rfl) (congrArg not (q2_2))) rfl rfl rfl ?_
    refine W.rdg (Any.rd (.move rfl) _) rfl rfl rfl (rfl) rfl rfl ?_
    refine W.efg rfl rfl rfl (rfl) rfl rfl ?_
    refine Ef.call go27 rfl rfl (rin_ok no 1 1048576 w1_1) ?_
    rintro _ w2_4 ⟨rfl, h2_4⟩
    refine ⟨_, rfl, ?_⟩
    have L5 := L4.trans h2_4
    refine W.rdg (Any.rd (.not rfl) _) rfl rfl rfl (rfl) rfl rfl ?_
    refine W.any (.pickF rfl rfl rfl) rfl rfl rfl ?_
    refine W.nil ?_
    refine E.thenN ?_
    by_cases c0 : (inB no 1 1048576) = true
    · refine WC.condN rfl (congrArg not (c0)) ?_
      have hmy : mayA e no = true := may_of2 (by assumption) (by assumption)
      have hnn := fun k => adNums_in (g := gone) hmy k
      have hrl := rowsN_len (fun k => (hnn k).2)
      refine WC.skip ?_
      refine E.thenN ?_
      refine WC.seq ?_
      refine WC.region ?_
      refine W.any (.field0 fa27_4 rfl) rfl rfl rfl ?_
      have f6 := (f3.le (h1_1.trans h2_4))
      refine W.rd (.bpart (polV e.pol) ag25 rfl (by decide) rfl f6 rfl) rfl rfl rfl ?_
      refine W.ef rfl rfl rfl ?_
      refine Ef.allocA z25 ?_
      intro g4_2 w4_2 hg4_2 b4_2 h4_2
      have L7 := L5.trans h4_2
      have b4_2 : Blk w4_2 g4_2 25 (polV noPol).toArray := b4_2
      refine W.ef0 rfl rfl ?_
      refine Ef.storeAll sz25 (by rfl) rfl rfl b4_2 (by simp only [List.size_toArray, polV_row.len]) (polV_row.one e.pol) ?_
      intro w4_3 b4_3 h4_3
      have b4_3 : Blk w4_3 g4_2 25 (polV e.pol).toArray := b4_3
      have L8 : Le w w4_3 := L7.then_ h4_3 (fun q hq => by cases hq; exact Nat.le_trans L5.size hg4_2)
      refine W.nil ?_
      refine E.thenN ?_
      refine WC.seq ?_
      refine WC.region ?_
      refine W.any (.assign rfl) rfl rfl rfl ?_
      refine W.nil ?_
      refine E.thenN ?_
      have f9 := ((f6.le h4_2).ch h4_3 (fun h => (show g4_2 ≠ g0_0 from by have := f6.lt; omega) (Option.some.inj h)))
      have f10 := ((b0_1.le (h1_1.trans (h2_4.trans h4_2))).ch h4_3 (fun h => (show g4_2 ≠ g0_1 from by have := b0_1.lt; have := h1_1.size; have := h2_4.size; omega) (Option.some.inj h)))
      refine WC.cut (ι := Nat) (fun u0 => [(1, .int .i64 (no)), (3, .pointer (some ⟨g0_0, 0, none⟩)), (6, .pointer (some ⟨g0_1, 0, none⟩)), (8, .pointer (some ⟨g4_2, 0, none⟩)), (9, .int .i64 ((if gone = true then 1 else 0)))]) (fun u0 wc8 => (u0 = u0) ∧ Le w wc8 ∧ w4_3.heap.size ≤ wc8.heap.size ∧ Blk wc8 g0_0 27 (edgeV e).toArray ∧ Blk wc8 g0_1 33 ((List.replicate 32 (0 : BitVec 8)).map u8v).toArray ∧ Blk wc8 g4_2 25 (polV e.pol).toArray) ?_ ?_
      · refine WC.seq ?_
        refine WC.region ?_
        refine W.any (.move rfl) rfl rfl rfl ?_
        refine W.nil ?_
        refine E.thenN ?_
        by_cases c1 : gone = true
        · refine WC.condY rfl (c1) ?_
          refine WC.region ?_
          refine W.any (.assign rfl) rfl rfl rfl ?_
          refine W.nil ?_
          refine E.meet 0 (.cons rfl (.cons rfl (.cons rfl (.cons rfl (.cons' rfl (int_eq (by simp [*])) (.nil _)))))) ?_
          exact ⟨rfl, L8, Nat.le_refl _, f9, f10, b4_3⟩
        · refine WC.condN rfl ((Bool.eq_false_iff.2 c1)) ?_
          refine WC.skip ?_
          refine E.meet 0 (.cons rfl (.cons rfl (.cons rfl (.cons rfl (.cons' rfl (int_eq (by simp [*])) (.nil _)))))) ?_
          exact ⟨rfl, L8, Nat.le_refl _, f9, f10, b4_3⟩
      · rintro u0 wc8 ⟨_hu, Lc1, sc1, m1_0, m1_1, m1_2⟩
        refine WC.seq ?_
        refine WC.region ?_
        refine W.any (.field0 fa27_0 rfl) rfl rfl rfl ?_
        refine W.rd (.loadB (v := .int .i64 (e.f)) na3 rfl m1_0 rfl) rfl rfl rfl ?_
        refine W.any (.field0 fa27_1 rfl) rfl rfl rfl ?_
        refine W.rd (.loadB (v := .int .i64 (e.t)) na3 rfl m1_0 rfl) rfl rfl rfl ?_
        refine W.any (.field0 fa27_2 rfl) rfl rfl rfl ?_
        refine W.rd (.loadB (v := .int .i64 (e.c)) na3 rfl m1_0 rfl) rfl rfl rfl ?_
        refine W.any (.field0 fa27_3 rfl) rfl rfl rfl ?_
        refine W.rd (.loadB (v := .int .i64 (e.r)) na3 rfl m1_0 rfl) rfl rfl rfl ?_
        refine W.any (.field0 fa25_0 rfl) rfl rfl rfl ?_
        refine W.rd (.loadB (v := .int .i64 (e.pol.b)) na3 rfl m1_2 rfl) rfl rfl rfl ?_
        refine W.any (.field0 fa25_1 rfl) rfl rfl rfl ?_
        refine W.rd (.loadB (v := .int .i64 (e.pol.p)) na3 rfl m1_2 rfl) rfl rfl rfl ?_
        refine W.any (.field0 fa25_2 rfl) rfl rfl rfl ?_
        refine W.rd (.loadB (v := .int .i64 (e.pol.d)) na3 rfl m1_2 rfl) rfl rfl rfl ?_
        refine W.any (.field0 fa25_3 rfl) rfl rfl rfl ?_
        refine W.rd (.loadB (v := .int .i64 (e.pol.l)) na3 rfl m1_2 rfl) rfl rfl rfl ?_
        refine W.any (.field0 fa25_4 rfl) rfl rfl rfl ?_
        refine W.rd (.loadB (v := .int .i64 (e.pol.m)) na3 rfl m1_2 rfl) rfl rfl rfl ?_
        refine W.any (.move rfl) rfl rfl rfl ?_
        refine W.any (.move rfl) rfl rfl rfl ?_
        refine W.ef rfl rfl rfl ?_
        refine Ef.buildSliceV (len := 11) [_, _, _, _, _, _, _, _, _, _, _] Tryz.underlying65 el3 rfl (by simp [Value.cells]) rfl (by decide) (by decide) ?_
        intro g8_20 w8_20 hg8_20 b8_20 h8_20
        have L11 := Lc1.trans h8_20
        have b8_20 : Blk w8_20 g8_20 3 (([e.f, e.t, e.c, e.r, e.pol.b, e.pol.p, e.pol.d, e.pol.l, e.pol.m, no, (if gone = true then 1 else 0)]).map iv).flatten.toArray := b8_20
        have o8_20 : OVec w8_20 wc8.heap.size 3 iv 1 (some ⟨g8_20, 0, none⟩) 11 11 ([e.f, e.t, e.c, e.r, e.pol.b, e.pol.p, e.pol.d, e.pol.l, e.pol.m, no, (if gone = true then 1 else 0)]) := b8_20.ovec hg8_20 iv_row rfl rfl (by decide)
        have o12 := o8_20.cast (m' := 11) (ys := (adNums e no gone)) (rfl) (rfl)
        refine W.any (.assign rfl) rfl rfl rfl ?_
        refine W.nil ?_
        refine E.thenN ?_
        refine WC.seq ?_
        refine WC.region ?_
        refine W.any (.assign rfl) rfl rfl rfl ?_
        refine W.nil ?_
        refine E.thenN ?_
        refine WC.seq ?_
        refine WC.seq ?_
        refine WC.region ?_
        refine W.any (.assign rfl) rfl rfl rfl ?_
        refine W.nil ?_
        refine E.thenN ?_
        refine WC.block ?_
        have f13 := (m1_1.le h8_20)
        refine WC.loop (ι := Nat × (Option Addr) × Nat) (fun ⟨k, Aa, ca⟩ => [(6, .pointer (some ⟨g0_1, 0, none⟩)), (10, .slice (some ⟨g8_20, 0, none⟩) 11 11), (11, .slice Aa ((rowsN ((adNums e no gone).take k)).length) ca), (12, .int .i64 (((k : Nat) : Int)))]) (fun ⟨k, Aa, ca⟩ wl0 => (k ≤ 11) ∧ Le w wl0 ∧ w8_20.heap.size ≤ wl0.heap.size ∧ Blk wl0 g0_1 33 ((List.replicate 32 (0 : BitVec 8)).map u8v).toArray ∧ OVec wl0 wc8.heap.size 3 iv 1 (some ⟨g8_20, 0, none⟩) 11 11 (adNums e no gone) ∧ OVec wl0 w8_20.heap.size 5 byteV 1 Aa ((rowsN ((adNums e no gone).take k)).length) ca (rowsN ((adNums e no gone).take k))) (fun ⟨k, Aa, ca⟩ => 11 - k) (0, none, 0) ?_ ?_ ?_
        · exact .cons rfl (.cons rfl (.cons rfl (.cons rfl (.nil _))))
        · exact ⟨Nat.zero_le _, L11, Nat.le_refl _, f13, o12, (OVec.nil w8_20 w8_20.heap.size 5 byteV 1 none)⟩
        · rintro ⟨k, Aa, ca⟩ wl0 ⟨hk, Ll0, zl0, f0_0, f0_1, f0_2⟩
          have lb0_4 : wc8.heap.size ≤ wl0.heap.size := by have := h8_20.size; omega
          have lb0_5 : w8_20.heap.size ≤ wl0.heap.size := by omega
          have hrk := hrl k
          have hnl : (adNums e no gone).length = 11 := rfl
          have hsn := fun h => rowsN_snoc (ns := (adNums e no gone)) (k := k) h
          refine WC.seq ?_
          refine WC.seq ?_
          refine WC.region ?_
          refine W.any (.move rfl) rfl rfl rfl ?_
          refine W.any (.move rfl) rfl rfl rfl ?_
          refine W.rd (.len Tryz.underlying65 rfl) rfl rfl rfl ?_
          refine W.any (.lss rfl rfl) rfl rfl rfl ?_
          refine W.nil ?_
          refine E.thenN ?_
          by_cases c2 : ((k : Nat) : Int) < 11
          · refine WC.condY rfl (decide_eq_true c2) ?_
            refine WC.skip ?_
            refine E.thenN ?_
            refine WC.seq ?_
            refine WC.block ?_
            refine WC.region ?_
            refine W.any (.move rfl) rfl rfl rfl ?_
            refine W.any (.move rfl) rfl rfl rfl ?_
            refine W.any (.move rfl) rfl rfl rfl ?_
            refine W.any (.idxS (k) Tryz.underlying65 sz3 rfl rfl (o8_20.vec.isSome iv_row (by omega)) (rfl) (by omega)) rfl rfl rfl ?_
            refine W.rd (.vone (v := .int .i64 (((adNums e no gone).getD k 0))) na3 rfl f0_1.vec iv_row (getS (adNums e no gone) 0 (by first | omega | (simp only [List.length_cons, List.length_nil]; omega))) rfl) rfl rfl rfl ?_
            refine W.ef rfl rfl rfl ?_
            refine Ef.call go31 rfl rfl ((by have q := rput_ok (((adNums e no gone).getD k 0)).toNat (by have := (hnn k).2; omega) (c := ca) wl0 f0_2.vec (by omega); rw [Int.toNat_of_nonneg (hnn k).1] at q; exact q)) ?_
            rintro _ w13_5 ⟨Ag13_5, cg13_5, rfl, o13_5, h13_5⟩
            refine ⟨_, rfl, ?_⟩
            have L14 := Ll0.trans h13_5
            refine W.any (.assign rfl) rfl rfl rfl ?_
            refine W.nil ?_
            refine E.blkN ?_
            refine E.thenN ?_
            refine WC.region ?_
            refine W.any (.move rfl) rfl rfl rfl ?_
            refine W.any (.add rfl rfl (by omega)) rfl rfl rfl ?_
            refine W.any (.assign rfl) rfl rfl rfl ?_
            refine W.nil ?_
            have f15 := (f0_0.le h13_5)
            have f16 := (f0_1.le h13_5)
            refine E.again (k + 1, Ag13_5, cg13_5) (.cons rfl (.cons rfl (.cons' rfl (slice_eq (by rw [hsn (by omega)])) (.cons rfl (.nil _))))) ?_ ?_
            · exact ⟨by omega, L14, by have := zl0; have := h13_5.size; omega, f15, f16, ((o13_5.mono zl0).cast (by rw [hsn (by omega)]) (by rw [hsn (by omega)]))⟩
            · first | omega | (simp only []; omega)
          · refine WC.condN rfl (decide_eq_false c2) ?_
            refine WC.exit ?_
            refine E.thenX ?_
            refine E.thenX ?_
            refine E.blkH ?_
            refine E.thenN ?_
            refine WC.seq ?_
            refine WC.region ?_
            refine W.any (.move rfl) rfl rfl rfl ?_
            refine W.ef rfl rfl rfl ?_
            refine Ef.buildSliceN [_] Tryz.underlying91 el64 rfl (by intro v hv; simp at hv; rcases hv with rfl <;> rfl) rfl (by decide) (by decide) ?_
            intro g14_1 w14_1 hg14_1 b14_1 h14_1
            have L17 := Ll0.trans h14_1
            have b14_1 : Blk w14_1 g14_1 64 #[.slice Aa ((rowsN ((adNums e no gone).take k)).length) ca] := b14_1
            have f18 := (f0_2.le h14_1)
            refine W.ef rfl rfl rfl ?_
            refine Ef.call go32 rfl rfl (rtag_ok _ nAd w14_1 (ps := [(rowsN ((adNums e no gone).take k))]) rfl (b14_1.sl (s := 1) (n := 1) rfl) (.cons (byte_sb f18.vec) (.nil _)) (by rw [tagLen1]; show 16 + 2 + _ ≤ _; omega)) ?_
            rintro _ w14_2 ⟨rfl, h14_2⟩
            refine ⟨_, rfl, ?_⟩
            have L19 := L17.trans h14_2
            have f20 := (f0_0.le (h14_1.trans h14_2))
            refine W.ef0 rfl rfl ?_
            refine Ef.storeAll sz33 (by simp [(tag_length _ _), List.length_replicate]) rfl rfl f20 (by simp [(tag_length _ _), List.length_replicate]) (all_u8v _) ?_
            intro w14_3 b14_3 h14_3
            have b14_3 : Blk w14_3 g0_1 33 ((tag nAd [(rowsN ((adNums e no gone).take k))]).map u8v).toArray := b14_3
            have L21 : Le w w14_3 := L19.then_ h14_3 (fun q hq => by cases hq; exact Nat.le_trans L1.size hg0_1)
            refine W.nil ?_
            refine E.thenN ?_
            refine WC.ret ?_
            refine E.retG1 rfl (resA rfl b14_3 ag33 (by simp [(tag_length _ _)])) ?_
            exact ⟨by rw [sumA, if_pos (by assumption), List.take_of_length_le (by omega)], L21⟩
    · refine WC.condY rfl (congrArg not ((Bool.eq_false_iff.2 c0))) ?_
      refine WC.seq ?_
      refine WC.region ?_
      refine W.any (.buildA (cells := ((List.replicate 32 (0 : BitVec 8)).map u8v).toArray) Tryz.underlying33 sz5 z33 rfl rfl) rfl rfl rfl ?_
      have f22 := (b0_1.le (h1_1.trans h2_4))
      refine W.ef0 rfl rfl ?_
      refine Ef.storeAll sz33 (by simp [List.length_replicate, List.length_replicate]) rfl rfl f22 (by simp [List.length_replicate, List.length_replicate]) (all_u8v _) ?_
      intro w3_1 b3_1 h3_1
      have b3_1 : Blk w3_1 g0_1 33 ((List.replicate 32 (0 : BitVec 8)).map u8v).toArray := b3_1
      have L23 : Le w w3_1 := L5.then_ h3_1 (fun q hq => by cases hq; exact Nat.le_trans L1.size hg0_1)
      refine W.nil ?_
      refine E.thenN ?_
      refine WC.ret ?_
      refine E.thenR ?_
      refine E.retG1 rfl (resA rfl b3_1 ag33 (by simp [List.length_replicate])) ?_
      exact ⟨by rw [sumA, if_neg (by rw [mayA]; simp [q2_2, c0])], L23⟩
  · refine W.any (.dec (.move rfl) (congrArg not ((Bool.eq_false_iff.2 q2_2)))) rfl rfl rfl ?_
    refine W.skip rfl rfl rfl (rfl) rfl rfl ?_
    refine W.skip rfl rfl rfl (rfl) rfl rfl ?_
    refine W.skip rfl rfl rfl (rfl) rfl rfl ?_
    refine W.any (.pickT rfl rfl rfl) rfl rfl rfl ?_
    refine W.nil ?_
    refine E.thenN ?_
    refine WC.condT rfl ?_
    refine WC.seq ?_
    refine WC.region ?_
    refine W.any (.buildA (cells := ((List.replicate 32 (0 : BitVec 8)).map u8v).toArray) Tryz.underlying33 sz5 z33 rfl rfl) rfl rfl rfl ?_
    have f24 := (b0_1.le h1_1)
    refine W.ef0 rfl rfl ?_
    refine Ef.storeAll sz33 (by simp [List.length_replicate, List.length_replicate]) rfl rfl f24 (by simp [List.length_replicate, List.length_replicate]) (all_u8v _) ?_
    intro w3_1_1 b3_1_1 h3_1_1
    have b3_1_1 : Blk w3_1_1 g0_1 33 ((List.replicate 32 (0 : BitVec 8)).map u8v).toArray := b3_1_1
    have L25 : Le w w3_1_1 := L4.then_ h3_1_1 (fun q hq => by cases hq; exact Nat.le_trans L1.size hg0_1)
    refine W.nil ?_
    refine E.thenN ?_
    refine WC.ret ?_
    refine E.thenR ?_
    refine E.retG1 rfl (resA rfl b3_1_1 ag33 (by simp [List.length_replicate])) ?_
    exact ⟨by rw [sumA, if_neg (by rw [mayA]; simp [q2_2])], L25⟩

theorem rasign_ok (k : Nat) (e : Gsp.Edge) (no : Int) (gone : Bool) (hk : k < 18446744073709551616) (w : World) : Calls Tryz.prog 10 #[.int .u64 (((k : Nat) : Int)), .agg (edgeV e).toArray, .int .i64 (no), .bool (gone)] w fun r w' => r = .returned (.agg (adV (signA k e no gone)).toArray) ∧ Le w w' := by
  refine enter Tryz.func10 rfl rfl ?_
  have L0 := Le.refl w
  refine WC.seq ?_
  refine WC.region ?_
  refine W.ef rfl rfl rfl ?_
  refine Ef.boxA rfl ?_
  intro g0_0 w0_0 hg0_0 b0_0 h0_0
  have L1 := L0.trans h0_0
  have b0_0 : Blk w0_0 g0_0 27 (edgeV e).toArray := b0_0
  refine W.ef rfl rfl rfl ?_
  refine Ef.allocA z39 ?_
  intro g0_1 w0_1 hg0_1 b0_1 h0_1
  have L2 := L1.trans h0_1
  have b0_1 : Blk w0_1 g0_1 39 (adV noAd).toArray := b0_1
  refine W.nil ?_
  refine E.thenN ?_
  refine WC.seq ?_
  refine WC.region ?_
  have f3 := (b0_0.le h0_1)
  refine W.rd (.loadAll ag27 (by rfl) rfl f3) rfl rfl rfl ?_
  refine W.ef rfl rfl rfl ?_
  refine Ef.call go6 rfl rfl (raright_ok e w0_1) ?_
  rintro _ w1_1 ⟨rfl, h1_1⟩
  refine ⟨_, rfl, ?_⟩
  have L4 := L2.trans h1_1
  refine W.any (.assign rfl) rfl rfl rfl ?_
  refine W.nil ?_
  refine E.thenN ?_
  refine WC.seq ?_
  refine WC.seq ?_
  refine WC.region ?_
  refine W.any (.move rfl) rfl rfl rfl ?_
  refine W.any (.not rfl) rfl rfl rfl ?_
  by_cases q2_2 : (edgeA e) = true
  · refine W.any (.dec (.move rfl) (congrArg not (q2_2))) rfl rfl rfl ?_
    refine W.rdg (Any.rd (.move rfl) _) rfl rfl rfl (rfl) rfl rfl ?_
    refine W.efg rfl rfl rfl (rfl) rfl rfl ?_
    refine Ef.call go27 rfl rfl (rin_ok no 1 1048576 w1_1) ?_
    rintro _ w2_4 ⟨rfl, h2_4⟩
    refine ⟨_, rfl, ?_⟩
    have L5 := L4.trans h2_4
    refine W.rdg (Any.rd (.not rfl) _) rfl rfl rfl (rfl) rfl rfl ?_
    refine W.any (.pickF rfl rfl rfl) rfl rfl rfl ?_
    refine W.nil ?_
    refine E.thenN ?_
    by_cases c0 : (inB no 1 1048576) = true
    · refine WC.condN rfl (congrArg not (c0)) ?_
      refine WC.skip ?_
      refine E.thenN ?_
      refine WC.seq ?_
      refine WC.draw [0, 1, 2, 3, 4, 5, 6, 7, 8, 9, 10] mixed (by kernel_rfl) ?_
      intro w4 d4
      have L6 := L5.trans d4
      have f7 := (f3.le (h1_1.trans (h2_4.trans d4)))
      refine G.rd rfl rfl (.loadAll ag27 (by rfl) rfl f7) rfl rfl rfl ?_
      refine G.any rfl rfl (.move rfl) rfl rfl rfl ?_
      refine G.any rfl rfl (.move rfl) rfl rfl rfl ?_
      refine G.any rfl rfl (.move rfl) rfl rfl rfl ?_
      refine G.rd rfl rfl (.loadAll ag27 (by rfl) rfl f7) rfl rfl rfl ?_
      refine G.any rfl rfl (.move rfl) rfl rfl rfl ?_
      refine G.any rfl rfl (.move rfl) rfl rfl rfl ?_
      refine G.ef rfl rfl rfl rfl rfl ?_
      refine Ef.call go8 rfl rfl (rasum_ok e no gone w4) ?_
      rintro _ w4_7 ⟨rfl, h4_7⟩
      refine ⟨_, rfl, ?_⟩
      refine ⟨fun _ => h4_7, ?_⟩
      have L8 := L6.trans h4_7
      refine G.ef rfl rfl rfl rfl rfl ?_
      refine Ef.call go34 rfl rfl (rssign_ok k (sumA e no gone) (sumA_length _ _ _) hk w4_7) ?_
      rintro _ w4_8 ⟨rfl, h4_8⟩
      refine ⟨_, rfl, ?_⟩
      refine ⟨fun _ => h4_8, ?_⟩
      have L9 := L8.trans h4_8
      refine G.any rfl rfl (.buildP (adV (Asp.Ad.mk e no gone (signB k (sumA e no gone)))) pl39 z39 rfl rfl) rfl rfl rfl ?_
      have f10 := (b0_1.le (h1_1.trans (h2_4.trans (d4.trans (h4_7.trans h4_8)))))
      refine G.ef0 rfl rfl rfl rfl ?_
      refine Ef.storeAll sz39 (by rfl) rfl rfl f10 (by simp only [List.size_toArray, adV_row.len]) (adV_row.one (Asp.Ad.mk e no gone (signB k (sumA e no gone)))) ?_
      intro w4_10 b4_10 h4_10
      refine ⟨fun h => absurd h (ne_true_of_eq_false (by kernel_rfl)), ?_⟩
      have b4_10 : Blk w4_10 g0_1 39 (adV (Asp.Ad.mk e no gone (signB k (sumA e no gone)))).toArray := b4_10
      have L11 : Le w w4_10 := L9.then_ h4_10 (fun q hq => by cases hq; exact Nat.le_trans L1.size hg0_1)
      refine G.nil ?_
      refine E.thenN ?_
      refine WC.ret ?_
      refine E.retG1 rfl (resA rfl b4_10 ag39 (by rfl)) ?_
      exact ⟨(by first | rfl | (simp [signA, mayA, q2_2, c0]; done) | (simp [signA, mayA, q2_2, c0]; omega) | (simp [signA, mayA, q2_2, c0]; split <;> first | (exfalso; omega) | (simp; done) | (simp; omega))), L11⟩
    · refine WC.condY rfl (congrArg not ((Bool.eq_false_iff.2 c0))) ?_
      refine WC.seq ?_
      refine WC.region ?_
      refine W.any (.buildP (adV noAd) pl39 z39 rfl rfl) rfl rfl rfl ?_
      have f12 := (b0_1.le (h1_1.trans h2_4))
      refine W.ef0 rfl rfl ?_
      refine Ef.storeAll sz39 (by rfl) rfl rfl f12 (by simp only [List.size_toArray, adV_row.len]) (adV_row.one noAd) ?_
      intro w3_1 b3_1 h3_1
      have b3_1 : Blk w3_1 g0_1 39 (adV noAd).toArray := b3_1
      have L13 : Le w w3_1 := L5.then_ h3_1 (fun q hq => by cases hq; exact Nat.le_trans L1.size hg0_1)
      refine W.nil ?_
      refine E.thenN ?_
      refine WC.ret ?_
      refine E.thenR ?_
      refine E.retG1 rfl (resA rfl b3_1 ag39 (by rfl)) ?_
      exact ⟨(by first | rfl | (simp [signA, mayA, q2_2, c0]; done) | (simp [signA, mayA, q2_2, c0]; omega) | (simp [signA, mayA, q2_2, c0]; split <;> first | (exfalso; omega) | (simp; done) | (simp; omega))), L13⟩
  · refine W.any (.dec (.move rfl) (congrArg not ((Bool.eq_false_iff.2 q2_2)))) rfl rfl rfl ?_
    refine W.skip rfl rfl rfl (rfl) rfl rfl ?_
    refine W.skip rfl rfl rfl (rfl) rfl rfl ?_
    refine W.skip rfl rfl rfl (rfl) rfl rfl ?_
    refine W.any (.pickT rfl rfl rfl) rfl rfl rfl ?_
    refine W.nil ?_
    refine E.thenN ?_
    refine WC.condT rfl ?_
    refine WC.seq ?_
    refine WC.region ?_
    refine W.any (.buildP (adV noAd) pl39 z39 rfl rfl) rfl rfl rfl ?_
    have f14 := (b0_1.le h1_1)
    refine W.ef0 rfl rfl ?_
    refine Ef.storeAll sz39 (by rfl) rfl rfl f14 (by simp only [List.size_toArray, adV_row.len]) (adV_row.one noAd) ?_
    intro w3_1_1 b3_1_1 h3_1_1
    have b3_1_1 : Blk w3_1_1 g0_1 39 (adV noAd).toArray := b3_1_1
    have L15 : Le w w3_1_1 := L4.then_ h3_1_1 (fun q hq => by cases hq; exact Nat.le_trans L1.size hg0_1)
    refine W.nil ?_
    refine E.thenN ?_
    refine WC.ret ?_
    refine E.thenR ?_
    refine E.retG1 rfl (resA rfl b3_1_1 ag39 (by rfl)) ?_
    exact ⟨(by first | rfl | (simp [signA, mayA, q2_2]; done) | (simp [signA, mayA, q2_2]; omega) | (simp [signA, mayA, q2_2]; split <;> first | (exfalso; omega) | (simp; done) | (simp; omega))), L15⟩

theorem raverify_ok (p : Nat) (a : Asp.Ad) (hp : p < 18446744073709551616) (hr : a.sg.r < 18446744073709551616) (w : World) : Calls Tryz.prog 40 #[.int .u64 (((p : Nat) : Int)), .agg (adV a).toArray] w fun r w' => r = .returned (.bool (verifyA p a)) ∧ Le w w' := by
  refine enter Tryz.func40 rfl rfl ?_
  have L0 := Le.refl w
  refine WC.seq ?_
  refine WC.region ?_
  refine W.ef rfl rfl rfl ?_
  refine Ef.boxA rfl ?_
  intro g0_0 w0_0 hg0_0 b0_0 h0_0
  have L1 := L0.trans h0_0
  have b0_0 : Blk w0_0 g0_0 39 (adV a).toArray := b0_0
  refine W.any (.assign rfl) rfl rfl rfl ?_
  refine W.nil ?_
  refine E.thenN ?_
  refine WC.seq ?_
  refine WC.region ?_
  refine W.any (.field0 fa39_0 rfl) rfl rfl rfl ?_
  refine W.rd (.bpart (edgeV a.e) ag27 rfl (by decide) rfl b0_0 rfl) rfl rfl rfl ?_
  refine W.ef rfl rfl rfl ?_
  refine Ef.call go6 rfl rfl (raright_ok a.e w0_0) ?_
  rintro _ w1_2 ⟨rfl, h1_2⟩
  refine ⟨_, rfl, ?_⟩
  have L2 := L1.trans h1_2
  refine W.any (.assign rfl) rfl rfl rfl ?_
  refine W.nil ?_
  refine E.thenN ?_
  refine WC.seq ?_
  refine WC.draw [0, 1, 2, 3, 4, 5, 6, 7, 8, 9, 10, 11, 12, 13, 15, 16, 14, 17, 18, 19] mixed (by kernel_rfl) ?_
  intro w2 d2
  have L3 := L2.trans d2
  refine G.any rfl rfl (.move rfl) rfl rfl rfl ?_
  by_cases q2_1 : (edgeA a.e) = true
  · refine G.any rfl rfl (.dec (.move rfl) (q2_1)) rfl rfl rfl ?_
    refine G.anyg rfl rfl (.field0 fa39_1 rfl) rfl rfl rfl (rfl) rfl rfl ?_
    have f4 := (b0_0.le (h1_2.trans d2))
    refine G.rdg rfl rfl (.loadB (v := .int .i64 (a.no)) na3 rfl f4 rfl) rfl rfl rfl (rfl) rfl rfl ?_
    refine G.efg rfl rfl rfl rfl rfl (rfl) rfl rfl ?_
    refine Ef.call go27 rfl rfl (rin_ok a.no 1 1048576 w2) ?_
    rintro _ w2_4 ⟨rfl, h2_4⟩
    refine ⟨_, rfl, ?_⟩
    refine ⟨fun _ => h2_4, ?_⟩
    have L5 := L3.trans h2_4
    refine G.any rfl rfl (.pickT rfl rfl rfl) rfl rfl rfl ?_
    by_cases q2_6 : (inB a.no 1 1048576) = true
    · refine G.any rfl rfl (.dec (.move rfl) (q2_6)) rfl rfl rfl ?_
      refine G.anyg rfl rfl (.move rfl) rfl rfl rfl (rfl) rfl rfl ?_
      refine G.anyg rfl rfl (.field0 fa39_0 rfl) rfl rfl rfl (rfl) rfl rfl ?_
      have f6 := (f4.le h2_4)
      refine G.rdg rfl rfl (.bpart (edgeV a.e) ag27 rfl (by decide) rfl f6 rfl) rfl rfl rfl (rfl) rfl rfl ?_
      refine G.anyg rfl rfl (.field0 fa39_1 rfl) rfl rfl rfl (rfl) rfl rfl ?_
      refine G.rdg rfl rfl (.loadB (v := .int .i64 (a.no)) na3 rfl f6 rfl) rfl rfl rfl (rfl) rfl rfl ?_
      refine G.anyg rfl rfl (.field0 fa39_2 rfl) rfl rfl rfl (rfl) rfl rfl ?_
      refine G.rdg rfl rfl (.loadB (v := .bool (a.gone)) na4 rfl f6 rfl) rfl rfl rfl (rfl) rfl rfl ?_
      refine G.anyg rfl rfl (.field0 fa39_3 rfl) rfl rfl rfl (rfl) rfl rfl ?_
      refine G.rdg rfl rfl (.bpart (sigV a.sg) ag37 rfl (by decide) rfl f6 rfl) rfl rfl rfl (rfl) rfl rfl ?_
      refine G.efg rfl rfl rfl rfl rfl (rfl) rfl rfl ?_
      refine Ef.call go8 rfl rfl (rasum_ok a.e a.no a.gone w2_4) ?_
      rintro _ w2_14 ⟨rfl, h2_14⟩
      refine ⟨_, rfl, ?_⟩
      refine ⟨fun _ => h2_14, ?_⟩
      have L7 := L5.trans h2_14
      refine G.efg rfl rfl rfl rfl rfl (rfl) rfl rfl ?_
      refine Ef.call go65 rfl rfl (rsverify_ok p (sumA a.e a.no a.gone) (sumA_length _ _ _) a.sg hp hr w2_14) ?_
      rintro _ w2_17 ⟨rfl, h2_17⟩
      refine ⟨_, rfl, ?_⟩
      refine ⟨fun _ => h2_17, ?_⟩
      have L8 := L7.trans h2_17
      refine G.any rfl rfl (.pickT rfl rfl rfl) rfl rfl rfl ?_
      refine G.any rfl rfl (.assign rfl) rfl rfl rfl ?_
      refine G.nil ?_
      refine E.thenN ?_
      refine WC.ret ?_
      refine E.retG1 rfl rfl ?_
      exact ⟨(by first | rfl | (simp [verifyA, mayA, q2_1, q2_6]; done) | (simp [verifyA, mayA, q2_1, q2_6]; omega) | (simp [verifyA, mayA, q2_1, q2_6]; split <;> first | (exfalso; omega) | (simp; done) | (simp; omega))), L8⟩
    · refine G.any rfl rfl (.dec (.move rfl) ((Bool.eq_false_iff.2 q2_6))) rfl rfl rfl ?_
      refine G.skip rfl rfl rfl rfl (rfl) rfl rfl ?_
      refine G.skip rfl rfl rfl rfl (rfl) rfl rfl ?_
      refine G.skip rfl rfl rfl rfl (rfl) rfl rfl ?_
      refine G.skip rfl rfl rfl rfl (rfl) rfl rfl ?_
      refine G.skip rfl rfl rfl rfl (rfl) rfl rfl ?_
      refine G.skip rfl rfl rfl rfl (rfl) rfl rfl ?_
      refine G.skip rfl rfl rfl rfl (rfl) rfl rfl ?_
      refine G.skip rfl rfl rfl rfl (rfl) rfl rfl ?_
      refine G.skip rfl rfl rfl rfl (rfl) rfl rfl ?_
      refine G.skip rfl rfl rfl rfl (rfl) rfl rfl ?_
      refine G.skip rfl rfl rfl rfl (rfl) rfl rfl ?_
      refine G.any rfl rfl (.pickF rfl rfl rfl) rfl rfl rfl ?_
      refine G.any rfl rfl (.assign rfl) rfl rfl rfl ?_
      refine G.nil ?_
      refine E.thenN ?_
      refine WC.ret ?_
      refine E.retG1 rfl rfl ?_
      exact ⟨(by first | rfl | (simp [verifyA, mayA, q2_1, q2_6]; done) | (simp [verifyA, mayA, q2_1, q2_6]; omega) | (simp [verifyA, mayA, q2_1, q2_6]; split <;> first | (exfalso; omega) | (simp; done) | (simp; omega))), L5⟩
  · refine G.any rfl rfl (.dec (.move rfl) ((Bool.eq_false_iff.2 q2_1))) rfl rfl rfl ?_
    refine G.skip rfl rfl rfl rfl (rfl) rfl rfl ?_
    refine G.skip rfl rfl rfl rfl (rfl) rfl rfl ?_
    refine G.skip rfl rfl rfl rfl (rfl) rfl rfl ?_
    refine G.any rfl rfl (.pickF rfl rfl rfl) rfl rfl rfl ?_
    refine G.any rfl rfl (.move rfl) rfl rfl rfl ?_
    refine G.skip rfl rfl rfl rfl (rfl) rfl rfl ?_
    refine G.skip rfl rfl rfl rfl (rfl) rfl rfl ?_
    refine G.skip rfl rfl rfl rfl (rfl) rfl rfl ?_
    refine G.skip rfl rfl rfl rfl (rfl) rfl rfl ?_
    refine G.skip rfl rfl rfl rfl (rfl) rfl rfl ?_
    refine G.skip rfl rfl rfl rfl (rfl) rfl rfl ?_
    refine G.skip rfl rfl rfl rfl (rfl) rfl rfl ?_
    refine G.skip rfl rfl rfl rfl (rfl) rfl rfl ?_
    refine G.skip rfl rfl rfl rfl (rfl) rfl rfl ?_
    refine G.skip rfl rfl rfl rfl (rfl) rfl rfl ?_
    refine G.skip rfl rfl rfl rfl (rfl) rfl rfl ?_
    refine G.any rfl rfl (.pickF rfl rfl rfl) rfl rfl rfl ?_
    refine G.any rfl rfl (.assign rfl) rfl rfl rfl ?_
    refine G.nil ?_
    refine E.thenN ?_
    refine WC.ret ?_
    refine E.retG1 rfl rfl ?_
    exact ⟨(by first | rfl | (simp [verifyA, mayA, q2_1]; done) | (simp [verifyA, mayA, q2_1]; omega) | (simp [verifyA, mayA, q2_1]; split <;> first | (exfalso; omega) | (simp; done) | (simp; omega))), L3⟩
end Go.Proofs.YtbpfhenbcgjpcaaGreat

namespace Go.Proofs.YtbpfhenbcgjpcaaGreat
open Go Go.Sx Go.Hsp Go.Num Go.Osp Go.Gsp Go.Asp Go.Bsp
set_option maxRecDepth 20000
set_option linter.unusedSimpArgs false
set_option linter.unusedVariables false

/-- The document's book in memory. -/
structure RBL (w : World) (gp : Nat) (Ak : Option Addr) (ck : Nat) (Aa : Option Addr) (ca : Nat) (Aw : Option Addr) (cw : Nat) (keys : List Nat) (all : List Asp.Ad) (wh : List Int) : Prop where
  hp : Blk w gp 75 #[.slice Ak keys.length ck, .slice Aa all.length ca, .slice Aw wh.length cw]
  hK : OVec w 0 35 pv1 1 Ak keys.length ck keys
  hA : OVec w 0 39 adV 13 Aa all.length ca all
  hW : OVec w 0 3 iv 1 Aw wh.length cw wh
  kp : rowOf Ak ck ≠ some gp
  ap : rowOf Aa ca ≠ some gp
  wp : rowOf Aw cw ≠ some gp
  ak : Apart Aa ca Ak ck
  wk : Apart Aw cw Ak ck
  aw : Apart Aa ca Aw cw
def RBF (gp : Nat) (Ak : Option Addr) (ck : Nat) (Aa : Option Addr) (ca : Nat) (Aw : Option Addr) (cw : Nat) (k : Nat) : Prop := k = gp ∨ rowOf Ak ck = some k ∨ rowOf Aa ca = some k ∨ rowOf Aw cw = some k
section
variable {w w' : World} {gp ck ca cw : Nat} {Ak Aa Aw : Option Addr} {keys : List Nat} {all : List Asp.Ad} {wh : List Int}
theorem RBL.chP {F : Nat → Prop} (h : RBL w gp Ak ck Aa ca Aw cw keys all wh) (hc : ChP w w' F) (hne : ∀ k, RBF gp Ak ck Aa ca Aw cw k → ¬ F k) : RBL w' gp Ak ck Aa ca Aw cw keys all wh :=
  ⟨h.hp.chP hc (hne _ (.inl rfl)), h.hK.chP hc (fun k hk => hne _ (.inr (.inl hk))), h.hA.chP hc (fun k hk => hne _ (.inr (.inr (.inl hk)))), h.hW.chP hc (fun k hk => hne _ (.inr (.inr (.inr hk)))), h.kp, h.ap, h.wp, h.ak, h.wk, h.aw⟩
theorem RBL.lt (h : RBL w gp Ak ck Aa ca Aw cw keys all wh) {k : Nat} (hk : RBF gp Ak ck Aa ca Aw cw k) : k < w.heap.size := by
  rcases hk with rfl | hk | hk | hk
  · exact h.hp.lt
  · exact (h.hK.row hk).2
  · exact (h.hA.row hk).2
  · exact (h.hW.row hk).2
end
def RBPool (w : World) (base gp : Nat) (F : Nat → Prop) (s : RBk) : Prop := ∃ Ak ck Aa ca Aw cw, RBL w gp Ak ck Aa ca Aw cw s.keys s.all s.wh ∧ s.all.length = s.wh.length ∧ (∀ k, F k ↔ RBF gp Ak ck Aa ca Aw cw k) ∧ ∀ k, F k → base ≤ k
section
variable {w w' : World} {base gp : Nat} {F : Nat → Prop} {s : RBk}
theorem RBPool.chP {F' : Nat → Prop} (h : RBPool w base gp F s) (hc : ChP w w' F') (hne : ∀ k, F k → ¬ F' k) : RBPool w' base gp F s := by
  obtain ⟨Ak, ck, Aa, ca, Aw, cw, h1, h2, h3, h4⟩ := h
  exact ⟨Ak, ck, Aa, ca, Aw, cw, h1.chP hc (fun k hk => hne k ((h3 k).2 hk)), h2, h3, h4⟩
theorem RBPool.ch {r : Option Nat} (h : RBPool w base gp F s) (hc : Ch w w' r) (hne : ∀ k, r = some k → ¬ F k) : RBPool w' base gp F s := h.chP (hc.chP (F := fun k => r = some k) (fun i hi => hi)) (fun k hk hr => hne k hr hk)
theorem RBPool.le (h : RBPool w base gp F s) (hl : Le w w') : RBPool w' base gp F s := h.chP (hl.chP (fun _ => False)) (fun _ _ hf => hf)
theorem RBPool.lt (h : RBPool w base gp F s) {k : Nat} (hk : F k) : k < w.heap.size := by
  obtain ⟨Ak, ck, Aa, ca, Aw, cw, h1, h2, h3, h4⟩ := h
  exact h1.lt ((h3 k).1 hk)
theorem RBPool.old (h : RBPool w base gp F s) {k : Nat} (hk : F k) : base ≤ k := by
  obtain ⟨Ak, ck, Aa, ca, Aw, cw, h1, h2, h3, h4⟩ := h
  exact h4 k hk
theorem RBPool.size (h : RBPool w base gp F s) : base ≤ w.heap.size := by
  obtain ⟨Ak, ck, Aa, ca, Aw, cw, h1, h2, h3, h4⟩ := h
  have := h4 gp ((h3 gp).2 (.inl rfl))
  have := h1.hp.lt
  omega
end
def NoLater (l : List Asp.Ad) (k : Sd) (i : Nat) : Prop := ∀ j, i ≤ j → j < l.length → sdOf (l.getD j noAd) ≠ k
theorem rget_at {l : List Asp.Ad} {k : Sd} {i : Nat} (hi : i < l.length) (hn : NoLater l k (i + 1)) (h : sdOf (l.getD i noAd) = k) : rget l k = some (l.getD i noAd) := by
  have key : ∀ m, i + 1 + m ≤ l.length → rget (l.take (i + 1 + m)) k = some (l.getD i noAd) := by
    intro m
    induction m with
    | zero => intro _; rw [Nat.add_zero, take_snocA hi, rget_snoc, if_pos h.symm]
    | succ m ih =>
      intro hm
      rw [← Nat.add_assoc, take_snocA (by omega), rget_snoc, if_neg (fun e => hn (i + 1 + m) (by omega) (by omega) e.symm)]
      exact ih (by omega)
  have := key (l.length - (i + 1)) (by omega)
  rwa [List.take_of_length_le (by omega)] at this
theorem rget_no {l : List Asp.Ad} {k : Sd} (hn : NoLater l k 0) : rget l k = none := by
  cases e : rget l k with
  | none => rfl
  | some x =>
    obtain ⟨h1, h2⟩ := rget_mem e
    obtain ⟨j, hj, rfl⟩ := List.mem_iff_getElem.1 h1
    exact absurd (by simpa [List.getD, hj] using h2) (hn j (Nat.zero_le _) hj)
theorem any_nextA {l : List Asp.Ad} {f : Asp.Ad → Bool} {k : Nat} (h : k < l.length) : (l.take (k + 1)).any f = ((l.take k).any f || f (l.getD k noAd)) := by
  rw [take_snocA h, List.any_append]
  simp
theorem any_more {l : List Asp.Ad} {f : Asp.Ad → Bool} {k : Nat} (h : k < l.length) (hf : f (l.getD k noAd) = true) : l.any f = true := List.any_eq_true.2 ⟨_, by have : l.getD k noAd = l[k] := (by simp [List.getD, h]); rw [this]; exact List.getElem_mem h, hf⟩
theorem redges_next {l : List Asp.Ad} {k : Nat} (h : k < l.length) : (((l.take (k + 1)).filter fun a => !a.gone).map (·.e)) = ((l.take k).filter fun a => !a.gone).map (·.e) ++ if (l.getD k noAd).gone then [] else [(l.getD k noAd).e] := by
  rw [take_snocA h, List.filter_append, List.map_append]
  congr 1
  cases e : (l.getD k noAd).gone <;> simp [List.filter_cons, e, -List.getD_eq_getElem?_getD]
theorem rbnew_ok {Ao : Option Addr} {nk co : Nat} {keys : List Nat} (w : World) (hV : Vec w pv1 1 Ao nk keys) : Calls Tryz.prog 12 #[.slice Ao nk co] w fun r w' => (12 < nk ∧ r = .returned (.pointer none) ∧ Le w w') ∨ (nk ≤ 12 ∧ ∃ gp Ak ck, r = .returned (.pointer (some ⟨gp, 0, none⟩)) ∧ RBL w' gp Ak ck none 0 none 0 keys [] [] ∧ (∀ k, RBF gp Ak ck none 0 none 0 k → w.heap.size ≤ k) ∧ Le w w') := by
  refine enter Tryz.func12 rfl rfl ?_
  have L0 := Le.refl w
  refine WC.seq ?_
  refine WC.region ?_
  refine W.any (.assign rfl) rfl rfl rfl ?_
  refine W.nil ?_
  refine E.thenN ?_
  refine WC.seq ?_
  refine WC.seq ?_
  refine WC.region ?_
  refine W.any (.move rfl) rfl rfl rfl ?_
  refine W.rd (.len Tryz.underlying22 rfl) rfl rfl rfl ?_
  refine W.any (.gtr rfl rfl) rfl rfl rfl ?_
  refine W.nil ?_
  refine E.thenN ?_
  by_cases c0 : 12 < ((nk : Nat) : Int)
  · refine WC.condY rfl (decide_eq_true c0) ?_
    refine WC.seq ?_
    refine WC.region ?_
    refine W.any (.assign rfl) rfl rfl rfl ?_
    refine W.nil ?_
    refine E.thenN ?_
    refine WC.ret ?_
    refine E.thenR ?_
    refine E.retG1 rfl rfl ?_
    exact .inl ⟨by omega, rfl, L0⟩
  · refine WC.condN rfl (decide_eq_false c0) ?_
    refine WC.skip ?_
    refine E.thenN ?_
    refine WC.seq ?_
    refine WC.region ?_
    refine W.ef rfl rfl rfl ?_
    refine Ef.buildSlice0 Tryz.underlying22 el35 ?_
    intro g3_0 w3_0 hg3_0 b3_0 h3_0
    have L1 := L0.trans h3_0
    have o3_0 : OVec w3_0 w.heap.size 35 pv1 1 (some ⟨g3_0, 0, none⟩) 0 0 [] := OVec.nil _ _ _ _ _ _
    refine W.any (.move rfl) rfl rfl rfl ?_
    refine W.ef rfl rfl rfl ?_
    refine Ef.vcat Tryz.underlying22 el35 Tryz.underlying22 pv1_row rfl o3_0 rfl (hV.le L1) (by omega) (by unfold maxLen; omega) (by have := h3_0.size; omega) ?_
    intro A3_2 c3_2 w3_2 o3_2 h3_2 at3_2
    have L2 : Le w w3_2 := L1.then_ h3_2 (fun q hq => Nat.le_trans L0.size (o3_0.row hq).1)
    refine W.any (.buildP [.slice A3_2 (0 + nk) c3_2, .slice none 0 0, .slice none 0 0] pl75 z75 rfl rfl) rfl rfl rfl ?_
    refine W.ef rfl rfl rfl ?_
    refine Ef.boxA rfl ?_
    intro g3_4 w3_4 hg3_4 b3_4 h3_4
    have L3 := L2.trans h3_4
    have b3_4 : Blk w3_4 g3_4 75 #[.slice A3_2 (0 + nk) c3_2, .slice none 0 0, .slice none 0 0] := b3_4
    refine W.any (.assign rfl) rfl rfl rfl ?_
    refine W.nil ?_
    refine E.thenN ?_
    refine WC.ret ?_
    have f4 := (o3_2.le h3_4)
    refine E.retG1 rfl rfl ?_
    have hnl := hV.1; subst hnl; have hz : (0 + keys.length) = keys.length := (by omega); exact .inr ⟨by omega, _, _, _, rfl, ⟨(by have hq := b3_4; first | exact hq | (simpa using hq)), ((f4.mono (Nat.zero_le _)).cast (by omega) (by simp)), OVec.nil _ _ _ _ _ _, OVec.nil _ _ _ _ _ _, (fun he => by have := (o3_2.row he).2; omega), (by simp [rowOf]), (by simp [rowOf]), (fun q h1 => by simp [rowOf] at h1), (fun q h1 => by simp [rowOf] at h1), (fun q h1 => by simp [rowOf] at h1)⟩, (fun k hk => Or.elim hk (fun e => e ▸ (Nat.le_trans L2.size hg3_4)) (fun hk => Or.elim hk (fun hk => ((f4.mono L0.size).row hk).1) (fun hk => Or.elim hk (fun hk => by simp [rowOf] at hk) (fun hk => by simp [rowOf] at hk)))), L3⟩

theorem rbget_ok {gp ck ca cw : Nat} {Ak Aa Aw : Option Addr} {keys : List Nat} {all : List Asp.Ad} {wh : List Int} (ch fr : Int) (w : World) (hL : RBL w gp Ak ck Aa ca Aw cw keys all wh) (hal : all.length ≤ 1000) : Calls Tryz.prog 19 #[.pointer (some ⟨gp, 0, none⟩), .int .i64 (ch), .int .i64 (fr)] w fun r w' => r = .returned (.tuple #[.agg (adV ((rget all (Bsp.Sd.mk ch fr)).getD noAd)).toArray, .bool (rget all (Bsp.Sd.mk ch fr)).isSome]) ∧ Le w w' := by
  refine enter Tryz.func19 rfl rfl ?_
  have L0 := Le.refl w
  refine WC.seq ?_
  refine WC.region ?_
  refine W.ef rfl rfl rfl ?_
  refine Ef.allocA z39 ?_
  intro g0_0 w0_0 hg0_0 b0_0 h0_0
  have L1 := L0.trans h0_0
  have b0_0 : Blk w0_0 g0_0 39 (adV noAd).toArray := b0_0
  refine W.any (.assign rfl) rfl rfl rfl ?_
  refine W.nil ?_
  refine E.thenN ?_
  refine WC.seq ?_
  refine WC.seq ?_
  refine WC.region ?_
  refine W.any (.move rfl) rfl rfl rfl ?_
  refine W.any (.nilCheck rfl) rfl rfl rfl ?_
  refine W.any (.field0 fa75_1 rfl) rfl rfl rfl ?_
  refine W.rd (.loadB (v := .slice Aa all.length ca) na50 rfl (hL.hp.le L1) rfl) rfl rfl rfl ?_
  refine W.rd (.len Tryz.underlying50 rfl) rfl rfl rfl ?_
  refine W.any (.sub rfl rfl (by omega)) rfl rfl rfl ?_
  refine W.any (.assign rfl) rfl rfl rfl ?_
  refine W.nil ?_
  refine E.thenN ?_
  refine WC.block ?_
  refine WC.loop (ι := Nat) (fun m => [(0, .pointer (some ⟨gp, 0, none⟩)), (1, .int .i64 (ch)), (2, .int .i64 (fr)), (6, .pointer (some ⟨g0_0, 0, none⟩)), (8, .int .i64 ((((m : Nat) : Int) - 1)))]) (fun m wl0 => (m ≤ all.length) ∧ (NoLater all (Bsp.Sd.mk ch fr) m) ∧ Le w wl0 ∧ w0_0.heap.size ≤ wl0.heap.size ∧ Blk wl0 g0_0 39 (adV noAd).toArray) (fun m => m) all.length ?_ ?_ ?_
  · exact .cons rfl (.cons rfl (.cons rfl (.cons rfl (.cons rfl (.nil _)))))
  · exact ⟨Nat.le_refl _, fun j h1 h2 => absurd h2 (by omega), L1, Nat.le_refl _, b0_0⟩
  · rintro m wl0 ⟨hm, hno, Ll0, zl0, f0_0⟩
    refine WC.seq ?_
    refine WC.seq ?_
    refine WC.region ?_
    refine W.any (.move rfl) rfl rfl rfl ?_
    refine W.any (.geq rfl rfl) rfl rfl rfl ?_
    refine W.nil ?_
    refine E.thenN ?_
    by_cases c0 : 0 ≤ (((m : Nat) : Int) - 1)
    · refine WC.condY rfl (decide_eq_true c0) ?_
      refine WC.skip ?_
      refine E.thenN ?_
      refine WC.seq ?_
      refine WC.block ?_
      refine WC.seq ?_
      refine WC.region ?_
      refine W.any (.move rfl) rfl rfl rfl ?_
      refine W.any (.nilCheck rfl) rfl rfl rfl ?_
      refine W.any (.field0 fa75_1 rfl) rfl rfl rfl ?_
      refine W.rd (.loadB (v := .slice Aa all.length ca) na50 rfl (hL.hp.le Ll0) rfl) rfl rfl rfl ?_
      refine W.any (.move rfl) rfl rfl rfl ?_
      refine W.any (.idxS ((m - 1)) Tryz.underlying50 sz39 rfl rfl (hL.hA.vec.isSome adV_row (by omega)) (by omega) (by omega)) rfl rfl rfl ?_
      refine W.any (.vfield fa39_0 (hL.hA.vec.isSome adV_row (by omega)) rfl) rfl rfl rfl ?_
      refine W.any (.vfield fa27_2 (hL.hA.vec.isSome adV_row (by omega)) rfl) rfl rfl rfl ?_
      refine W.rd (.vcell (j := (m - 1)) (o := 2) (v := .int .i64 ((all.getD (m - 1) noAd).e.c)) na3 rfl (hL.hA.vec.le Ll0) adV_row (getS all noAd (by first | omega | (simp only [List.length_cons, List.length_nil]; omega))) rfl) rfl rfl rfl ?_
      refine W.any (.move rfl) rfl rfl rfl ?_
      refine W.any (.eql rfl rfl) rfl rfl rfl ?_
      by_cases q4_11 : ((all.getD (m - 1) noAd).e.c) = ch
      · refine W.any (.dec (.move rfl) (decide_eq_true q4_11)) rfl rfl rfl ?_
        refine W.rdg (Any.rd (.move rfl) _) rfl rfl rfl (rfl) rfl rfl ?_
        refine W.rdg (Any.rd (.nilCheck rfl) _) rfl rfl rfl (rfl) rfl rfl ?_
        refine W.rdg (Any.rd (.field0 fa75_1 rfl) _) rfl rfl rfl (rfl) rfl rfl ?_
        refine W.rdg (.loadB (v := .slice Aa all.length ca) na50 rfl (hL.hp.le Ll0) rfl) rfl rfl rfl (rfl) rfl rfl ?_
        refine W.rdg (Any.rd (.move rfl) _) rfl rfl rfl (rfl) rfl rfl ?_
        refine W.rdg (Any.rd (.idxS ((m - 1)) Tryz.underlying50 sz39 rfl rfl (hL.hA.vec.isSome adV_row (by omega)) (by omega) (by omega)) _) rfl rfl rfl (rfl) rfl rfl ?_
        refine W.rdg (Any.rd (.vfield fa39_0 (hL.hA.vec.isSome adV_row (by omega)) rfl) _) rfl rfl rfl (rfl) rfl rfl ?_
        refine W.rdg (Any.rd (.vfield fa27_0 (hL.hA.vec.isSome adV_row (by omega)) rfl) _) rfl rfl rfl (rfl) rfl rfl ?_
        refine W.rdg (.vcell (j := (m - 1)) (o := 0) (v := .int .i64 ((all.getD (m - 1) noAd).e.f)) na3 rfl (hL.hA.vec.le Ll0) adV_row (getS all noAd (by first | omega | (simp only [List.length_cons, List.length_nil]; omega))) rfl) rfl rfl rfl (rfl) rfl rfl ?_
        refine W.rdg (Any.rd (.move rfl) _) rfl rfl rfl (rfl) rfl rfl ?_
        refine W.rdg (Any.rd (.eql rfl rfl) _) rfl rfl rfl (rfl) rfl rfl ?_
        refine W.any (.pickT rfl rfl rfl) rfl rfl rfl ?_
        refine W.nil ?_
        refine E.thenN ?_
        by_cases c1 : ((all.getD (m - 1) noAd).e.f) = fr
        · refine WC.condY rfl (decide_eq_true c1) ?_
          refine WC.seq ?_
          refine WC.region ?_
          refine W.any (.move rfl) rfl rfl rfl ?_
          refine W.any (.nilCheck rfl) rfl rfl rfl ?_
          refine W.any (.field0 fa75_1 rfl) rfl rfl rfl ?_
          refine W.rd (.loadB (v := .slice Aa all.length ca) na50 rfl (hL.hp.le Ll0) rfl) rfl rfl rfl ?_
          refine W.any (.move rfl) rfl rfl rfl ?_
          refine W.any (.idxS ((m - 1)) Tryz.underlying50 sz39 rfl rfl (hL.hA.vec.isSome adV_row (by omega)) (by omega) (by omega)) rfl rfl rfl ?_
          refine W.rd (.vload ag39 rfl (hL.hA.vec.le Ll0) adV_row (getS all noAd (by first | omega | (simp only [List.length_cons, List.length_nil]; omega)))) rfl rfl rfl ?_
          refine W.ef0 rfl rfl ?_
          refine Ef.storeAll sz39 (by rfl) rfl rfl f0_0 (by simp only [List.size_toArray, adV_row.len]) (adV_row.one (all.getD (m - 1) noAd)) ?_
          intro w5_7 b5_7 h5_7
          have b5_7 : Blk w5_7 g0_0 39 (adV (all.getD (m - 1) noAd)).toArray := b5_7
          have L2 : Le w w5_7 := Ll0.then_ h5_7 (fun q hq => by cases hq; exact Nat.le_trans L0.size hg0_0)
          refine W.any (.assign rfl) rfl rfl rfl ?_
          refine W.nil ?_
          refine E.thenN ?_
          refine WC.ret ?_
          refine E.blkR ?_
          refine E.thenR ?_
          refine E.thenR ?_
          refine E.blkR ?_
          refine E.thenR ?_
          refine E.retG2 rfl (resA rfl b5_7 ag39 (by rfl)) rfl ?_
          have hg := rget_at (l := all) (k := (Bsp.Sd.mk ch fr)) (i := m - 1) (by omega) (fun j h1 h2 => hno j (by omega) h2) (by unfold sdOf; rw [show (all.getD (m - 1) noAd).e.c = ch by assumption, show (all.getD (m - 1) noAd).e.f = fr by assumption]); exact ⟨by rw [hg]; rfl, L2⟩
        · refine WC.condN rfl (decide_eq_false c1) ?_
          refine WC.skip ?_
          refine E.blkN ?_
          refine E.thenN ?_
          refine WC.region ?_
          refine W.any (.move rfl) rfl rfl rfl ?_
          refine W.any (.sub rfl rfl (by omega)) rfl rfl rfl ?_
          refine W.any (.assign rfl) rfl rfl rfl ?_
          refine W.nil ?_
          refine E.again (m - 1) (.cons rfl (.cons rfl (.cons rfl (.cons rfl (.cons' rfl (int_eq (by omega)) (.nil _)))))) ?_ ?_
          · exact ⟨by omega, fun j h1 h2 => by rcases Nat.lt_or_ge j m with h | h; (rw [show j = m - 1 by omega]; intro he; have e1 : (all.getD (m - 1) noAd).e.c = ch := congrArg Sd.c he; have e2 : (all.getD (m - 1) noAd).e.f = fr := congrArg Sd.f he; first | (exact absurd e1 (by assumption)) | (exact absurd e2 (by assumption))); exact hno j h h2, Ll0, by have := zl0; omega, f0_0⟩
          · first | omega | (simp only []; omega)
      · refine W.any (.dec (.move rfl) (decide_eq_false q4_11)) rfl rfl rfl ?_
        refine W.skip rfl rfl rfl (rfl) rfl rfl ?_
        refine W.skip rfl rfl rfl (rfl) rfl rfl ?_
        refine W.skip rfl rfl rfl (rfl) rfl rfl ?_
        refine W.skip rfl rfl rfl (rfl) rfl rfl ?_
        refine W.skip rfl rfl rfl (rfl) rfl rfl ?_
        refine W.skip rfl rfl rfl (rfl) rfl rfl ?_
        refine W.skip rfl rfl rfl (rfl) rfl rfl ?_
        refine W.skip rfl rfl rfl (rfl) rfl rfl ?_
        refine W.skip rfl rfl rfl (rfl) rfl rfl ?_
        refine W.skip rfl rfl rfl (rfl) rfl rfl ?_
        refine W.skip rfl rfl rfl (rfl) rfl rfl ?_
        refine W.any (.pickF rfl rfl rfl) rfl rfl rfl ?_
        refine W.nil ?_
        refine E.thenN ?_
        refine WC.condF rfl ?_
        refine WC.skip ?_
        refine E.blkN ?_
        refine E.thenN ?_
        refine WC.region ?_
        refine W.any (.move rfl) rfl rfl rfl ?_
        refine W.any (.sub rfl rfl (by omega)) rfl rfl rfl ?_
        refine W.any (.assign rfl) rfl rfl rfl ?_
        refine W.nil ?_
        refine E.again (m - 1) (.cons rfl (.cons rfl (.cons rfl (.cons rfl (.cons' rfl (int_eq (by omega)) (.nil _)))))) ?_ ?_
        · exact ⟨by omega, fun j h1 h2 => by rcases Nat.lt_or_ge j m with h | h; (rw [show j = m - 1 by omega]; intro he; have e1 : (all.getD (m - 1) noAd).e.c = ch := congrArg Sd.c he; have e2 : (all.getD (m - 1) noAd).e.f = fr := congrArg Sd.f he; first | (exact absurd e1 (by assumption)) | (exact absurd e2 (by assumption))); exact hno j h h2, Ll0, by have := zl0; omega, f0_0⟩
        · first | omega | (simp only []; omega)
    · refine WC.condN rfl (decide_eq_false c0) ?_
      refine WC.exit ?_
      refine E.thenX ?_
      refine E.thenX ?_
      refine E.blkH ?_
      refine E.thenN ?_
      refine WC.seq ?_
      refine WC.region ?_
      refine W.any (.buildP (adV noAd) pl39 z39 rfl rfl) rfl rfl rfl ?_
      refine W.ef0 rfl rfl ?_
      refine Ef.storeAll sz39 (by rfl) rfl rfl f0_0 (by simp only [List.size_toArray, adV_row.len]) (adV_row.one noAd) ?_
      intro w6_1 b6_1 h6_1
      have b6_1 : Blk w6_1 g0_0 39 (adV noAd).toArray := b6_1
      have L3 : Le w w6_1 := Ll0.then_ h6_1 (fun q hq => by cases hq; exact Nat.le_trans L0.size hg0_0)
      refine W.any (.assign rfl) rfl rfl rfl ?_
      refine W.nil ?_
      refine E.thenN ?_
      refine WC.ret ?_
      refine E.retG2 rfl (resA rfl b6_1 ag39 (by rfl)) rfl ?_
      have hg := rget_no (l := all) (k := (Bsp.Sd.mk ch fr)) (fun j h1 h2 => hno j (by omega) h2); exact ⟨by rw [hg]; rfl, L3⟩

theorem rbtake_ok {gp ck ca cw : Nat} {Ak Aa Aw : Option Addr} {keys : List Nat} {all : List Asp.Ad} {wh : List Int} (a : Asp.Ad) (h : Int) (w : World) (hL : RBL w gp Ak ck Aa ca Aw cw keys all wh) (hr : a.sg.r < 18446744073709551616) (hkb : ∀ k ∈ keys, k < 18446744073709551616) (hkl : keys.length ≤ 1000) (hal : all.length ≤ 1000) (haw : all.length = wh.length) (hlb : 0 ≤ rlow wh) : Calls Tryz.prog 14 #[.pointer (some ⟨gp, 0, none⟩), .agg (adV a).toArray, .int .i64 (h)] w fun r w' => ChP w w' (fun k => k = gp ∨ rowOf Aa ca = some k ∨ rowOf Aw cw = some k) ∧ (((rtakeC (⟨keys, all, wh⟩ : RBk) a h) ≠ 0 ∧ r = .returned (.int .i64 (rtakeC (⟨keys, all, wh⟩ : RBk) a h)) ∧ RBL w' gp Ak ck Aa ca Aw cw keys all wh) ∨ ((rtakeC (⟨keys, all, wh⟩ : RBk) a h) = 0 ∧ r = .returned (.int .i64 0) ∧ ∃ Aa' ca' Aw' cw', RBL w' gp Ak ck Aa' ca' Aw' cw' keys (all ++ [a]) (wh ++ [h]) ∧ At w Aa ca Aa' ca' ∧ At w Aw cw Aw' cw')) := by
  have hp0 := hL.hp; have hK0 := hL.hK; have hA0 := hL.hA; have hW0 := hL.hW
  refine enter Tryz.func14 rfl rfl ?_
  have L0 := ChP.refl w (fun k => k = gp ∨ rowOf Aa ca = some k ∨ rowOf Aw cw = some k)
  refine WC.seq ?_
  refine WC.region ?_
  refine W.ef rfl rfl rfl ?_
  refine Ef.boxA rfl ?_
  intro g0_0 w0_0 hg0_0 b0_0 h0_0
  have L1 := L0.le h0_0
  have b0_0 : Blk w0_0 g0_0 39 (adV a).toArray := b0_0
  refine W.any (.assign rfl) rfl rfl rfl ?_
  refine W.nil ?_
  refine E.thenN ?_
  refine WC.seq ?_
  refine WC.region ?_
  refine W.any (.field0 fa39_0 rfl) rfl rfl rfl ?_
  refine W.rd (.bpart (edgeV a.e) ag27 rfl (by decide) rfl b0_0 rfl) rfl rfl rfl ?_
  refine W.ef rfl rfl rfl ?_
  refine Ef.call go6 rfl rfl (raright_ok a.e w0_0) ?_
  rintro _ w1_2 ⟨rfl, h1_2⟩
  refine ⟨_, rfl, ?_⟩
  have L2 := L1.le h1_2
  refine W.any (.assign rfl) rfl rfl rfl ?_
  refine W.nil ?_
  refine E.thenN ?_
  refine WC.seq ?_
  refine WC.region ?_
  refine W.any (.assign rfl) rfl rfl rfl ?_
  refine W.nil ?_
  refine E.thenN ?_
  have f3 := (hp0.le (h0_0.trans h1_2))
  have f4 := (hK0.le (h0_0.trans h1_2))
  have f5 := (hA0.le (h0_0.trans h1_2))
  have f6 := (hW0.le (h0_0.trans h1_2))
  have f7 := (b0_0.le h1_2)
  refine WC.cut (ι := Nat) (fun u0 => [(0, .pointer (some ⟨gp, 0, none⟩)), (2, .int .i64 (h)), (4, .pointer (some ⟨g0_0, 0, none⟩)), (7, .bool (edgeA a.e)), (8, .int .i64 ((rlow wh)))]) (fun u0 wc5 => (u0 = u0) ∧ ChP w wc5 (fun k => k = gp ∨ rowOf Aa ca = some k ∨ rowOf Aw cw = some k) ∧ w1_2.heap.size ≤ wc5.heap.size ∧ Blk wc5 gp 75 #[.slice Ak keys.length ck, .slice Aa all.length ca, .slice Aw wh.length cw] ∧ OVec wc5 0 35 pv1 1 Ak keys.length ck keys ∧ OVec wc5 0 39 adV 13 Aa all.length ca all ∧ OVec wc5 0 3 iv 1 Aw wh.length cw wh ∧ Blk wc5 g0_0 39 (adV a).toArray) ?_ ?_
  · refine WC.seq ?_
    refine WC.region ?_
    refine W.any (.move rfl) rfl rfl rfl ?_
    refine W.any (.nilCheck rfl) rfl rfl rfl ?_
    refine W.any (.field0 fa75_2 rfl) rfl rfl rfl ?_
    refine W.rd (.loadB (v := .slice Aw wh.length cw) na65 rfl f3 rfl) rfl rfl rfl ?_
    refine W.rd (.len Tryz.underlying65 rfl) rfl rfl rfl ?_
    refine W.any (.gtr rfl rfl) rfl rfl rfl ?_
    refine W.nil ?_
    refine E.thenN ?_
    by_cases c0 : 0 < ((wh.length : Nat) : Int)
    · refine WC.condY rfl (decide_eq_true c0) ?_
      refine WC.draw [0, 1, 2, 3, 4, 5, 6, 7, 8, 9, 10, 11, 12] mixed (by kernel_rfl) ?_
      intro w4 d4
      have L8 := L2.le d4
      refine G.any rfl rfl (.move rfl) rfl rfl rfl ?_
      refine G.any rfl rfl (.nilCheck rfl) rfl rfl rfl ?_
      refine G.any rfl rfl (.field0 fa75_2 rfl) rfl rfl rfl ?_
      have f9 := (f3.le d4)
      refine G.rd rfl rfl (.loadB (v := .slice Aw wh.length cw) na65 rfl f9 rfl) rfl rfl rfl ?_
      refine G.any rfl rfl (.move rfl) rfl rfl rfl ?_
      refine G.any rfl rfl (.nilCheck rfl) rfl rfl rfl ?_
      refine G.any rfl rfl (.field0 fa75_2 rfl) rfl rfl rfl ?_
      refine G.rd rfl rfl (.loadB (v := .slice Aw wh.length cw) na65 rfl f9 rfl) rfl rfl rfl ?_
      refine G.rd rfl rfl (.len Tryz.underlying65 rfl) rfl rfl rfl ?_
      refine G.any rfl rfl (.sub rfl rfl (by omega)) rfl rfl rfl ?_
      refine G.any rfl rfl (.idxS ((wh.length - 1)) Tryz.underlying65 sz3 rfl rfl (hW0.vec.isSome iv_row (by omega)) (by omega) (by omega)) rfl rfl rfl ?_
      have f10 := (f6.le d4)
      refine G.rd rfl rfl (.vone (v := .int .i64 ((wh.getD (wh.length - 1) 0))) na3 rfl f10.vec iv_row (getS wh 0 (by first | omega | (simp only [List.length_cons, List.length_nil]; omega))) rfl) rfl rfl rfl ?_
      refine G.any rfl rfl (.assign rfl) rfl rfl rfl ?_
      refine G.nil ?_
      have f11 := (f4.le d4)
      have f12 := (f5.le d4)
      have f13 := (f7.le d4)
      refine E.meet 0 (.cons rfl (.cons rfl (.cons rfl (.cons rfl (.cons' rfl (int_eq (by first | rfl | (unfold rlow; rfl) | (unfold rlow; rw [show wh = [] from List.length_eq_zero_iff.1 (by omega)]; rfl))) (.nil _)))))) ?_
      exact ⟨rfl, L8, by have := d4.size; omega, f9, f11, f12, f10, f13⟩
    · refine WC.condN rfl (decide_eq_false c0) ?_
      refine WC.skip ?_
      refine E.meet 0 (.cons rfl (.cons rfl (.cons rfl (.cons rfl (.cons' rfl (int_eq (by first | rfl | (unfold rlow; rfl) | (unfold rlow; rw [show wh = [] from List.length_eq_zero_iff.1 (by omega)]; rfl))) (.nil _)))))) ?_
      exact ⟨rfl, L2, Nat.le_refl _, f3, f4, f5, f6, f7⟩
  · rintro u0 wc5 ⟨_hu, Lc1, sc1, m1_0, m1_1, m1_2, m1_3, m1_4⟩
    refine WC.seq ?_
    refine WC.seq ?_
    refine WC.draw [0, 1, 2, 3, 4, 5, 6, 7, 8, 9, 10, 11, 12, 13, 14, 15, 16, 17, 18, 19, 20, 21, 22, 23, 24] mixed (by kernel_rfl) ?_
    intro w5 d5
    have L14 := Lc1.le d5
    refine G.any rfl rfl (.move rfl) rfl rfl rfl ?_
    refine G.any rfl rfl (.not rfl) rfl rfl rfl ?_
    by_cases q5_2 : (edgeA a.e) = true
    · refine G.any rfl rfl (.dec (.move rfl) (congrArg not (q5_2))) rfl rfl rfl ?_
      refine G.anyg rfl rfl (.field0 fa39_1 rfl) rfl rfl rfl (rfl) rfl rfl ?_
      have f15 := (m1_4.le d5)
      refine G.rdg rfl rfl (.loadB (v := .int .i64 (a.no)) na3 rfl f15 rfl) rfl rfl rfl (rfl) rfl rfl ?_
      refine G.efg rfl rfl rfl rfl rfl (rfl) rfl rfl ?_
      refine Ef.call go27 rfl rfl (rin_ok a.no 1 1048576 w5) ?_
      rintro _ w5_5 ⟨rfl, h5_5⟩
      refine ⟨_, rfl, ?_⟩
      refine ⟨fun _ => h5_5, ?_⟩
      have L16 := L14.le h5_5
      refine G.anyg rfl rfl (.not rfl) rfl rfl rfl (rfl) rfl rfl ?_
      refine G.any rfl rfl (.pickF rfl rfl rfl) rfl rfl rfl ?_
      by_cases q5_8 : (inB a.no 1 1048576) = true
      · refine G.any rfl rfl (.dec (.move rfl) (congrArg not (q5_8))) rfl rfl rfl ?_
        refine G.anyg rfl rfl (.field0 fa39_0 rfl) rfl rfl rfl (rfl) rfl rfl ?_
        refine G.anyg rfl rfl (.field0 fa27_0 rfl) rfl rfl rfl (rfl) rfl rfl ?_
        have f17 := (f15.le h5_5)
        refine G.rdg rfl rfl (.loadB (v := .int .i64 (a.e.f)) na3 rfl f17 rfl) rfl rfl rfl (rfl) rfl rfl ?_
        refine G.anyg rfl rfl (.move rfl) rfl rfl rfl (rfl) rfl rfl ?_
        refine G.anyg rfl rfl (.nilCheck rfl) rfl rfl rfl (rfl) rfl rfl ?_
        refine G.anyg rfl rfl (.field0 fa75_0 rfl) rfl rfl rfl (rfl) rfl rfl ?_
        have f18 := (m1_0.le (d5.trans h5_5))
        refine G.rdg rfl rfl (.loadB (v := .slice Ak keys.length ck) na22 rfl f18 rfl) rfl rfl rfl (rfl) rfl rfl ?_
        refine G.rdg rfl rfl (.len Tryz.underlying22 rfl) rfl rfl rfl (rfl) rfl rfl ?_
        refine G.anyg rfl rfl (.geq rfl rfl) rfl rfl rfl (rfl) rfl rfl ?_
        refine G.any rfl rfl (.pickF rfl rfl rfl) rfl rfl rfl ?_
        by_cases q5_19 : ((keys.length : Nat) : Int) ≤ a.e.f
        · refine G.any rfl rfl (.dec (.move rfl) (decide_eq_true q5_19)) rfl rfl rfl ?_
          refine G.skip rfl rfl rfl rfl (rfl) rfl rfl ?_
          refine G.skip rfl rfl rfl rfl (rfl) rfl rfl ?_
          refine G.skip rfl rfl rfl rfl (rfl) rfl rfl ?_
          refine G.skip rfl rfl rfl rfl (rfl) rfl rfl ?_
          refine G.any rfl rfl (.pickT rfl rfl rfl) rfl rfl rfl ?_
          refine G.nil ?_
          refine E.thenN ?_
          refine WC.condT rfl ?_
          have hbad : mayA a.e a.no = false ∨ (keys.length : Int) ≤ a.e.f ∨ inB h (rlow wh) 1048576 = false := by first | (left; simp [mayA, q5_2, q5_8, q5_19]; done) | (right; left; assumption) | (right; right; simpa using (by assumption : ¬ inB h (rlow wh) 1048576 = true))
          refine WC.seq ?_
          refine WC.region ?_
          refine W.any (.assign rfl) rfl rfl rfl ?_
          refine W.nil ?_
          refine E.thenN ?_
          refine WC.ret ?_
          refine E.thenR ?_
          have f19 := (m1_1.le (d5.trans h5_5))
          have f20 := (m1_2.le (d5.trans h5_5))
          have f21 := (m1_3.le (d5.trans h5_5))
          refine E.retG1 rfl rfl ?_
          have e9 : (rtakeC (⟨keys, all, wh⟩ : RBk) a h) = 1 := (by unfold rtakeC; simp only; rw [if_pos hbad]); exact ⟨L16, .inl ⟨by rw [e9]; decide, by rw [e9], ⟨f18, f19, f20, f21, hL.kp, hL.ap, hL.wp, hL.ak, hL.wk, hL.aw⟩⟩⟩
        · refine G.any rfl rfl (.dec (.move rfl) (decide_eq_false q5_19)) rfl rfl rfl ?_
          refine G.anyg rfl rfl (.move rfl) rfl rfl rfl (rfl) rfl rfl ?_
          refine G.anyg rfl rfl (.move rfl) rfl rfl rfl (rfl) rfl rfl ?_
          refine G.efg rfl rfl rfl rfl rfl (rfl) rfl rfl ?_
          refine Ef.call go27 rfl rfl (rin_ok h (rlow wh) 1048576 w5_5) ?_
          rintro _ w5_22 ⟨rfl, h5_22⟩
          refine ⟨_, rfl, ?_⟩
          refine ⟨fun _ => h5_22, ?_⟩
          have L22 := L16.le h5_22
          refine G.anyg rfl rfl (.not rfl) rfl rfl rfl (rfl) rfl rfl ?_
          refine G.any rfl rfl (.pickF rfl rfl rfl) rfl rfl rfl ?_
          refine G.nil ?_
          refine E.thenN ?_
          by_cases c1 : (inB h (rlow wh) 1048576) = true
          · refine WC.condN rfl (congrArg not (c1)) ?_
            have hm : mayA a.e a.no = true := may_of2 (by assumption) (by assumption)
            have hfl : ¬ (keys.length : Int) ≤ a.e.f := by assumption
            have hin : inB h (rlow wh) 1048576 = true := by assumption
            have hea := edgeA_T (mayA_T hm).1
            have hh := inB_T.1 hin
            have hok : ¬ (mayA a.e a.no = false ∨ (keys.length : Int) ≤ a.e.f ∨ inB h (rlow wh) 1048576 = false) := by rw [hm, hin]; simp; omega
            refine WC.skip ?_
            refine E.thenN ?_
            refine WC.seq ?_
            refine WC.draw [0, 1, 2, 3, 4, 5, 6, 7, 8, 9, 10, 11] mixed (by kernel_rfl) ?_
            intro w7 d7
            have L23 := L22.le d7
            refine G.any rfl rfl (.move rfl) rfl rfl rfl ?_
            refine G.any rfl rfl (.nilCheck rfl) rfl rfl rfl ?_
            refine G.any rfl rfl (.field0 fa75_0 rfl) rfl rfl rfl ?_
            have f24 := (f18.le (h5_22.trans d7))
            refine G.rd rfl rfl (.loadB (v := .slice Ak keys.length ck) na22 rfl f24 rfl) rfl rfl rfl ?_
            refine G.any rfl rfl (.field0 fa39_0 rfl) rfl rfl rfl ?_
            refine G.any rfl rfl (.field0 fa27_0 rfl) rfl rfl rfl ?_
            have f25 := (f17.le (h5_22.trans d7))
            refine G.rd rfl rfl (.loadB (v := .int .i64 (a.e.f)) na3 rfl f25 rfl) rfl rfl rfl ?_
            refine G.any rfl rfl (.idxS (a.e.f.toNat) Tryz.underlying22 sz35 rfl rfl (hK0.vec.isSome pv1_row (by omega)) (by omega) (by omega)) rfl rfl rfl ?_
            have f26 := (m1_1.le (d5.trans (h5_5.trans (h5_22.trans d7))))
            refine G.rd rfl rfl (.vone (v := .int .u64 ((((keys.getD a.e.f.toNat 0) : Nat) : Int))) na35 rfl f26.vec pv1_row (getS keys 0 (by first | omega | (simp only [List.length_cons, List.length_nil]; omega))) rfl) rfl rfl rfl ?_
            refine G.rd rfl rfl (.loadAll ag39 (by rfl) rfl f25) rfl rfl rfl ?_
            refine G.ef rfl rfl rfl rfl rfl ?_
            refine Ef.call go40 rfl rfl (raverify_ok (keys.getD a.e.f.toNat 0) a (hkb _ (getD_mem' (by omega))) hr w7) ?_
            rintro _ w7_10 ⟨rfl, h7_10⟩
            refine ⟨_, rfl, ?_⟩
            refine ⟨fun _ => h7_10, ?_⟩
            have L27 := L23.le h7_10
            refine G.any rfl rfl (.assign rfl) rfl rfl rfl ?_
            refine G.nil ?_
            refine E.thenN ?_
            refine WC.seq ?_
            refine WC.seq ?_
            refine WC.region ?_
            refine W.any (.move rfl) rfl rfl rfl ?_
            refine W.any (.not rfl) rfl rfl rfl ?_
            refine W.nil ?_
            refine E.thenN ?_
            by_cases c2 : (verifyA (keys.getD a.e.f.toNat 0) a) = true
            · refine WC.condN rfl (congrArg not (c2)) ?_
              refine WC.skip ?_
              refine E.thenN ?_
              refine WC.seq ?_
              refine WC.region ?_
              refine W.any (.assign rfl) rfl rfl rfl ?_
              refine W.nil ?_
              refine E.thenN ?_
              refine WC.seq ?_
              refine WC.region ?_
              refine W.any (.assign rfl) rfl rfl rfl ?_
              refine W.nil ?_
              refine E.thenN ?_
              refine WC.seq ?_
              refine WC.seq ?_
              refine WC.region ?_
              refine W.any (.assign rfl) rfl rfl rfl ?_
              refine W.nil ?_
              refine E.thenN ?_
              refine WC.block ?_
              have f28 := (f24.le h7_10)
              have f29 := (f26.le h7_10)
              have f30 := (m1_2.le (d5.trans (h5_5.trans (h5_22.trans (d7.trans h7_10)))))
              have f31 := (m1_3.le (d5.trans (h5_5.trans (h5_22.trans (d7.trans h7_10)))))
              have f32 := (f25.le h7_10)
              refine WC.loop (ι := Nat) (fun i => [(0, .pointer (some ⟨gp, 0, none⟩)), (2, .int .i64 (h)), (4, .pointer (some ⟨g0_0, 0, none⟩)), (10, .int .i64 ((rNew (all.take i) (sdOf a)))), (11, .int .i64 ((((rLate all wh (sdOf a) h i) : Nat) : Int))), (12, .int .i64 (((i : Nat) : Int)))]) (fun i wl0 => (i ≤ all.length) ∧ ((all.take i).any (rbad a.e) = false) ∧ ChP w wl0 (fun k => k = gp ∨ rowOf Aa ca = some k ∨ rowOf Aw cw = some k) ∧ w7_10.heap.size ≤ wl0.heap.size ∧ Blk wl0 gp 75 #[.slice Ak keys.length ck, .slice Aa all.length ca, .slice Aw wh.length cw] ∧ OVec wl0 0 35 pv1 1 Ak keys.length ck keys ∧ OVec wl0 0 39 adV 13 Aa all.length ca all ∧ OVec wl0 0 3 iv 1 Aw wh.length cw wh ∧ Blk wl0 g0_0 39 (adV a).toArray) (fun i => all.length - i) 0 ?_ ?_ ?_
              · exact .cons rfl (.cons rfl (.cons rfl (.cons rfl (.cons rfl (.cons rfl (.nil _))))))
              · exact ⟨Nat.zero_le _, by simp, L27, Nat.le_refl _, f28, f29, f30, f31, f32⟩
              · rintro i wl0 ⟨hi, hnb, Ll0, zl0, f0_0, f0_1, f0_2, f0_3, f0_4⟩
                have hll := rLate_le all wh (sdOf a) h i
                refine WC.seq ?_
                refine WC.seq ?_
                refine WC.region ?_
                refine W.any (.move rfl) rfl rfl rfl ?_
                refine W.any (.move rfl) rfl rfl rfl ?_
                refine W.any (.nilCheck rfl) rfl rfl rfl ?_
                refine W.any (.field0 fa75_1 rfl) rfl rfl rfl ?_
                refine W.rd (.loadB (v := .slice Aa all.length ca) na50 rfl f0_0 rfl) rfl rfl rfl ?_
                refine W.rd (.len Tryz.underlying50 rfl) rfl rfl rfl ?_
                refine W.any (.lss rfl rfl) rfl rfl rfl ?_
                refine W.nil ?_
                refine E.thenN ?_
                by_cases c3 : ((i : Nat) : Int) < ((all.length : Nat) : Int)
                · refine WC.condY rfl (decide_eq_true c3) ?_
                  refine WC.skip ?_
                  refine E.thenN ?_
                  refine WC.seq ?_
                  refine WC.block ?_
                  refine WC.seq ?_
                  refine WC.region ?_
                  refine W.any (.move rfl) rfl rfl rfl ?_
                  refine W.any (.nilCheck rfl) rfl rfl rfl ?_
                  refine W.any (.field0 fa75_1 rfl) rfl rfl rfl ?_
                  refine W.rd (.loadB (v := .slice Aa all.length ca) na50 rfl f0_0 rfl) rfl rfl rfl ?_
                  refine W.any (.move rfl) rfl rfl rfl ?_
                  refine W.any (.idxS (i) Tryz.underlying50 sz39 rfl rfl (hA0.vec.isSome adV_row (by omega)) (rfl) (by omega)) rfl rfl rfl ?_
                  refine W.rd (.vload ag39 rfl f0_2.vec adV_row (getS all noAd (by first | omega | (simp only [List.length_cons, List.length_nil]; omega)))) rfl rfl rfl ?_
                  refine W.ef rfl rfl rfl ?_
                  refine Ef.allocA z39 ?_
                  intro g15_7 w15_7 hg15_7 b15_7 h15_7
                  have L33 := Ll0.le h15_7
                  have b15_7 : Blk w15_7 g15_7 39 (adV noAd).toArray := b15_7
                  refine W.ef0 rfl rfl ?_
                  refine Ef.storeAll sz39 (by rfl) rfl rfl b15_7 (by simp only [List.size_toArray, adV_row.len]) (adV_row.one (all.getD i noAd)) ?_
                  intro w15_8 b15_8 h15_8
                  have b15_8 : Blk w15_8 g15_7 39 (adV (all.getD i noAd)).toArray := b15_8
                  have L34 : ChP w w15_8 (fun k => k = gp ∨ rowOf Aa ca = some k ∨ rowOf Aw cw = some k) := L33.ch h15_8 (fun i hi hlt => by cases hi; exact absurd hlt (by have := Ll0.size; have := hg15_7; omega))
                  refine W.nil ?_
                  refine E.thenN ?_
                  refine WC.seq ?_
                  refine WC.seq ?_
                  refine WC.region ?_
                  refine W.any (.field0 fa39_0 rfl) rfl rfl rfl ?_
                  refine W.any (.field0 fa27_2 rfl) rfl rfl rfl ?_
                  refine W.rd (.loadB (v := .int .i64 ((all.getD i noAd).e.c)) na3 rfl b15_8 rfl) rfl rfl rfl ?_
                  refine W.any (.field0 fa39_0 rfl) rfl rfl rfl ?_
                  refine W.any (.field0 fa27_2 rfl) rfl rfl rfl ?_
                  have f35 := ((f0_4.le h15_7).ch h15_8 (fun h => (show g15_7 ≠ g0_0 from by have := f0_4.lt; omega) (Option.some.inj h)))
                  refine W.rd (.loadB (v := .int .i64 (a.e.c)) na3 rfl f35 rfl) rfl rfl rfl ?_
                  refine W.any (.neq rfl rfl) rfl rfl rfl ?_
                  refine W.nil ?_
                  refine E.thenN ?_
                  by_cases c4 : ((all.getD i noAd).e.c) ≠ a.e.c
                  · refine WC.condY rfl (decide_eq_true c4) ?_
                    refine WC.exit ?_
                    refine E.thenX ?_
                    refine E.blkH ?_
                    refine E.thenN ?_
                    refine WC.region ?_
                    refine W.any (.move rfl) rfl rfl rfl ?_
                    refine W.any (.add rfl rfl (by omega)) rfl rfl rfl ?_
                    refine W.any (.assign rfl) rfl rfl rfl ?_
                    refine W.nil ?_
                    have f36 := ((f0_0.le h15_7).ch h15_8 (fun h => (show g15_7 ≠ gp from by have := f0_0.lt; omega) (Option.some.inj h)))
                    have f37 := ((f0_1.le h15_7).ch h15_8 (fun q hq => by cases hq; exact (fun he => by have := (f0_1.row he).2; omega)))
                    have f38 := ((f0_2.le h15_7).ch h15_8 (fun q hq => by cases hq; exact (fun he => by have := (f0_2.row he).2; omega)))
                    have f39 := ((f0_3.le h15_7).ch h15_8 (fun q hq => by cases hq; exact (fun he => by have := (f0_3.row he).2; omega)))
                    refine E.again (i + 1) (.cons rfl (.cons rfl (.cons rfl (.cons' rfl (int_eq (by have hsd : ¬ sdOf (all.getD i noAd) = sdOf a := (fun he => by have e1 : (all.getD i noAd).e.c = a.e.c := congrArg Sd.c he; have e2 : (all.getD i noAd).e.f = a.e.f := congrArg Sd.f he; omega); rw [rNew_next (by omega), if_neg hsd])) (.cons' rfl (int_eq (by have hsd : ¬ sdOf (all.getD i noAd) = sdOf a := (fun he => by have e1 : (all.getD i noAd).e.c = a.e.c := congrArg Sd.c he; have e2 : (all.getD i noAd).e.f = a.e.f := congrArg Sd.f he; omega); rw [rLate_next, if_neg (fun hz => hsd hz.1)]; omega)) (.cons rfl (.nil _))))))) ?_ ?_
                    · exact ⟨by omega, by rw [any_nextA (by omega), hnb]; simp [rbad, -List.getD_eq_getElem?_getD, c4], L34, by have := zl0; have := h15_7.size; have := h15_8.size; omega, f36, f37, f38, f39, f35⟩
                    · first | omega | (simp only []; omega)
                  · refine WC.condN rfl (decide_eq_false c4) ?_
                    refine WC.skip ?_
                    refine E.thenN ?_
                    refine WC.seq ?_
                    refine WC.region ?_
                    refine W.any (.field0 fa39_0 rfl) rfl rfl rfl ?_
                    refine W.rd (.bpart (edgeV ((all.getD i noAd).e)) ag27 rfl (by decide) rfl b15_8 rfl) rfl rfl rfl ?_
                    refine W.any (.field0 fa39_0 rfl) rfl rfl rfl ?_
                    refine W.rd (.bpart (edgeV a.e) ag27 rfl (by decide) rfl f35 rfl) rfl rfl rfl ?_
                    refine W.ef rfl rfl rfl ?_
                    refine Ef.call go41 rfl rfl (ralike_ok ((all.getD i noAd).e) a.e w15_8) ?_
                    rintro _ w17_4 ⟨rfl, h17_4⟩
                    refine ⟨_, rfl, ?_⟩
                    have L40 := L34.le h17_4
                    refine W.any (.assign rfl) rfl rfl rfl ?_
                    refine W.nil ?_
                    refine E.thenN ?_
                    refine WC.seq ?_
                    refine WC.seq ?_
                    refine WC.region ?_
                    refine W.any (.move rfl) rfl rfl rfl ?_
                    refine W.any (.not rfl) rfl rfl rfl ?_
                    refine W.nil ?_
                    refine E.thenN ?_
                    by_cases c5 : (alikeE ((all.getD i noAd).e) a.e) = true
                    · refine WC.condN rfl (congrArg not (c5)) ?_
                      refine WC.skip ?_
                      refine E.thenN ?_
                      refine WC.seq ?_
                      refine WC.region ?_
                      refine W.any (.field0 fa39_0 rfl) rfl rfl rfl ?_
                      refine W.any (.field0 fa27_0 rfl) rfl rfl rfl ?_
                      have f41 := (b15_8.le h17_4)
                      refine W.rd (.loadB (v := .int .i64 ((all.getD i noAd).e.f)) na3 rfl f41 rfl) rfl rfl rfl ?_
                      refine W.any (.field0 fa39_0 rfl) rfl rfl rfl ?_
                      refine W.any (.field0 fa27_0 rfl) rfl rfl rfl ?_
                      have f42 := (f35.le h17_4)
                      refine W.rd (.loadB (v := .int .i64 (a.e.f)) na3 rfl f42 rfl) rfl rfl rfl ?_
                      refine W.any (.eql rfl rfl) rfl rfl rfl ?_
                      refine W.nil ?_
                      refine E.thenN ?_
                      by_cases c6 : ((all.getD i noAd).e.f) = a.e.f
                      · refine WC.condY rfl (decide_eq_true c6) ?_
                        refine WC.seq ?_
                        refine WC.region ?_
                        refine W.any (.field0 fa39_1 rfl) rfl rfl rfl ?_
                        refine W.rd (.loadB (v := .int .i64 ((all.getD i noAd).no)) na3 rfl f41 rfl) rfl rfl rfl ?_
                        refine W.any (.assign rfl) rfl rfl rfl ?_
                        refine W.nil ?_
                        refine E.thenN ?_
                        refine WC.seq ?_
                        refine WC.region ?_
                        refine W.any (.move rfl) rfl rfl rfl ?_
                        refine W.any (.nilCheck rfl) rfl rfl rfl ?_
                        refine W.any (.field0 fa75_2 rfl) rfl rfl rfl ?_
                        have f43 := (((f0_0.le h15_7).ch h15_8 (fun h => (show g15_7 ≠ gp from by have := f0_0.lt; omega) (Option.some.inj h))).le h17_4)
                        refine W.rd (.loadB (v := .slice Aw wh.length cw) na65 rfl f43 rfl) rfl rfl rfl ?_
                        refine W.any (.move rfl) rfl rfl rfl ?_
                        refine W.any (.idxS (i) Tryz.underlying65 sz3 rfl rfl (hW0.vec.isSome iv_row (by omega)) (rfl) (by omega)) rfl rfl rfl ?_
                        have f44 := (((f0_3.le h15_7).ch h15_8 (fun q hq => by cases hq; exact (fun he => by have := (f0_3.row he).2; omega))).le h17_4)
                        refine W.rd (.vone (v := .int .i64 ((wh.getD i 0))) na3 rfl f44.vec iv_row (getS wh 0 (by first | omega | (simp only [List.length_cons, List.length_nil]; omega))) rfl) rfl rfl rfl ?_
                        refine W.any (.move rfl) rfl rfl rfl ?_
                        refine W.any (.sub rfl rfl (by have := hh; omega)) rfl rfl rfl ?_
                        refine W.any (.gtr rfl rfl) rfl rfl rfl ?_
                        refine W.nil ?_
                        refine E.thenN ?_
                        by_cases c7 : (h - 100) < (wh.getD i 0)
                        · refine WC.condY rfl (decide_eq_true c7) ?_
                          refine WC.region ?_
                          refine W.any (.move rfl) rfl rfl rfl ?_
                          refine W.any (.add rfl rfl (by omega)) rfl rfl rfl ?_
                          refine W.any (.assign rfl) rfl rfl rfl ?_
                          refine W.nil ?_
                          refine E.blkN ?_
                          refine E.thenN ?_
                          refine WC.region ?_
                          refine W.any (.move rfl) rfl rfl rfl ?_
                          refine W.any (.add rfl rfl (by omega)) rfl rfl rfl ?_
                          refine W.any (.assign rfl) rfl rfl rfl ?_
                          refine W.nil ?_
                          have f45 := (((f0_1.le h15_7).ch h15_8 (fun q hq => by cases hq; exact (fun he => by have := (f0_1.row he).2; omega))).le h17_4)
                          have f46 := (((f0_2.le h15_7).ch h15_8 (fun q hq => by cases hq; exact (fun he => by have := (f0_2.row he).2; omega))).le h17_4)
                          refine E.again (i + 1) (.cons rfl (.cons rfl (.cons rfl (.cons' rfl (int_eq (by have hsd : sdOf (all.getD i noAd) = sdOf a := (by unfold sdOf; rw [show (all.getD i noAd).e.c = a.e.c by omega, show (all.getD i noAd).e.f = a.e.f by omega]); rw [rNew_next (by omega), if_pos hsd])) (.cons' rfl (int_eq (by have hsd : sdOf (all.getD i noAd) = sdOf a := (by unfold sdOf; rw [show (all.getD i noAd).e.c = a.e.c by omega, show (all.getD i noAd).e.f = a.e.f by omega]); rw [rLate_next]; rw [if_pos ⟨hsd, by omega⟩]; omega)) (.cons rfl (.nil _))))))) ?_ ?_
                          · exact ⟨by omega, by rw [any_nextA (by omega), hnb]; simp [rbad, -List.getD_eq_getElem?_getD, c4, c5], L40, by have := zl0; have := h15_7.size; have := h15_8.size; have := h17_4.size; omega, f43, f45, f46, f44, f42⟩
                          · first | omega | (simp only []; omega)
                        · refine WC.condN rfl (decide_eq_false c7) ?_
                          refine WC.skip ?_
                          refine E.blkN ?_
                          refine E.thenN ?_
                          refine WC.region ?_
                          refine W.any (.move rfl) rfl rfl rfl ?_
                          refine W.any (.add rfl rfl (by omega)) rfl rfl rfl ?_
                          refine W.any (.assign rfl) rfl rfl rfl ?_
                          refine W.nil ?_
                          have f47 := (((f0_1.le h15_7).ch h15_8 (fun q hq => by cases hq; exact (fun he => by have := (f0_1.row he).2; omega))).le h17_4)
                          have f48 := (((f0_2.le h15_7).ch h15_8 (fun q hq => by cases hq; exact (fun he => by have := (f0_2.row he).2; omega))).le h17_4)
                          refine E.again (i + 1) (.cons rfl (.cons rfl (.cons rfl (.cons' rfl (int_eq (by have hsd : sdOf (all.getD i noAd) = sdOf a := (by unfold sdOf; rw [show (all.getD i noAd).e.c = a.e.c by omega, show (all.getD i noAd).e.f = a.e.f by omega]); rw [rNew_next (by omega), if_pos hsd])) (.cons' rfl (int_eq (by have hsd : sdOf (all.getD i noAd) = sdOf a := (by unfold sdOf; rw [show (all.getD i noAd).e.c = a.e.c by omega, show (all.getD i noAd).e.f = a.e.f by omega]); rw [rLate_next]; rw [if_neg (fun hz => by have := hz.2; omega)]; omega)) (.cons rfl (.nil _))))))) ?_ ?_
                          · exact ⟨by omega, by rw [any_nextA (by omega), hnb]; simp [rbad, -List.getD_eq_getElem?_getD, c4, c5], L40, by have := zl0; have := h15_7.size; have := h15_8.size; have := h17_4.size; omega, f43, f47, f48, f44, f42⟩
                          · first | omega | (simp only []; omega)
                      · refine WC.condN rfl (decide_eq_false c6) ?_
                        refine WC.skip ?_
                        refine E.blkN ?_
                        refine E.thenN ?_
                        refine WC.region ?_
                        refine W.any (.move rfl) rfl rfl rfl ?_
                        refine W.any (.add rfl rfl (by omega)) rfl rfl rfl ?_
                        refine W.any (.assign rfl) rfl rfl rfl ?_
                        refine W.nil ?_
                        have f49 := (((f0_0.le h15_7).ch h15_8 (fun h => (show g15_7 ≠ gp from by have := f0_0.lt; omega) (Option.some.inj h))).le h17_4)
                        have f50 := (((f0_1.le h15_7).ch h15_8 (fun q hq => by cases hq; exact (fun he => by have := (f0_1.row he).2; omega))).le h17_4)
                        have f51 := (((f0_2.le h15_7).ch h15_8 (fun q hq => by cases hq; exact (fun he => by have := (f0_2.row he).2; omega))).le h17_4)
                        have f52 := (((f0_3.le h15_7).ch h15_8 (fun q hq => by cases hq; exact (fun he => by have := (f0_3.row he).2; omega))).le h17_4)
                        refine E.again (i + 1) (.cons rfl (.cons rfl (.cons rfl (.cons' rfl (int_eq (by have hsd : ¬ sdOf (all.getD i noAd) = sdOf a := (fun he => by have e1 : (all.getD i noAd).e.c = a.e.c := congrArg Sd.c he; have e2 : (all.getD i noAd).e.f = a.e.f := congrArg Sd.f he; omega); rw [rNew_next (by omega), if_neg hsd])) (.cons' rfl (int_eq (by have hsd : ¬ sdOf (all.getD i noAd) = sdOf a := (fun he => by have e1 : (all.getD i noAd).e.c = a.e.c := congrArg Sd.c he; have e2 : (all.getD i noAd).e.f = a.e.f := congrArg Sd.f he; omega); rw [rLate_next, if_neg (fun hz => hsd hz.1)]; omega)) (.cons rfl (.nil _))))))) ?_ ?_
                        · exact ⟨by omega, by rw [any_nextA (by omega), hnb]; simp [rbad, -List.getD_eq_getElem?_getD, c4, c5], L40, by have := zl0; have := h15_7.size; have := h15_8.size; have := h17_4.size; omega, f49, f50, f51, f52, f42⟩
                        · first | omega | (simp only []; omega)
                    · refine WC.condY rfl (congrArg not ((Bool.eq_false_iff.2 c5))) ?_
                      refine WC.seq ?_
                      refine WC.region ?_
                      refine W.any (.assign rfl) rfl rfl rfl ?_
                      refine W.nil ?_
                      refine E.thenN ?_
                      refine WC.ret ?_
                      refine E.thenR ?_
                      refine E.blkR ?_
                      refine E.thenR ?_
                      refine E.thenR ?_
                      refine E.blkR ?_
                      refine E.thenR ?_
                      have f53 := (((f0_0.le h15_7).ch h15_8 (fun h => (show g15_7 ≠ gp from by have := f0_0.lt; omega) (Option.some.inj h))).le h17_4)
                      have f54 := (((f0_1.le h15_7).ch h15_8 (fun q hq => by cases hq; exact (fun he => by have := (f0_1.row he).2; omega))).le h17_4)
                      have f55 := (((f0_2.le h15_7).ch h15_8 (fun q hq => by cases hq; exact (fun he => by have := (f0_2.row he).2; omega))).le h17_4)
                      have f56 := (((f0_3.le h15_7).ch h15_8 (fun q hq => by cases hq; exact (fun he => by have := (f0_3.row he).2; omega))).le h17_4)
                      refine E.retG1 rfl rfl ?_
                      have hany : all.any (rbad a.e) = true := any_more (k := i) (by omega) (by simp [rbad, -List.getD_eq_getElem?_getD, c4, c5]; omega); have e9 : (rtakeC (⟨keys, all, wh⟩ : RBk) a h) = 4 := (by unfold rtakeC; simp only; rw [if_neg hok, if_neg (by simpa using c2), if_pos hany]); exact ⟨L40, .inl ⟨by rw [e9]; decide, by rw [e9], ⟨f53, f54, f55, f56, hL.kp, hL.ap, hL.wp, hL.ak, hL.wk, hL.aw⟩⟩⟩
                · refine WC.condN rfl (decide_eq_false c3) ?_
                  refine WC.exit ?_
                  refine E.thenX ?_
                  refine E.thenX ?_
                  refine E.blkH ?_
                  refine E.thenN ?_
                  refine WC.seq ?_
                  refine WC.seq ?_
                  refine WC.region ?_
                  refine W.any (.field0 fa39_1 rfl) rfl rfl rfl ?_
                  refine W.rd (.loadB (v := .int .i64 (a.no)) na3 rfl f0_4 rfl) rfl rfl rfl ?_
                  refine W.any (.move rfl) rfl rfl rfl ?_
                  refine W.any (.leq rfl rfl) rfl rfl rfl ?_
                  refine W.nil ?_
                  refine E.thenN ?_
                  by_cases c8 : a.no ≤ (rNew (all.take i) (sdOf a))
                  · refine WC.condY rfl (decide_eq_true c8) ?_
                    refine WC.seq ?_
                    refine WC.region ?_
                    refine W.any (.assign rfl) rfl rfl rfl ?_
                    refine W.nil ?_
                    refine E.thenN ?_
                    refine WC.ret ?_
                    refine E.thenR ?_
                    refine E.retG1 rfl rfl ?_
                    have hia : i = all.length := (by omega); have hnone : ¬ all.any (rbad a.e) = true := (by rw [List.take_of_length_le (by omega)] at hnb; rw [hnb]; simp); have hle : a.no ≤ rNew all (sdOf a) := (by rw [List.take_of_length_le (by omega)] at c8; exact c8); have e9 : (rtakeC (⟨keys, all, wh⟩ : RBk) a h) = 24 := (by unfold rtakeC; simp only; rw [if_neg hok, if_neg (by simpa using c2), if_neg hnone, if_pos hle]); exact ⟨Ll0, .inl ⟨by rw [e9]; decide, by rw [e9], ⟨f0_0, f0_1, f0_2, f0_3, hL.kp, hL.ap, hL.wp, hL.ak, hL.wk, hL.aw⟩⟩⟩
                  · refine WC.condN rfl (decide_eq_false c8) ?_
                    refine WC.skip ?_
                    refine E.thenN ?_
                    refine WC.seq ?_
                    refine WC.seq ?_
                    refine WC.region ?_
                    refine W.any (.move rfl) rfl rfl rfl ?_
                    refine W.any (.geq rfl rfl) rfl rfl rfl ?_
                    refine W.nil ?_
                    refine E.thenN ?_
                    by_cases c9 : 4 ≤ (((rLate all wh (sdOf a) h i) : Nat) : Int)
                    · refine WC.condY rfl (decide_eq_true c9) ?_
                      refine WC.seq ?_
                      refine WC.region ?_
                      refine W.any (.assign rfl) rfl rfl rfl ?_
                      refine W.nil ?_
                      refine E.thenN ?_
                      refine WC.ret ?_
                      refine E.thenR ?_
                      refine E.retG1 rfl rfl ?_
                      have hia : i = all.length := (by omega); have hnone : ¬ all.any (rbad a.e) = true := (by rw [List.take_of_length_le (by omega)] at hnb; rw [hnb]; simp); have hle : ¬ a.no ≤ rNew all (sdOf a) := (by rw [List.take_of_length_le (by omega)] at c8; exact c8); have hrt : 4 ≤ rLate all wh (sdOf a) h all.length := (by rw [← hia]; omega); have e9 : (rtakeC (⟨keys, all, wh⟩ : RBk) a h) = 20 := (by unfold rtakeC; simp only; rw [if_neg hok, if_neg (by simpa using c2), if_neg hnone, if_neg hle, if_pos hrt]); exact ⟨Ll0, .inl ⟨by rw [e9]; decide, by rw [e9], ⟨f0_0, f0_1, f0_2, f0_3, hL.kp, hL.ap, hL.wp, hL.ak, hL.wk, hL.aw⟩⟩⟩
                    · refine WC.condN rfl (decide_eq_false c9) ?_
                      refine WC.skip ?_
                      refine E.thenN ?_
                      refine WC.seq ?_
                      refine WC.draw [0, 1, 2, 3, 4, 5, 6, 7, 8, 9, 10] mixed (by kernel_rfl) ?_
                      intro w28 d28
                      have L57 := Ll0.le d28
                      refine G.any rfl rfl (.move rfl) rfl rfl rfl ?_
                      refine G.any rfl rfl (.move rfl) rfl rfl rfl ?_
                      refine G.any rfl rfl (.nilCheck rfl) rfl rfl rfl ?_
                      refine G.any rfl rfl (.field0 fa75_1 rfl) rfl rfl rfl ?_
                      have f58 := (f0_0.le d28)
                      refine G.rd rfl rfl (.loadB (v := .slice Aa all.length ca) na50 rfl f58 rfl) rfl rfl rfl ?_
                      have f59 := (f0_4.le d28)
                      refine G.rd rfl rfl (.loadAll ag39 (by rfl) rfl f59) rfl rfl rfl ?_
                      refine G.ef rfl rfl rfl rfl rfl ?_
                      refine Ef.buildSliceV (len := 1) [_] Tryz.underlying50 el39 rfl (by simp [Value.cells, adV_row.len]) rfl (by decide) (by decide) ?_
                      intro g28_6 w28_6 hg28_6 b28_6 h28_6
                      refine ⟨fun _ => h28_6, ?_⟩
                      have L60 := L57.le h28_6
                      have b28_6 : Blk w28_6 g28_6 39 (([a]).map adV).flatten.toArray := b28_6
                      have o28_6 : OVec w28_6 w28.heap.size 39 adV 13 (some ⟨g28_6, 0, none⟩) 1 1 ([a]) := b28_6.ovec hg28_6 adV_row rfl rfl (by decide)
                      have f61 := (f0_2.le (d28.trans h28_6))
                      refine G.ef rfl rfl rfl rfl rfl ?_
                      refine Ef.vpush (a := a) Tryz.underlying50 el39 Tryz.underlying50 adV_row rfl f61 rfl b28_6 (by omega) (by unfold maxLen; omega) (Nat.zero_le _) ?_
                      intro A28_7 c28_7 w28_7 o28_7 h28_7 at28_7
                      refine ⟨fun h => absurd h (ne_true_of_eq_false (by kernel_rfl)), ?_⟩
                      have L62 : ChP w w28_7 (fun k => k = gp ∨ rowOf Aa ca = some k ∨ rowOf Aw cw = some k) := L60.ch h28_7 (fun i hi _ => (fun i hi => Or.inr (Or.inl hi)) i hi)
                      refine G.any rfl rfl (.nilCheck rfl) rfl rfl rfl ?_
                      refine G.any rfl rfl (.field0 fa75_1 rfl) rfl rfl rfl ?_
                      have f63 := ((f58.le h28_6).ch h28_7 hL.ap)
                      refine G.ef0 rfl rfl rfl rfl ?_
                      refine Ef.store sz50 rfl rfl f63 (by first | decide | (simp; done)) (rfl) ?_
                      intro w28_10 b28_10 h28_10
                      refine ⟨fun h => absurd h (ne_true_of_eq_false (by kernel_rfl)), ?_⟩
                      have b28_10 : Blk w28_10 gp 75 #[.slice Ak keys.length ck, .slice A28_7 (all.length + 1) c28_7, .slice Aw wh.length cw] := b28_10
                      have L64 : ChP w w28_10 (fun k => k = gp ∨ rowOf Aa ca = some k ∨ rowOf Aw cw = some k) := L62.ch h28_10 (fun i hi _ => by cases hi; exact Or.inl rfl)
                      refine G.nil ?_
                      refine E.thenN ?_
                      refine WC.seq ?_
                      refine WC.region ?_
                      refine W.any (.move rfl) rfl rfl rfl ?_
                      refine W.any (.move rfl) rfl rfl rfl ?_
                      refine W.any (.nilCheck rfl) rfl rfl rfl ?_
                      refine W.any (.field0 fa75_2 rfl) rfl rfl rfl ?_
                      refine W.rd (.loadB (v := .slice Aw wh.length cw) na65 rfl b28_10 rfl) rfl rfl rfl ?_
                      refine W.any (.move rfl) rfl rfl rfl ?_
                      refine W.ef rfl rfl rfl ?_
                      refine Ef.buildSliceV (len := 1) [_] Tryz.underlying65 el3 rfl (by simp [Value.cells]) rfl (by decide) (by decide) ?_
                      intro g29_6 w29_6 hg29_6 b29_6 h29_6
                      have L65 := L64.le h29_6
                      have b29_6 : Blk w29_6 g29_6 3 (([h]).map iv).flatten.toArray := b29_6
                      have o29_6 : OVec w29_6 w28_10.heap.size 3 iv 1 (some ⟨g29_6, 0, none⟩) 1 1 ([h]) := b29_6.ovec hg29_6 iv_row rfl rfl (by decide)
                      have f66 := ((((f0_3.le (d28.trans h28_6)).ch h28_7 (hL.aw)).ch h28_10 (fun q hq => by cases hq; exact hL.wp)).le h29_6)
                      refine W.ef rfl rfl rfl ?_
                      refine Ef.vpush (a := h) Tryz.underlying65 el3 Tryz.underlying65 iv_row rfl f66 rfl b29_6 (by omega) (by unfold maxLen; omega) (Nat.zero_le _) ?_
                      intro A29_7 c29_7 w29_7 o29_7 h29_7 at29_7
                      have L67 : ChP w w29_7 (fun k => k = gp ∨ rowOf Aa ca = some k ∨ rowOf Aw cw = some k) := L65.ch h29_7 (fun i hi _ => (fun i hi => Or.inr (Or.inr hi)) i hi)
                      refine W.any (.nilCheck rfl) rfl rfl rfl ?_
                      refine W.any (.field0 fa75_2 rfl) rfl rfl rfl ?_
                      have f68 := ((b28_10.le h29_6).ch h29_7 hL.wp)
                      refine W.ef0 rfl rfl ?_
                      refine Ef.store sz65 rfl rfl f68 (by first | decide | (simp; done)) (rfl) ?_
                      intro w29_10 b29_10 h29_10
                      have b29_10 : Blk w29_10 gp 75 #[.slice Ak keys.length ck, .slice A28_7 (all.length + 1) c28_7, .slice A29_7 (wh.length + 1) c29_7] := b29_10
                      have L69 : ChP w w29_10 (fun k => k = gp ∨ rowOf Aa ca = some k ∨ rowOf Aw cw = some k) := L67.ch h29_10 (fun i hi _ => by cases hi; exact Or.inl rfl)
                      refine W.nil ?_
                      refine E.thenN ?_
                      refine WC.seq ?_
                      refine WC.region ?_
                      refine W.any (.assign rfl) rfl rfl rfl ?_
                      refine W.nil ?_
                      refine E.thenN ?_
                      refine WC.ret ?_
                      have f70 := ((((((f0_1.le (d28.trans h28_6)).ch h28_7 (hL.ak)).ch h28_10 (fun q hq => by cases hq; exact hL.kp)).le h29_6).ch h29_7 (hL.wk)).ch h29_10 (fun q hq => by cases hq; exact hL.kp))
                      have f71 := ((((o28_7.ch h28_10 (fun q hq => by cases hq; exact (at28_7.off (by have := f58.lt; have := h28_6.size; omega) hL.ap))).le h29_6).ch h29_7 ((Apart.symm (Apart.step hL.aw at28_7 (fun q hq => by have := (f0_3.row hq).2; have := d28.size; have := h28_6.size; omega))))).ch h29_10 (fun q hq => by cases hq; exact (at28_7.off (by have := f58.lt; have := h28_6.size; omega) hL.ap)))
                      have f72 := (o29_7.ch h29_10 (fun q hq => by cases hq; exact (at29_7.off (by have := b28_10.lt; have := h29_6.size; omega) hL.wp)))
                      refine E.retG1 rfl rfl ?_
                      have hia : i = all.length := (by omega); have hnone : ¬ all.any (rbad a.e) = true := (by rw [List.take_of_length_le (by omega)] at hnb; rw [hnb]; simp); have hle : ¬ a.no ≤ rNew all (sdOf a) := (by rw [List.take_of_length_le (by omega)] at c8; exact c8); have hrt : ¬ 4 ≤ rLate all wh (sdOf a) h all.length := (by rw [← hia]; omega); have e9 : (rtakeC (⟨keys, all, wh⟩ : RBk) a h) = 0 := (by unfold rtakeC; simp only; rw [if_neg hok, if_neg (by simpa using c2), if_neg hnone, if_neg hle, if_neg hrt]); exact ⟨L69, .inr ⟨e9, rfl, _, _, _, _, ⟨(by have hq := b29_10; simpa using hq), f70, (f71.cast (by simp) rfl), (f72.cast (by simp) rfl), hL.kp, (at28_7.off (by have := f58.lt; have := h28_6.size; omega) hL.ap), (at29_7.off (by have := b28_10.lt; have := h29_6.size; omega) hL.wp), (Apart.step hL.ak at28_7 (fun q hq => by have := (f0_1.row hq).2; have := d28.size; have := h28_6.size; omega)), (Apart.step hL.wk at29_7 (fun q hq => by have := (f0_1.row hq).2; have := d28.size; have := h28_6.size; have := h28_7.size; have := h28_10.size; have := h29_6.size; omega)), (Apart.symm (Apart.step (Apart.symm (Apart.step hL.aw at28_7 (fun q hq => by have := (f0_3.row hq).2; have := d28.size; have := h28_6.size; omega))) at29_7 (fun q hq => by have := (o28_7.row hq).2; have := h28_10.size; have := h29_6.size; omega)))⟩, (fun g hg => (at28_7 g hg).imp_right (fun z => Nat.le_trans L60.size z)), (fun g hg => (at29_7 g hg).imp_right (fun z => Nat.le_trans L65.size z))⟩⟩
            · refine WC.condY rfl (congrArg not ((Bool.eq_false_iff.2 c2))) ?_
              refine WC.seq ?_
              refine WC.region ?_
              refine W.any (.assign rfl) rfl rfl rfl ?_
              refine W.nil ?_
              refine E.thenN ?_
              refine WC.ret ?_
              refine E.thenR ?_
              have f73 := (f24.le h7_10)
              have f74 := (f26.le h7_10)
              have f75 := (m1_2.le (d5.trans (h5_5.trans (h5_22.trans (d7.trans h7_10)))))
              have f76 := (m1_3.le (d5.trans (h5_5.trans (h5_22.trans (d7.trans h7_10)))))
              refine E.retG1 rfl rfl ?_
              have e9 : (rtakeC (⟨keys, all, wh⟩ : RBk) a h) = 7 := (by unfold rtakeC; simp only; rw [if_neg hok, if_pos (by simpa using c2)]); exact ⟨L27, .inl ⟨by rw [e9]; decide, by rw [e9], ⟨f73, f74, f75, f76, hL.kp, hL.ap, hL.wp, hL.ak, hL.wk, hL.aw⟩⟩⟩
          · refine WC.condY rfl (congrArg not ((Bool.eq_false_iff.2 c1))) ?_
            have hbad : mayA a.e a.no = false ∨ (keys.length : Int) ≤ a.e.f ∨ inB h (rlow wh) 1048576 = false := by first | (left; simp [mayA, q5_2, q5_8, q5_19, c1]; done) | (right; left; assumption) | (right; right; simpa using (by assumption : ¬ inB h (rlow wh) 1048576 = true))
            refine WC.seq ?_
            refine WC.region ?_
            refine W.any (.assign rfl) rfl rfl rfl ?_
            refine W.nil ?_
            refine E.thenN ?_
            refine WC.ret ?_
            refine E.thenR ?_
            have f77 := (f18.le h5_22)
            have f78 := (m1_1.le (d5.trans (h5_5.trans h5_22)))
            have f79 := (m1_2.le (d5.trans (h5_5.trans h5_22)))
            have f80 := (m1_3.le (d5.trans (h5_5.trans h5_22)))
            refine E.retG1 rfl rfl ?_
            have e9 : (rtakeC (⟨keys, all, wh⟩ : RBk) a h) = 1 := (by unfold rtakeC; simp only; rw [if_pos hbad]); exact ⟨L22, .inl ⟨by rw [e9]; decide, by rw [e9], ⟨f77, f78, f79, f80, hL.kp, hL.ap, hL.wp, hL.ak, hL.wk, hL.aw⟩⟩⟩
      · refine G.any rfl rfl (.dec (.move rfl) (congrArg not ((Bool.eq_false_iff.2 q5_8)))) rfl rfl rfl ?_
        refine G.skip rfl rfl rfl rfl (rfl) rfl rfl ?_
        refine G.skip rfl rfl rfl rfl (rfl) rfl rfl ?_
        refine G.skip rfl rfl rfl rfl (rfl) rfl rfl ?_
        refine G.skip rfl rfl rfl rfl (rfl) rfl rfl ?_
        refine G.skip rfl rfl rfl rfl (rfl) rfl rfl ?_
        refine G.skip rfl rfl rfl rfl (rfl) rfl rfl ?_
        refine G.skip rfl rfl rfl rfl (rfl) rfl rfl ?_
        refine G.skip rfl rfl rfl rfl (rfl) rfl rfl ?_
        refine G.skip rfl rfl rfl rfl (rfl) rfl rfl ?_
        refine G.any rfl rfl (.pickT rfl rfl rfl) rfl rfl rfl ?_
        refine G.any rfl rfl (.move rfl) rfl rfl rfl ?_
        refine G.skip rfl rfl rfl rfl (rfl) rfl rfl ?_
        refine G.skip rfl rfl rfl rfl (rfl) rfl rfl ?_
        refine G.skip rfl rfl rfl rfl (rfl) rfl rfl ?_
        refine G.skip rfl rfl rfl rfl (rfl) rfl rfl ?_
        refine G.any rfl rfl (.pickT rfl rfl rfl) rfl rfl rfl ?_
        refine G.nil ?_
        refine E.thenN ?_
        refine WC.condT rfl ?_
        have hbad : mayA a.e a.no = false ∨ (keys.length : Int) ≤ a.e.f ∨ inB h (rlow wh) 1048576 = false := by first | (left; simp [mayA, q5_2, q5_8]; done) | (right; left; assumption) | (right; right; simpa using (by assumption : ¬ inB h (rlow wh) 1048576 = true))
        refine WC.seq ?_
        refine WC.region ?_
        refine W.any (.assign rfl) rfl rfl rfl ?_
        refine W.nil ?_
        refine E.thenN ?_
        refine WC.ret ?_
        refine E.thenR ?_
        have f81 := (m1_0.le (d5.trans h5_5))
        have f82 := (m1_1.le (d5.trans h5_5))
        have f83 := (m1_2.le (d5.trans h5_5))
        have f84 := (m1_3.le (d5.trans h5_5))
        refine E.retG1 rfl rfl ?_
        have e9 : (rtakeC (⟨keys, all, wh⟩ : RBk) a h) = 1 := (by unfold rtakeC; simp only; rw [if_pos hbad]); exact ⟨L16, .inl ⟨by rw [e9]; decide, by rw [e9], ⟨f81, f82, f83, f84, hL.kp, hL.ap, hL.wp, hL.ak, hL.wk, hL.aw⟩⟩⟩
    · refine G.any rfl rfl (.dec (.move rfl) (congrArg not ((Bool.eq_false_iff.2 q5_2)))) rfl rfl rfl ?_
      refine G.skip rfl rfl rfl rfl (rfl) rfl rfl ?_
      refine G.skip rfl rfl rfl rfl (rfl) rfl rfl ?_
      refine G.skip rfl rfl rfl rfl (rfl) rfl rfl ?_
      refine G.skip rfl rfl rfl rfl (rfl) rfl rfl ?_
      refine G.any rfl rfl (.pickT rfl rfl rfl) rfl rfl rfl ?_
      refine G.any rfl rfl (.move rfl) rfl rfl rfl ?_
      refine G.skip rfl rfl rfl rfl (rfl) rfl rfl ?_
      refine G.skip rfl rfl rfl rfl (rfl) rfl rfl ?_
      refine G.skip rfl rfl rfl rfl (rfl) rfl rfl ?_
      refine G.skip rfl rfl rfl rfl (rfl) rfl rfl ?_
      refine G.skip rfl rfl rfl rfl (rfl) rfl rfl ?_
      refine G.skip rfl rfl rfl rfl (rfl) rfl rfl ?_
      refine G.skip rfl rfl rfl rfl (rfl) rfl rfl ?_
      refine G.skip rfl rfl rfl rfl (rfl) rfl rfl ?_
      refine G.skip rfl rfl rfl rfl (rfl) rfl rfl ?_
      refine G.any rfl rfl (.pickT rfl rfl rfl) rfl rfl rfl ?_
      refine G.any rfl rfl (.move rfl) rfl rfl rfl ?_
      refine G.skip rfl rfl rfl rfl (rfl) rfl rfl ?_
      refine G.skip rfl rfl rfl rfl (rfl) rfl rfl ?_
      refine G.skip rfl rfl rfl rfl (rfl) rfl rfl ?_
      refine G.skip rfl rfl rfl rfl (rfl) rfl rfl ?_
      refine G.any rfl rfl (.pickT rfl rfl rfl) rfl rfl rfl ?_
      refine G.nil ?_
      refine E.thenN ?_
      refine WC.condT rfl ?_
      have hbad : mayA a.e a.no = false ∨ (keys.length : Int) ≤ a.e.f ∨ inB h (rlow wh) 1048576 = false := by first | (left; simp [mayA, q5_2]; done) | (right; left; assumption) | (right; right; simpa using (by assumption : ¬ inB h (rlow wh) 1048576 = true))
      refine WC.seq ?_
      refine WC.region ?_
      refine W.any (.assign rfl) rfl rfl rfl ?_
      refine W.nil ?_
      refine E.thenN ?_
      refine WC.ret ?_
      refine E.thenR ?_
      have f85 := (m1_0.le d5)
      have f86 := (m1_1.le d5)
      have f87 := (m1_2.le d5)
      have f88 := (m1_3.le d5)
      refine E.retG1 rfl rfl ?_
      have e9 : (rtakeC (⟨keys, all, wh⟩ : RBk) a h) = 1 := (by unfold rtakeC; simp only; rw [if_pos hbad]); exact ⟨L14, .inl ⟨by rw [e9]; decide, by rw [e9], ⟨f85, f86, f87, f88, hL.kp, hL.ap, hL.wp, hL.ak, hL.wk, hL.aw⟩⟩⟩

section
variable {w w' : World} {base gp : Nat} {F : Nat → Prop} {s : RBk}
theorem new_rbook {Ao : Option Addr} {nk co : Nat} {keys : List Nat} (w : World) (hV : Vec w pv1 1 Ao nk keys) (hn : nk ≤ 12) : Calls Tryz.prog 12 #[.slice Ao nk co] w fun r w' => ∃ gp F, r = .returned (.pointer (some ⟨gp, 0, none⟩)) ∧ RBPool w' w.heap.size gp F ⟨keys, [], []⟩ ∧ Le w w' := by
  refine Calls.mono (rbnew_ok w hV) ?_
  rintro r w' (⟨q, _⟩ | ⟨q, gp, Ak, ck, rfl, hL, hk, hl⟩)
  · omega
  · exact ⟨gp, RBF gp Ak ck none 0 none 0, rfl, ⟨Ak, ck, none, 0, none, 0, hL, rfl, fun _ => Iff.rfl, hk⟩, hl⟩
theorem rnew_none {Ao : Option Addr} {nk co : Nat} {keys : List Nat} (w : World) (hV : Vec w pv1 1 Ao nk keys) (hn : 12 < nk) : Calls Tryz.prog 12 #[.slice Ao nk co] w fun r w' => r = .returned (.pointer none) ∧ Le w w' := by
  refine Calls.mono (rbnew_ok w hV) ?_
  rintro r w' (⟨q, h⟩ | ⟨q, _⟩)
  · exact h
  · omega
theorem get_rbook (ch fr : Int) (hal : s.all.length ≤ 1000) (h : RBPool w base gp F s) : Calls Tryz.prog 19 #[.pointer (some ⟨gp, 0, none⟩), .int .i64 ch, .int .i64 fr] w fun r w' => r = .returned (.tuple #[.agg (adV ((rget s.all (Bsp.Sd.mk ch fr)).getD noAd)).toArray, .bool (rget s.all (Bsp.Sd.mk ch fr)).isSome]) ∧ Le w w' := by
  obtain ⟨Ak, ck, Aa, ca, Aw, cw, h1, h2, h3, h4⟩ := h
  exact rbget_ok ch fr w h1 hal
theorem take_rbook (a : Asp.Ad) (h : Int) (hr : a.sg.r < 18446744073709551616) (hkb : (∀ k ∈ s.keys, k < 18446744073709551616) ∧ s.keys.length ≤ 1000 ∧ 0 ≤ rlow s.wh) (hal : s.all.length ≤ 1000) (hB : RBPool w base gp F s) : Calls Tryz.prog 14 #[.pointer (some ⟨gp, 0, none⟩), .agg (adV a).toArray, .int .i64 h] w fun r w' => ∃ F', r = .returned (.int .i64 (rtakeC s a h)) ∧ RBPool w' base gp F' (rtakeS s a h) ∧ GrownB w F F' ∧ ChP w w' F := by
  have hsz := hB.size
  obtain ⟨Ak, ck, Aa, ca, Aw, cw, h1, h2, h3, h4⟩ := hB
  refine Calls.mono (rbtake_ok a h w h1 hr hkb.1 hkb.2.1 hal h2 hkb.2.2) ?_
  rintro r w' ⟨hc, hr⟩
  have hc2 : ChP w w' F := hc.mono (fun k hk _ => (h3 k).2 (by rcases hk with hk | hk | hk; exact .inl hk; exact .inr (.inr (.inl hk)); exact .inr (.inr (.inr hk))))
  rcases hr with ⟨q1, rfl, hL⟩ | ⟨q1, rfl, Aa', ca', Aw', cw', hL, g1, g2⟩
  · have e : rtakeS s a h = s := if_neg q1
    rw [e]
    exact ⟨F, rfl, ⟨Ak, ck, Aa, ca, Aw, cw, hL, h2, h3, h4⟩, fun k hk => .inl hk, hc2⟩
  · have q1' : rtakeC s a h = 0 := q1
    have e : rtakeS s a h = ⟨s.keys, s.all ++ [a], s.wh ++ [h]⟩ := if_pos q1
    have hgr : ∀ k, RBF gp Ak ck Aa' ca' Aw' cw' k → F k ∨ w.heap.size ≤ k := by
      rintro k (hk | hk | hk | hk)
      · exact .inl ((h3 k).2 (.inl hk))
      · exact .inl ((h3 k).2 (.inr (.inl hk)))
      · exact (g1 k hk).imp_left (fun z => (h3 k).2 (.inr (.inr (.inl z))))
      · exact (g2 k hk).imp_left (fun z => (h3 k).2 (.inr (.inr (.inr z))))
    rw [e, q1']
    refine ⟨RBF gp Ak ck Aa' ca' Aw' cw', rfl, ⟨Ak, ck, Aa', ca', Aw', cw', hL, by simp only [List.length_append, List.length_singleton]; rw [h2], fun _ => Iff.rfl, fun k hk => ?_⟩, hgr, hc2⟩
    rcases hgr k hk with hh | hh
    · exact h4 k hh
    · omega
end

theorem ads_rbook {base gp : Nat} {F : Nat → Prop} {s : RBk} (w : World) (hal : s.all.length ≤ 1000) (hB : RBPool w base gp F s) : Calls Tryz.prog 17 #[.pointer (some ⟨gp, 0, none⟩)] w fun r w' => ∃ (A : Option Addr) (c : Nat), r = .returned (.slice A (radsB s).length c) ∧ OVec w' w.heap.size 39 adV 13 A (radsB s).length c (radsB s) ∧ Le w w' := by
  refine enter Tryz.func17 rfl rfl ?_
  have L0 := Le.refl w
  refine WC.seq ?_
  refine WC.region ?_
  refine W.any (.assign rfl) rfl rfl rfl ?_
  refine W.nil ?_
  refine E.thenN ?_
  refine WC.seq ?_
  refine WC.region ?_
  refine W.any (.assign rfl) rfl rfl rfl ?_
  refine W.nil ?_
  refine E.thenN ?_
  refine WC.seq ?_
  refine WC.seq ?_
  refine WC.region ?_
  refine W.any (.assign rfl) rfl rfl rfl ?_
  refine W.nil ?_
  refine E.thenN ?_
  refine WC.block ?_
  refine WC.loop (ι := Nat × Nat × (Option Addr) × Nat) (fun ⟨cc, m, Ao, co⟩ => [(0, .pointer (some ⟨gp, 0, none⟩)), (3, .slice Ao m co), (4, .int .i64 (((cc : Nat) : Int)))]) (fun ⟨cc, m, Ao, co⟩ wl0 => (cc ≤ 40) ∧ Le w wl0 ∧ w.heap.size ≤ wl0.heap.size ∧ RBPool wl0 base gp F s ∧ OVec wl0 w.heap.size 39 adV 13 Ao m co (radsTo s.all cc 0)) (fun ⟨cc, m, Ao, co⟩ => 40 - cc) (0, 0, none, 0) ?_ ?_ ?_
  · exact .cons rfl (.cons rfl (.cons rfl (.nil _)))
  · exact ⟨by omega, L0, Nat.le_refl _, hB, (OVec.nil w w.heap.size 39 adV 13 none)⟩
  · rintro ⟨cc, m, Ao, co⟩ wl0 ⟨hcc, Ll0, zl0, f0_0, f0_1⟩
    have lb0_2 : w.heap.size ≤ wl0.heap.size := by omega
    refine WC.seq ?_
    refine WC.seq ?_
    refine WC.region ?_
    refine W.any (.move rfl) rfl rfl rfl ?_
    refine W.any (.lss rfl rfl) rfl rfl rfl ?_
    refine W.nil ?_
    refine E.thenN ?_
    by_cases c0 : ((cc : Nat) : Int) < 40
    · refine WC.condY rfl (decide_eq_true c0) ?_
      refine WC.skip ?_
      refine E.thenN ?_
      refine WC.seq ?_
      refine WC.block ?_
      refine WC.seq ?_
      refine WC.region ?_
      refine W.any (.assign rfl) rfl rfl rfl ?_
      refine W.nil ?_
      refine E.thenN ?_
      refine WC.block ?_
      refine WC.loop (ι := Nat × Nat × (Option Addr) × Nat) (fun ⟨ff, m2, Ap, cp⟩ => [(0, .pointer (some ⟨gp, 0, none⟩)), (3, .slice Ap m2 cp), (4, .int .i64 (((cc : Nat) : Int))), (5, .int .i64 (((ff : Nat) : Int)))]) (fun ⟨ff, m2, Ap, cp⟩ wl1 => (ff ≤ 12) ∧ Le w wl1 ∧ wl0.heap.size ≤ wl1.heap.size ∧ RBPool wl1 base gp F s ∧ OVec wl1 w.heap.size 39 adV 13 Ap m2 cp (radsTo s.all cc ff)) (fun ⟨ff, m2, Ap, cp⟩ => 12 - ff) (0, m, Ao, co) ?_ ?_ ?_
      · exact .cons rfl (.cons rfl (.cons rfl (.cons rfl (.nil _))))
      · exact ⟨by omega, Ll0, Nat.le_refl _, f0_0, f0_1⟩
      · rintro ⟨ff, m2, Ap, cp⟩ wl1 ⟨hff, Ll1, zl1, f1_0, f1_1⟩
        have lb1_2 : w.heap.size ≤ wl1.heap.size := Nat.le_trans lb0_2 (by omega)
        refine WC.seq ?_
        refine WC.seq ?_
        refine WC.region ?_
        refine W.any (.move rfl) rfl rfl rfl ?_
        refine W.any (.lss rfl rfl) rfl rfl rfl ?_
        refine W.nil ?_
        refine E.thenN ?_
        by_cases c1 : ((ff : Nat) : Int) < 12
        · refine WC.condY rfl (decide_eq_true c1) ?_
          have hm2 := f1_1.1
          have hml := radsTo_len s.all cc ff
          refine WC.skip ?_
          refine E.thenN ?_
          refine WC.seq ?_
          refine WC.block ?_
          refine WC.seq ?_
          refine WC.region ?_
          refine W.any (.move rfl) rfl rfl rfl ?_
          refine W.any (.move rfl) rfl rfl rfl ?_
          refine W.any (.move rfl) rfl rfl rfl ?_
          refine W.ef rfl rfl rfl ?_
          refine Ef.call go19 rfl rfl (get_rbook ((cc : Nat) : Int) ((ff : Nat) : Int) (by omega) f1_0) ?_
          rintro _ w8_3 ⟨rfl, h8_3⟩
          refine ⟨_, rfl, ?_⟩
          have L1 := Ll1.trans h8_3
          refine W.any (.move rfl) rfl rfl rfl ?_
          refine W.any (.extract (v := .agg (adV ((rget s.all (Bsp.Sd.mk ((cc : Nat) : Int) ((ff : Nat) : Int))).getD noAd)).toArray) rfl rfl) rfl rfl rfl ?_
          refine W.any (.extract (v := .bool ((rget s.all (Bsp.Sd.mk ((cc : Nat) : Int) ((ff : Nat) : Int))).isSome)) rfl rfl) rfl rfl rfl ?_
          refine W.ef rfl rfl rfl ?_
          refine Ef.allocA z39 ?_
          intro g8_7 w8_7 hg8_7 b8_7 h8_7
          have L2 := L1.trans h8_7
          have b8_7 : Blk w8_7 g8_7 39 (adV noAd).toArray := b8_7
          refine W.ef0 rfl rfl ?_
          refine Ef.storeAll sz39 (by rfl) rfl rfl b8_7 (by simp only [List.size_toArray, adV_row.len]) (adV_row.one ((rget s.all (Bsp.Sd.mk ((cc : Nat) : Int) ((ff : Nat) : Int))).getD noAd)) ?_
          intro w8_8 b8_8 h8_8
          have b8_8 : Blk w8_8 g8_7 39 (adV ((rget s.all (Bsp.Sd.mk ((cc : Nat) : Int) ((ff : Nat) : Int))).getD noAd)).toArray := b8_8
          have L3 : Le w w8_8 := L2.then_ h8_8 (fun q hq => by cases hq; exact Nat.le_trans L1.size hg8_7)
          refine W.any (.assign rfl) rfl rfl rfl ?_
          refine W.nil ?_
          refine E.thenN ?_
          refine WC.seq ?_
          refine WC.region ?_
          refine W.any (.move rfl) rfl rfl rfl ?_
          refine W.nil ?_
          refine E.thenN ?_
          by_cases c2 : ((rget s.all (Bsp.Sd.mk ((cc : Nat) : Int) ((ff : Nat) : Int))).isSome) = true
          · refine WC.condY rfl (c2) ?_
            refine WC.region ?_
            refine W.any (.move rfl) rfl rfl rfl ?_
            refine W.rd (.loadAll ag39 (by rfl) rfl b8_8) rfl rfl rfl ?_
            refine W.ef rfl rfl rfl ?_
            refine Ef.buildSliceV (len := 1) [_] Tryz.underlying50 el39 rfl (by simp [Value.cells, adV_row.len]) rfl (by decide) (by decide) ?_
            intro g10_2 w10_2 hg10_2 b10_2 h10_2
            have L4 := L3.trans h10_2
            have b10_2 : Blk w10_2 g10_2 39 (([((rget s.all (Bsp.Sd.mk ((cc : Nat) : Int) ((ff : Nat) : Int))).getD noAd)]).map adV).flatten.toArray := b10_2
            have o10_2 : OVec w10_2 w8_8.heap.size 39 adV 13 (some ⟨g10_2, 0, none⟩) 1 1 ([((rget s.all (Bsp.Sd.mk ((cc : Nat) : Int) ((ff : Nat) : Int))).getD noAd)]) := b10_2.ovec hg10_2 adV_row rfl rfl (by decide)
            have f5 := (((f1_1.le (h8_3.trans h8_7)).ch h8_8 (fun q hq => by cases hq; exact (fun he => by have := (f1_1.row he).2; have := h8_3.size; omega))).le h10_2)
            refine W.ef rfl rfl rfl ?_
            refine Ef.vpush (a := ((rget s.all (Bsp.Sd.mk ((cc : Nat) : Int) ((ff : Nat) : Int))).getD noAd)) Tryz.underlying50 el39 Tryz.underlying50 adV_row rfl f5 rfl b10_2 (by omega) (by unfold maxLen; omega) (by have := lb1_2; have := h8_3.size; have := h8_7.size; have := h8_8.size; have := h10_2.size; omega) ?_
            intro A10_3 c10_3 w10_3 o10_3 h10_3 at10_3
            have L6 : Le w w10_3 := L4.then_ h10_3 (fun q hq => Nat.le_trans L0.size (f5.row hq).1)
            refine W.any (.assign rfl) rfl rfl rfl ?_
            refine W.nil ?_
            refine E.blkN ?_
            refine E.thenN ?_
            refine WC.region ?_
            refine W.any (.move rfl) rfl rfl rfl ?_
            refine W.any (.add rfl rfl (by omega)) rfl rfl rfl ?_
            refine W.any (.assign rfl) rfl rfl rfl ?_
            refine W.nil ?_
            have f7 := ((((f1_0.le (h8_3.trans h8_7)).ch h8_8 (fun q hqq hF => by cases hqq; have := f1_0.lt hF; have := h8_3.size; have := hg8_7; omega)).le h10_2).ch h10_3 (fun q hqq hF => by have := (f5.row hqq).1; have := hB.lt hF;  omega))
            refine E.again (ff + 1, (m2 + 1), A10_3, c10_3) (.cons rfl (.cons rfl (.cons rfl (.cons rfl (.nil _))))) ?_ ?_
            · exact ⟨by omega, L6, by have := zl1; have := h8_3.size; have := h8_7.size; have := h8_8.size; have := h10_2.size; have := h10_3.size; omega, f7, (o10_3.cast rfl (by rw [radsTo_next]; cases hq : rget s.all (Bsp.Sd.mk ((cc : Nat) : Int) ((ff : Nat) : Int)) with | none => (rw [hq] at c2; cases c2) | some v => rfl))⟩
            · first | omega | (simp only []; omega)
          · refine WC.condN rfl ((Bool.eq_false_iff.2 c2)) ?_
            refine WC.skip ?_
            refine E.blkN ?_
            refine E.thenN ?_
            refine WC.region ?_
            refine W.any (.move rfl) rfl rfl rfl ?_
            refine W.any (.add rfl rfl (by omega)) rfl rfl rfl ?_
            refine W.any (.assign rfl) rfl rfl rfl ?_
            refine W.nil ?_
            have f8 := ((f1_0.le (h8_3.trans h8_7)).ch h8_8 (fun q hqq hF => by cases hqq; have := f1_0.lt hF; have := h8_3.size; have := hg8_7; omega))
            have f9 := ((f1_1.le (h8_3.trans h8_7)).ch h8_8 (fun q hq => by cases hq; exact (fun he => by have := (f1_1.row he).2; have := h8_3.size; omega)))
            refine E.again (ff + 1, m2, Ap, cp) (.cons rfl (.cons rfl (.cons rfl (.cons rfl (.nil _))))) ?_ ?_
            · exact ⟨by omega, L3, by have := zl1; have := h8_3.size; have := h8_7.size; have := h8_8.size; omega, f8, (f9.cast rfl (by rw [radsTo_next]; cases hq : rget s.all (Bsp.Sd.mk ((cc : Nat) : Int) ((ff : Nat) : Int)) with | none => simp | some v => (rw [hq] at c2; exact absurd rfl c2)))⟩
            · first | omega | (simp only []; omega)
        · refine WC.condN rfl (decide_eq_false c1) ?_
          refine WC.exit ?_
          refine E.thenX ?_
          refine E.thenX ?_
          refine E.blkH ?_
          refine E.blkN ?_
          refine E.thenN ?_
          refine WC.region ?_
          refine W.any (.move rfl) rfl rfl rfl ?_
          refine W.any (.add rfl rfl (by omega)) rfl rfl rfl ?_
          refine W.any (.assign rfl) rfl rfl rfl ?_
          refine W.nil ?_
          refine E.again (cc + 1, m2, Ap, cp) (.cons rfl (.cons rfl (.cons rfl (.nil _)))) ?_ ?_
          · exact ⟨by omega, Ll1, by have := zl0; have := zl1; omega, f1_0, (f1_1.cast rfl (by rw [show ff = 12 by omega]; exact radsTo_row _ _))⟩
          · first | omega | (simp only []; omega)
    · refine WC.condN rfl (decide_eq_false c0) ?_
      refine WC.exit ?_
      refine E.thenX ?_
      refine E.thenX ?_
      refine E.blkH ?_
      refine E.thenN ?_
      refine WC.seq ?_
      refine WC.region ?_
      refine W.any (.move rfl) rfl rfl rfl ?_
      refine W.any (.assign rfl) rfl rfl rfl ?_
      refine W.nil ?_
      refine E.thenN ?_
      refine WC.ret ?_
      refine E.retG1 rfl rfl ?_
      have hq := (f0_1.mono L0.size); rw [show cc = 40 by omega] at hq; have hml := hq.1; exact ⟨_, _, by rw [← hml]; rfl, hq.cast hml.symm rfl, Ll0⟩

theorem edges_rbook {base gp : Nat} {F : Nat → Prop} {s : RBk} (w : World) (hal : s.all.length ≤ 1000) (hB : RBPool w base gp F s) : Calls Tryz.prog 22 #[.pointer (some ⟨gp, 0, none⟩)] w fun r w' => ∃ (A : Option Addr) (c : Nat), r = .returned (.slice A (redgesB s).length c) ∧ OVec w' w.heap.size 27 edgeV 9 A (redgesB s).length c (redgesB s) ∧ Le w w' := by
  have hral : (radsB s).length ≤ 480 := radsTo_len s.all 40 0
  refine enter Tryz.func22 rfl rfl ?_
  have L0 := Le.refl w
  refine WC.seq ?_
  refine WC.region ?_
  refine W.any (.assign rfl) rfl rfl rfl ?_
  refine W.nil ?_
  refine E.thenN ?_
  refine WC.seq ?_
  refine WC.region ?_
  refine W.any (.move rfl) rfl rfl rfl ?_
  refine W.ef rfl rfl rfl ?_
  refine Ef.call go17 rfl rfl (ads_rbook (w := w) (s := s) (by omega) hB) ?_
  rintro _ w1_1 ⟨A1_1, c1_1, rfl, o1_1, h1_1⟩
  refine ⟨_, rfl, ?_⟩
  have L1 := L0.trans h1_1
  refine W.any (.assign rfl) rfl rfl rfl ?_
  refine W.nil ?_
  refine E.thenN ?_
  refine WC.seq ?_
  refine WC.region ?_
  refine W.any (.assign rfl) rfl rfl rfl ?_
  refine W.nil ?_
  refine E.thenN ?_
  refine WC.seq ?_
  refine WC.seq ?_
  refine WC.region ?_
  refine W.any (.assign rfl) rfl rfl rfl ?_
  refine W.nil ?_
  refine E.thenN ?_
  refine WC.block ?_
  refine WC.loop (ι := Nat × Nat × (Option Addr) × Nat × (List Gsp.Edge)) (fun ⟨k, m, Ao, co, out⟩ => [(3, .slice A1_1 ((radsB s).length) c1_1), (4, .slice Ao m co), (5, .int .i64 (((k : Nat) : Int)))]) (fun ⟨k, m, Ao, co, out⟩ wl0 => (k ≤ (radsB s).length) ∧ (m ≤ k) ∧ (out = ((((radsB s).take k).filter fun a => !a.gone).map (·.e))) ∧ Le w wl0 ∧ w1_1.heap.size ≤ wl0.heap.size ∧ OVec wl0 w.heap.size 39 adV 13 A1_1 ((radsB s).length) c1_1 (radsB s) ∧ OVec wl0 w1_1.heap.size 27 edgeV 9 Ao m co out) (fun ⟨k, m, Ao, co, out⟩ => (radsB s).length - k) (0, 0, none, 0, []) ?_ ?_ ?_
  · exact .cons rfl (.cons rfl (.cons rfl (.nil _)))
  · exact ⟨Nat.zero_le _, Nat.le_refl _, by simp, L1, Nat.le_refl _, o1_1, (OVec.nil w1_1 w1_1.heap.size 27 edgeV 9 none)⟩
  · rintro ⟨k, m, Ao, co, out⟩ wl0 ⟨hk, hm, hout, Ll0, zl0, f0_0, f0_1⟩
    have lb0_2 : w.heap.size ≤ wl0.heap.size := by have := h1_1.size; omega
    have lb0_3 : w1_1.heap.size ≤ wl0.heap.size := by omega
    refine WC.seq ?_
    refine WC.seq ?_
    refine WC.region ?_
    refine W.any (.move rfl) rfl rfl rfl ?_
    refine W.any (.move rfl) rfl rfl rfl ?_
    refine W.rd (.len Tryz.underlying50 rfl) rfl rfl rfl ?_
    refine W.any (.lss rfl rfl) rfl rfl rfl ?_
    refine W.nil ?_
    refine E.thenN ?_
    by_cases c0 : ((k : Nat) : Int) < (((radsB s).length : Nat) : Int)
    · refine WC.condY rfl (decide_eq_true c0) ?_
      refine WC.skip ?_
      refine E.thenN ?_
      refine WC.seq ?_
      refine WC.block ?_
      refine WC.seq ?_
      refine WC.region ?_
      refine W.any (.move rfl) rfl rfl rfl ?_
      refine W.any (.move rfl) rfl rfl rfl ?_
      refine W.any (.idxS (k) Tryz.underlying50 sz39 rfl rfl (o1_1.vec.isSome adV_row (by omega)) (rfl) (by omega)) rfl rfl rfl ?_
      refine W.any (.vfield fa39_2 (o1_1.vec.isSome adV_row (by omega)) rfl) rfl rfl rfl ?_
      refine W.rd (.vcell (j := k) (o := 10) (v := .bool (((radsB s).getD k noAd).gone)) na4 rfl f0_0.vec adV_row (getS (radsB s) noAd (by first | omega | (simp only [List.length_cons, List.length_nil]; omega))) rfl) rfl rfl rfl ?_
      refine W.any (.not rfl) rfl rfl rfl ?_
      refine W.nil ?_
      refine E.thenN ?_
      by_cases c1 : (((radsB s).getD k noAd).gone) = true
      · refine WC.condN rfl (congrArg not (c1)) ?_
        refine WC.skip ?_
        refine E.blkN ?_
        refine E.thenN ?_
        refine WC.region ?_
        refine W.any (.move rfl) rfl rfl rfl ?_
        refine W.any (.add rfl rfl (by omega)) rfl rfl rfl ?_
        refine W.any (.assign rfl) rfl rfl rfl ?_
        refine W.nil ?_
        refine E.again (k + 1, m, Ao, co, out) (.cons rfl (.cons rfl (.cons rfl (.nil _)))) ?_ ?_
        · exact ⟨by omega, by omega, by rw [redges_next (by omega), ← hout]; simp [-List.getD_eq_getElem?_getD, c0, c1], Ll0, by have := zl0; omega, f0_0, f0_1⟩
        · first | omega | (simp only []; omega)
      · refine WC.condY rfl (congrArg not ((Bool.eq_false_iff.2 c1))) ?_
        refine WC.region ?_
        refine W.any (.move rfl) rfl rfl rfl ?_
        refine W.any (.move rfl) rfl rfl rfl ?_
        refine W.any (.move rfl) rfl rfl rfl ?_
        refine W.any (.idxS (k) Tryz.underlying50 sz39 rfl rfl (o1_1.vec.isSome adV_row (by omega)) (rfl) (by omega)) rfl rfl rfl ?_
        refine W.any (.vfield fa39_0 (o1_1.vec.isSome adV_row (by omega)) rfl) rfl rfl rfl ?_
        refine W.rd (.vpart (j := k) (o := 0) (edgeV (((radsB s).getD k noAd).e)) ag27 rfl (by decide) rfl f0_0.vec adV_row (getS (radsB s) noAd (by first | omega | (simp only [List.length_cons, List.length_nil]; omega))) rfl) rfl rfl rfl ?_
        refine W.ef rfl rfl rfl ?_
        refine Ef.buildSliceV (len := 1) [_] Tryz.underlying55 el27 rfl (by simp [Value.cells, edgeV_row.len]) rfl (by decide) (by decide) ?_
        intro g7_6 w7_6 hg7_6 b7_6 h7_6
        have L2 := Ll0.trans h7_6
        have b7_6 : Blk w7_6 g7_6 27 (([((radsB s).getD k noAd).e]).map edgeV).flatten.toArray := b7_6
        have o7_6 : OVec w7_6 wl0.heap.size 27 edgeV 9 (some ⟨g7_6, 0, none⟩) 1 1 ([((radsB s).getD k noAd).e]) := b7_6.ovec hg7_6 edgeV_row rfl rfl (by decide)
        have f3 := (f0_1.le h7_6)
        refine W.ef rfl rfl rfl ?_
        refine Ef.vpush (a := (((radsB s).getD k noAd).e)) Tryz.underlying55 el27 Tryz.underlying55 edgeV_row rfl f3 rfl b7_6 (by omega) (by unfold maxLen; omega) (by have := lb0_3; have := h7_6.size; omega) ?_
        intro A7_7 c7_7 w7_7 o7_7 h7_7 at7_7
        have L4 : Le w w7_7 := L2.then_ h7_7 (fun q hq => Nat.le_trans L1.size (f3.row hq).1)
        refine W.any (.assign rfl) rfl rfl rfl ?_
        refine W.nil ?_
        refine E.blkN ?_
        refine E.thenN ?_
        refine WC.region ?_
        refine W.any (.move rfl) rfl rfl rfl ?_
        refine W.any (.add rfl rfl (by omega)) rfl rfl rfl ?_
        refine W.any (.assign rfl) rfl rfl rfl ?_
        refine W.nil ?_
        have f5 := ((f0_0.le h7_6).ch h7_7 ((Apart.symm (fun q h1 h2 => by have := (o1_1.row h1).2; have := (f3.row h2).1; omega))))
        refine E.again (k + 1, (m + 1), A7_7, c7_7, (out ++ [((radsB s).getD k noAd).e])) (.cons rfl (.cons rfl (.cons rfl (.nil _)))) ?_ ?_
        · exact ⟨by omega, by omega, by rw [redges_next (by omega), ← hout]; simp [-List.getD_eq_getElem?_getD, c0, c1], L4, by have := zl0; have := h7_6.size; have := h7_7.size; omega, f5, o7_7⟩
        · first | omega | (simp only []; omega)
    · refine WC.condN rfl (decide_eq_false c0) ?_
      refine WC.exit ?_
      refine E.thenX ?_
      refine E.thenX ?_
      refine E.blkH ?_
      refine E.thenN ?_
      refine WC.seq ?_
      refine WC.region ?_
      refine W.any (.move rfl) rfl rfl rfl ?_
      refine W.any (.assign rfl) rfl rfl rfl ?_
      refine W.nil ?_
      refine E.thenN ?_
      refine WC.ret ?_
      refine E.retG1 rfl rfl ?_
      have hz : out = redgesB s := (by rw [hout, List.take_of_length_le (by omega)]; rfl); have hq := (f0_1.mono L1.size); have hml := hq.1; rw [hz] at hq hml; exact ⟨_, _, by rw [hml], hq.cast hml.symm rfl, Ll0⟩

theorem sameedges_ok {A B : Option Addr} {n m c d : Nat} {xs ys : List Gsp.Edge} (w : World) (hX : Vec w edgeV 9 A n xs) (hY : Vec w edgeV 9 B m ys) (hn : n ≤ 1000000) : Calls Tryz.prog 20 #[.slice A n c, .slice B m d] w fun r w' => r = .returned (.bool (decide (xs = ys))) ∧ Le w w' := by
  have hxl := hX.1
  have hyl := hY.1
  refine enter Tryz.func20 rfl rfl ?_
  have L0 := Le.refl w
  refine WC.seq ?_
  refine WC.region ?_
  refine W.any (.assign rfl) rfl rfl rfl ?_
  refine W.nil ?_
  refine E.thenN ?_
  refine WC.seq ?_
  refine WC.seq ?_
  refine WC.region ?_
  refine W.any (.move rfl) rfl rfl rfl ?_
  refine W.rd (.len Tryz.underlying55 rfl) rfl rfl rfl ?_
  refine W.any (.move rfl) rfl rfl rfl ?_
  refine W.rd (.len Tryz.underlying55 rfl) rfl rfl rfl ?_
  refine W.any (.neq rfl rfl) rfl rfl rfl ?_
  refine W.nil ?_
  refine E.thenN ?_
  by_cases c0 : ((n : Nat) : Int) ≠ ((m : Nat) : Int)
  · refine WC.condY rfl (decide_eq_true c0) ?_
    refine WC.seq ?_
    refine WC.region ?_
    refine W.any (.assign rfl) rfl rfl rfl ?_
    refine W.nil ?_
    refine E.thenN ?_
    refine WC.ret ?_
    refine E.thenR ?_
    refine E.retG1 rfl rfl ?_
    exact ⟨congrArg (fun b => Ending.returned (Value.bool b)) (eq_comm.1 (decide_eq_false (fun e => absurd (by rw [← hxl, ← hyl, e]) c0))), L0⟩
  · refine WC.condN rfl (decide_eq_false c0) ?_
    refine WC.skip ?_
    refine E.thenN ?_
    refine WC.seq ?_
    refine WC.seq ?_
    refine WC.region ?_
    refine W.any (.assign rfl) rfl rfl rfl ?_
    refine W.nil ?_
    refine E.thenN ?_
    refine WC.block ?_
    refine WC.loop (ι := Nat) (fun k => [(0, .slice A n c), (1, .slice B m d), (5, .int .i64 (((k : Nat) : Int)))]) (fun k wl0 => (k ≤ n) ∧ (∀ j, j < k → xs.getD j noEdge = ys.getD j noEdge) ∧ Le w wl0 ∧ w.heap.size ≤ wl0.heap.size) (fun k => n - k) 0 ?_ ?_ ?_
    · exact .cons rfl (.cons rfl (.cons rfl (.nil _)))
    · exact ⟨Nat.zero_le _, fun j hj => absurd hj (Nat.not_lt_zero _), L0, Nat.le_refl _⟩
    · rintro k wl0 ⟨hk, hz, Ll0, zl0⟩
      refine WC.seq ?_
      refine WC.seq ?_
      refine WC.region ?_
      refine W.any (.move rfl) rfl rfl rfl ?_
      refine W.any (.move rfl) rfl rfl rfl ?_
      refine W.rd (.len Tryz.underlying55 rfl) rfl rfl rfl ?_
      refine W.any (.lss rfl rfl) rfl rfl rfl ?_
      refine W.nil ?_
      refine E.thenN ?_
      by_cases c1 : ((k : Nat) : Int) < ((n : Nat) : Int)
      · refine WC.condY rfl (decide_eq_true c1) ?_
        refine WC.skip ?_
        refine E.thenN ?_
        refine WC.seq ?_
        refine WC.block ?_
        refine WC.seq ?_
        refine WC.draw [0, 1, 2, 3, 4, 5, 6, 7, 8] mixed (by kernel_rfl) ?_
        intro w6 d6
        have L1 := Ll0.trans d6
        refine G.any rfl rfl (.move rfl) rfl rfl rfl ?_
        refine G.any rfl rfl (.move rfl) rfl rfl rfl ?_
        refine G.any rfl rfl (.idxS (k) Tryz.underlying55 sz27 rfl rfl (hX.isSome edgeV_row (by omega)) (rfl) (by omega)) rfl rfl rfl ?_
        refine G.rd rfl rfl (.vload ag27 rfl (hX.le L1) edgeV_row (getS xs noEdge (by first | omega | (simp only [List.length_cons, List.length_nil]; omega)))) rfl rfl rfl ?_
        refine G.any rfl rfl (.move rfl) rfl rfl rfl ?_
        refine G.any rfl rfl (.move rfl) rfl rfl rfl ?_
        refine G.any rfl rfl (.idxS (k) Tryz.underlying55 sz27 rfl rfl (hY.isSome edgeV_row (by omega)) (rfl) (by omega)) rfl rfl rfl ?_
        refine G.rd rfl rfl (.vload ag27 rfl (hY.le L1) edgeV_row (getS ys noEdge (by first | omega | (simp only [List.length_cons, List.length_nil]; omega)))) rfl rfl rfl ?_
        refine G.any rfl rfl (.neA eg27 rfl rfl (eqv_edge (d := 9997) _ _)) rfl rfl rfl ?_
        refine G.nil ?_
        refine E.thenN ?_
        by_cases c2 : (xs.getD k noEdge) = (ys.getD k noEdge)
        · refine WC.condN rfl (congrArg not (decide_eq_true c2)) ?_
          refine WC.skip ?_
          refine E.blkN ?_
          refine E.thenN ?_
          refine WC.region ?_
          refine W.any (.move rfl) rfl rfl rfl ?_
          refine W.any (.add rfl rfl (by omega)) rfl rfl rfl ?_
          refine W.any (.assign rfl) rfl rfl rfl ?_
          refine W.nil ?_
          refine E.again (k + 1) (.cons rfl (.cons rfl (.cons rfl (.nil _)))) ?_ ?_
          · exact ⟨by omega, fun j hj => by rcases Nat.lt_or_ge j k with h | h; exact hz j h; rw [show j = k by omega]; first | exact Classical.not_not.1 c2 | (exact (by assumption)), L1, by have := zl0; have := d6.size; omega⟩
          · first | omega | (simp only []; omega)
        · refine WC.condY rfl (congrArg not (decide_eq_false c2)) ?_
          refine WC.seq ?_
          refine WC.region ?_
          refine W.any (.assign rfl) rfl rfl rfl ?_
          refine W.nil ?_
          refine E.thenN ?_
          refine WC.ret ?_
          refine E.blkR ?_
          refine E.thenR ?_
          refine E.thenR ?_
          refine E.blkR ?_
          refine E.thenR ?_
          refine E.retG1 rfl rfl ?_
          exact ⟨congrArg (fun b => Ending.returned (Value.bool b)) (eq_comm.1 (decide_eq_false (fun e => absurd (show xs.getD k noEdge = ys.getD k noEdge by rw [e]) (by assumption)))), L1⟩
      · refine WC.condN rfl (decide_eq_false c1) ?_
        refine WC.exit ?_
        refine E.thenX ?_
        refine E.thenX ?_
        refine E.blkH ?_
        refine E.thenN ?_
        refine WC.seq ?_
        refine WC.region ?_
        refine W.any (.assign rfl) rfl rfl rfl ?_
        refine W.nil ?_
        refine E.thenN ?_
        refine WC.ret ?_
        refine E.retG1 rfl rfl ?_
        exact ⟨congrArg (fun b => Ending.returned (Value.bool b)) (eq_comm.1 (decide_eq_true (ext_getD (z := noEdge) (by omega) (fun j hj => hz j (by omega))))), Ll0⟩
end Go.Proofs.YtbpfhenbcgjpcaaGreat

