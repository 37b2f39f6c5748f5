/- RouteLearns: for every input the law answers true and leaves its arguments as they were. -/
import Derived.Test.YtmkdeemjkcigkaaGreatDoorRouteLearnsQ
import Derived.Handy
import Derived.OrdersHeld
import Derived.WalkKit
import Derived.Deep.AppendSrc
import Derived.Deep.MidRow
import Derived.Laws.OwnMore
import Derived.WalkSpells
import Derived.Lib.ConvBytes
import Derived.Lib.AppendZerosOnto
import Derived.Laws.StructEq
import Derived.Maps.RangeRun
import Derived.Laws.Pointers
import Derived.Laws.Concat
import Derived.Test.YtmkdeemjkcigkaaGreatDoorProg
import Derived.KernelRfl
import Derived.Lib.Mul64
import Derived.RangeFuncNested
import Derived.RangeFuncBound
import Derived.RangeFuncCalls
import Derived.RangeFuncLeaves
import Derived.OrdersIn
import Derived.Laws.Cover3
import Derived.Shelf.Strconv.Itoa3
import Derived.Lib.ItoaLen
import Derived.Lib.AppendIntMem
set_option linter.unusedVariables false
set_option linter.unusedSimpArgs false
set_option linter.unusedSimpArgs false
set_option linter.unusedVariables false
set_option maxRecDepth 20000
namespace Go.Proofs
open Go.Shelf
def Tryz.laysM171_ren : Go.Shelf.Ren := ⟨fun | 171 => 108 | 243 => 133 | 246 => 147 | 283 => 154 | 284 => 155 | 285 => 156 | 286 => 157 | 129 => 162 | 317 => 161 | 318 => 163 | 319 => 164 | 320 => 165 | 337 => 166 | 338 => 167 | n => n, fun | 3 => 3 | 9 => 9 | 2 => 2 | 4 => 4 | 171 => 176 | 0 => 0 | 53 => 57 | 37 => 154 | 5 => 5 | 173 => 179 | 212 => 186 | 51 => 122 | 20 => 20 | 213 => 187 | 46 => 134 | 232 => 190 | 233 => 191 | n => n, fun | 17 => 2 | 18 => 4 | 19 => 5 | n => n⟩
theorem Tryz.laysM171 : Go.Proofs.LaysM.n171 Tryz.prog Tryz.laysM171_ren := {
  mixed := by kernel_rfl
  f129 := Tryz.func162.trans (congrArg some (by kernel_rfl))
  f171 := Tryz.func108.trans (congrArg some (by kernel_rfl))
  f243 := Tryz.func133.trans (congrArg some (by kernel_rfl))
  f246 := Tryz.func147.trans (congrArg some (by kernel_rfl))
  f283 := Tryz.func154.trans (congrArg some (by kernel_rfl))
  f284 := Tryz.func155.trans (congrArg some (by kernel_rfl))
  f285 := Tryz.func156.trans (congrArg some (by kernel_rfl))
  f286 := Tryz.func157.trans (congrArg some (by kernel_rfl))
  f317 := Tryz.func161.trans (congrArg some (by kernel_rfl))
  f318 := Tryz.func163.trans (congrArg some (by kernel_rfl))
  f319 := Tryz.func164.trans (congrArg some (by kernel_rfl))
  f320 := Tryz.func165.trans (congrArg some (by kernel_rfl))
  f337 := Tryz.func166.trans (congrArg some (by kernel_rfl))
  f338 := Tryz.func167.trans (congrArg some (by kernel_rfl))
  t0 := Tryz.underlying0
  a0 := Tryz.isAgg0
  z0 := Tryz.sizeOf0
  v0 := Tryz.zeroValue0
  t2 := Tryz.underlying2
  a2 := Tryz.isAgg2
  z2 := Tryz.sizeOf2
  v2 := Tryz.zeroValue2
  t3 := Tryz.underlying3
  a3 := Tryz.isAgg3
  z3 := Tryz.sizeOf3
  v3 := Tryz.zeroValue3
  t4 := Tryz.underlying4
  a4 := Tryz.isAgg4
  z4 := Tryz.sizeOf4
  v4 := Tryz.zeroValue4
  t5 := Tryz.underlying5
  a5 := Tryz.isAgg5
  z5 := Tryz.sizeOf5
  v5 := Tryz.zeroValue5
  t9 := Tryz.underlying9
  a9 := Tryz.isAgg9
  z9 := Tryz.sizeOf9
  v9 := Tryz.zeroValue9
  t20 := Tryz.underlying20
  a20 := Tryz.isAgg20
  z20 := Tryz.sizeOf20
  v20 := Tryz.zeroValue20
  t37 := Tryz.underlying154
  a37 := Tryz.isAgg154
  z37 := Tryz.sizeOf154
  v37 := Tryz.zeroValue154
  t46 := Tryz.underlying134
  a46 := Tryz.isAgg134
  z46 := Tryz.sizeOf134
  v46 := Tryz.zeroValue134
  t51 := Tryz.underlying122
  a51 := Tryz.isAgg122
  z51 := Tryz.sizeOf122
  v51 := Tryz.zeroValue122
  t53 := Tryz.underlying57
  a53 := Tryz.isAgg57
  z53 := Tryz.sizeOf57
  v53 := Tryz.zeroValue57
  t171 := Tryz.underlying176
  a171 := Tryz.isAgg176
  z171 := Tryz.sizeOf176
  v171 := Tryz.zeroValue176
  t173 := Tryz.underlying179
  a173 := Tryz.isAgg179
  z173 := Tryz.sizeOf179
  v173 := Tryz.zeroValue179
  t212 := Tryz.underlying186
  a212 := Tryz.isAgg186
  z212 := Tryz.sizeOf186
  v212 := Tryz.zeroValue186
  t213 := Tryz.underlying187
  a213 := Tryz.isAgg187
  z213 := Tryz.sizeOf187
  t232 := Tryz.underlying190
  a232 := Tryz.isAgg190
  z232 := Tryz.sizeOf190
  v232 := Tryz.zeroValue190
  t233 := Tryz.underlying191
  a233 := Tryz.isAgg191
  z233 := Tryz.sizeOf191
  v233 := Tryz.zeroValue191
  g17 := by kernel_rfl
  g18 := by kernel_rfl
  g19 := by kernel_rfl
  i0 := by kernel_rfl
  i2 := by kernel_rfl
  i3 := by kernel_rfl
  i4 := by kernel_rfl
  i5 := by kernel_rfl
  i9 := by kernel_rfl
  i20 := by kernel_rfl
  i37 := by kernel_rfl
  i46 := by kernel_rfl
  i51 := by kernel_rfl
  i53 := by kernel_rfl
  i171 := by kernel_rfl
  i173 := by kernel_rfl
  i212 := by kernel_rfl
  i232 := by kernel_rfl
  i233 := by kernel_rfl
  m17 := by kernel_rfl
  m18 := by kernel_rfl
  m19 := by kernel_rfl }
end Go.Proofs
namespace Go.Proofs.YtmkdeemjkcigkaaGreatDoor
open Go Go.Sx Go.Nsp
/-- The library's table of tens reads as it is laid. -/
def Tab (w : World) : Prop := Lib.TabIs Tryz.prog w "internal/strconv.uint64pow10" .u64 Lib.pow10Tab
theorem Tab.le {w w' : World} (h : Tab w) (hl : Le w w') : Tab w' := Lib.tabBelow_of_tabIs h w' hl
theorem itoa_len {p : Nat} (h : p < 1000000000) : (Lib.itoa ((p : Nat) : Int)).length ≤ 21 := Lib.itoa_length_le _ (by omega) (by omega)
theorem itoa_ok (p : Nat) (w : World) (hT : Tab w) (h0 : 0 ≤ p) (h1 : p < 1000000000) : Calls Tryz.prog 108 #[.int .i64 ((p : Nat) : Int)] w fun r w' => r = .returned (.string ⟨(Lib.itoa ((p : Nat) : Int)).toArray⟩) ∧ Le w w' :=
  (Any.strconv_Itoa Tryz.laysM171 ((p : Nat) : Int) (by omega) (by omega) w hT).mono (by
    rintro _ w' ⟨rfl, k, os, rfl⟩
    exact ⟨rfl, Lib.below_grow _ w (Nat.le_refl _) k os⟩)
/-- A fraction's text. -/
def textF (p q : Nat) : List UInt8 := if q = 1 then Lib.itoa ((p : Nat) : Int) else Lib.itoa ((p : Nat) : Int) ++ ([47] : List UInt8) ++ Lib.itoa ((q : Nat) : Int)
theorem digs_lots : digs 1000000000 = [1000000000] := by rw [digs_pos (by decide), show 1000000000 / B = 0 from rfl, digs_zero]; rfl
theorem ntext_ok {A : Option Addr} {n c p : Nat} (w : World) (hT : Tab w) (hV : Vec w dv 1 A n (digs p)) (hn : n ≤ 10000) (hp1 : p < 1000000000) : Calls Tryz.prog 70 #[.slice A n c] w fun r w' => r = .returned (.string ⟨(Lib.itoa ((p : Nat) : Int)).toArray⟩) ∧ Le w w' := by
  have hl := hV.1
  refine enter Tryz.func70 rfl rfl ?_
  have L0 := Le.refl w
  refine WC.seq ?_
  refine WC.region ?_
  refine W.any (.assign rfl) rfl rfl rfl ?_
  refine W.nil ?_
  refine E.thenN ?_
  refine WC.seq ?_
  refine WC.region ?_
  refine W.any (.move rfl) rfl rfl rfl ?_
  refine W.ef rfl rfl rfl ?_
  refine Ef.call go97 rfl rfl (ntaken_ok w (hV.le L0) (by omega)) ?_
  rintro _ w1_1 ⟨rfl, h1_1⟩
  refine ⟨_, rfl, ?_⟩
  have L1 := L0.trans h1_1
  refine W.any (.assign rfl) rfl rfl rfl ?_
  refine W.nil ?_
  refine E.thenN ?_
  refine WC.seq ?_
  refine WC.region ?_
  refine W.any (.assign rfl) rfl rfl rfl ?_
  refine W.nil ?_
  refine E.thenN ?_
  refine WC.block ?_
  refine WC.loop (ι := Nat) (fun k => [(0, .slice A n c), (3, .string ⟨([] : List UInt8).toArray⟩)]) (fun k wl0 => Le w wl0 ∧ w1_1.heap.size ≤ wl0.heap.size) (fun k => k) 0 ?_ ?_ ?_
  · exact .cons rfl (.cons rfl (.nil _))
  · exact ⟨L1, Nat.le_refl _⟩
  · rintro k wl0 ⟨Ll0, zl0⟩
    refine WC.block ?_
    refine WC.seq ?_
    refine WC.region ?_
    refine W.any (.move rfl) rfl rfl rfl ?_
    refine W.ef rfl rfl rfl ?_
    refine Ef.buildSliceV (len := 1) [_] Tryz.underlying31 el122 rfl (by simp [Value.cells]) rfl (by decide) (by decide) ?_
    intro g3_1 w3_1 hg3_1 b3_1 h3_1
    have L2 := Ll0.trans h3_1
    have b3_1 : Blk w3_1 g3_1 122 (([1000000000]).map dv).flatten.toArray := b3_1
    have o3_1 : OVec w3_1 wl0.heap.size 122 dv 1 (some ⟨g3_1, 0, none⟩) 1 1 ([1000000000]) := b3_1.ovec hg3_1 dv_row rfl rfl (by decide)
    have o3 := o3_1.cast (m' := 1) (ys := (digs 1000000000)) (rfl) (digs_lots.symm)
    refine W.ef rfl rfl rfl ?_
    refine Ef.call go102 rfl rfl (ndivmod_ok w3_1 (hV.le L2) o3.vec (by omega) (by omega) (by omega)) ?_
    rintro _ w3_2 ⟨Aq3_2, cq3_2, Ar3_2, cr3_2, rfl, oq3_2, or3_2, h3_2⟩
    refine ⟨_, rfl, ?_⟩
    have L4 := L2.trans h3_2
    refine W.any (.move rfl) rfl rfl rfl ?_
    refine W.any (.extract (v := .slice Aq3_2 ((digs (p / 1000000000)).length) cq3_2) rfl rfl) rfl rfl rfl ?_
    refine W.any (.extract (v := .slice Ar3_2 ((digs (p % 1000000000)).length) cr3_2) rfl rfl) rfl rfl rfl ?_
    refine W.any (.extract (v := .bool true) rfl rfl) rfl rfl rfl ?_
    refine W.any (.assign rfl) rfl rfl rfl ?_
    refine W.any (.assign rfl) rfl rfl rfl ?_
    refine W.any (.assign rfl) rfl rfl rfl ?_
    refine W.nil ?_
    refine E.thenN ?_
    refine WC.seq ?_
    refine WC.region ?_
    refine W.any (.move rfl) rfl rfl rfl ?_
    refine W.ef rfl rfl rfl ?_
    refine Ef.call go107 rfl rfl (nint_ok w3_2 or3_2.vec (by omega)) ?_
    rintro _ w4_1 ⟨rfl, h4_1⟩
    refine ⟨_, rfl, ?_⟩
    have L5 := L4.trans h4_1
    refine W.any (.move rfl) rfl rfl rfl ?_
    refine W.any (.extract (v := .int .i64 ((((p % 1000000000) : Nat) : Int))) rfl rfl) rfl rfl rfl ?_
    refine W.any (.extract (v := .bool true) rfl rfl) rfl rfl rfl ?_
    refine W.any (.assign rfl) rfl rfl rfl ?_
    refine W.any (.assign rfl) rfl rfl rfl ?_
    refine W.nil ?_
    refine E.thenN ?_
    refine WC.seq ?_
    refine WC.region ?_
    refine W.any (.move rfl) rfl rfl rfl ?_
    refine W.ef rfl rfl rfl ?_
    refine Ef.call go108 rfl rfl (itoa_ok (p % 1000000000) w4_1 (hT.le L5) (by omega) (by omega)) ?_
    rintro _ w5_1 ⟨rfl, h5_1⟩
    refine ⟨_, rfl, ?_⟩
    have L6 := L5.trans h5_1
    refine W.any (.assign rfl) rfl rfl rfl ?_
    refine W.nil ?_
    refine E.thenN ?_
    refine WC.seq ?_
    refine WC.seq ?_
    refine WC.region ?_
    refine W.any (.move rfl) rfl rfl rfl ?_
    refine W.rd (.len Tryz.underlying31 rfl) rfl rfl rfl ?_
    refine W.any (.eql rfl rfl) rfl rfl rfl ?_
    refine W.nil ?_
    refine E.thenN ?_
    refine WC.condY rfl (decide_eq_true (by rw [Nat.div_eq_of_lt hp1, digs_zero]; rfl)) ?_
    refine WC.seq ?_
    refine WC.region ?_
    refine W.any (.move rfl) rfl rfl rfl ?_
    refine W.any (.move rfl) rfl rfl rfl ?_
    refine W.any (.addStr (a := Lib.itoa (((p % 1000000000) : Nat) : Int)) (b := ([] : List UInt8)) rfl rfl (Nat.le_trans (itoa_len (by omega)) (by decide)) (by decide)) rfl rfl rfl ?_
    refine W.any (.assign rfl) rfl rfl rfl ?_
    refine W.nil ?_
    refine E.thenN ?_
    refine WC.ret ?_
    refine E.thenR ?_
    refine E.blkR ?_
    refine E.thenR ?_
    refine E.blkR ?_
    refine E.retG1 rfl rfl ?_
    exact ⟨congrArg (fun v => Ending.returned (Value.string ⟨List.toArray v⟩)) (by simp [show p % 1000000000 = p from Nat.mod_eq_of_lt hp1]), L6⟩

theorem ftext_ok {An Ad : Option Addr} {nn cn nd cd p q : Nat} (w : World) (hT : Tab w) (hn : Vec w dv 1 An nn (digs p)) (hd : Vec w dv 1 Ad nd (digs q)) (bn : nn ≤ 10000) (bd : nd ≤ 10000) (hok : okB p q = true) (hp1 : p < 1000000000) (hq1 : q < 1000000000) : Calls Tryz.prog 30 #[.agg #[.slice An nn cn, .slice Ad nd cd]] w fun r w' => r = .returned (.string ⟨(textF p q).toArray⟩) ∧ Le w w' := by
  have hln := hn.1; have hld := hd.1
  have h1l := digs_len_one (d := 1) (by decide)
  refine enter Tryz.func30 rfl rfl ?_
  have L0 := Le.refl w
  refine WC.seq ?_
  refine WC.region ?_
  refine W.ef rfl rfl rfl ?_
  refine Ef.boxA rfl ?_
  intro g0_0 w0_0 hg0_0 b0_0 h0_0
  have L1 := L0.trans h0_0
  have b0_0 : Blk w0_0 g0_0 33 #[.slice An nn cn, .slice Ad nd cd] := b0_0
  refine W.any (.assign rfl) rfl rfl rfl ?_
  refine W.nil ?_
  refine E.thenN ?_
  refine WC.seq ?_
  refine WC.region ?_
  refine W.rd (.loadAll ag33 (by rfl) rfl b0_0) rfl rfl rfl ?_
  refine W.ef rfl rfl rfl ?_
  refine Ef.call go68 rfl rfl (ftaken_yes w0_0 (hn.le L1) (hd.le L1) (by omega) (by omega) hok) ?_
  rintro _ w1_1 ⟨rfl, h1_1⟩
  refine ⟨_, rfl, ?_⟩
  have L2 := L1.trans h1_1
  have f3 := (b0_0.le h1_1)
  refine W.ef0 rfl rfl ?_
  refine Ef.storeAll sz33 (by rfl) rfl rfl f3 (by rfl) (by simp [Value.oneCell']) ?_
  intro w1_2 b1_2 h1_2
  have b1_2 : Blk w1_2 g0_0 33 #[.slice An nn cn, .slice Ad nd cd] := b1_2
  have L4 : Le w w1_2 := L2.then_ h1_2 (fun q hq => by cases hq; exact Nat.le_trans L0.size hg0_0)
  refine W.nil ?_
  refine E.thenN ?_
  refine WC.seq ?_
  refine WC.seq ?_
  refine WC.draw [0, 1, 2, 3, 4] mixed (by kernel_rfl) ?_
  intro w2 d2
  have L5 := L4.trans d2
  refine G.any rfl rfl (.field0 fa33_1 rfl) rfl rfl rfl ?_
  have f6 := (b1_2.le d2)
  refine G.rd rfl rfl (.loadB (v := .slice Ad nd cd) na31 rfl f6 rfl) rfl rfl rfl ?_
  refine G.ef rfl rfl rfl rfl rfl ?_
  refine Ef.call go69 rfl rfl (fone_ok w2) ?_
  rintro _ w2_2 ⟨Ad2_2, cd2_2, rfl, o2_2, h2_2⟩
  refine ⟨_, rfl, ?_⟩
  refine ⟨fun _ => h2_2, ?_⟩
  have L7 := L5.trans h2_2
  refine G.ef rfl rfl rfl rfl rfl ?_
  refine Ef.call go58 rfl rfl (ncmp_ok w2_2 (hd.le L7) o2_2.vec (by omega) (by omega)) ?_
  rintro _ w2_3 ⟨rfl, h2_3⟩
  refine ⟨_, rfl, ?_⟩
  refine ⟨fun _ => h2_3, ?_⟩
  have L8 := L7.trans h2_3
  refine G.any rfl rfl (.eql rfl rfl) rfl rfl rfl ?_
  refine G.nil ?_
  refine E.thenN ?_
  by_cases c0 : (cmpN q 1) = 0
  · refine WC.condY rfl (decide_eq_true c0) ?_
    refine WC.seq ?_
    refine WC.region ?_
    refine W.any (.field0 fa33_0 rfl) rfl rfl rfl ?_
    have f9 := (f6.le (h2_2.trans h2_3))
    refine W.rd (.loadB (v := .slice An nn cn) na31 rfl f9 rfl) rfl rfl rfl ?_
    refine W.ef rfl rfl rfl ?_
    refine Ef.call go70 rfl rfl (ntext_ok w2_3 (hT.le L8) (hn.le L8) (by omega) (by omega)) ?_
    rintro _ w3_2 ⟨rfl, h3_2⟩
    refine ⟨_, rfl, ?_⟩
    have L10 := L8.trans h3_2
    refine W.any (.assign rfl) rfl rfl rfl ?_
    refine W.nil ?_
    refine E.thenN ?_
    refine WC.ret ?_
    refine E.thenR ?_
    refine E.retG1 rfl rfl ?_
    exact ⟨congrArg (fun v => Ending.returned (Value.string ⟨List.toArray v⟩)) (by unfold textF; first | rw [if_pos (cmpN_eq.1 (by assumption))] | rw [if_neg (fun h => absurd (cmpN_eq.2 h) (by assumption))]), L10⟩
  · refine WC.condN rfl (decide_eq_false c0) ?_
    refine WC.skip ?_
    refine E.thenN ?_
    refine WC.seq ?_
    refine WC.draw [0, 1, 4, 5, 2, 3, 6, 7, 8] mixed (by kernel_rfl) ?_
    intro w4 d4
    have L11 := L8.trans d4
    refine G.any rfl rfl (.field0 fa33_0 rfl) rfl rfl rfl ?_
    have f12 := (f6.le (h2_2.trans (h2_3.trans d4)))
    refine G.rd rfl rfl (.loadB (v := .slice An nn cn) na31 rfl f12 rfl) rfl rfl rfl ?_
    refine G.any rfl rfl (.field0 fa33_1 rfl) rfl rfl rfl ?_
    refine G.rd rfl rfl (.loadB (v := .slice Ad nd cd) na31 rfl f12 rfl) rfl rfl rfl ?_
    refine G.ef rfl rfl rfl rfl rfl ?_
    refine Ef.call go70 rfl rfl (ntext_ok w4 (hT.le L11) (hn.le L11) (by omega) (by omega)) ?_
    rintro _ w4_2 ⟨rfl, h4_2⟩
    refine ⟨_, rfl, ?_⟩
    refine ⟨fun _ => h4_2, ?_⟩
    have L13 := L11.trans h4_2
    refine G.any rfl rfl (.addStr (a := Lib.itoa ((p : Nat) : Int)) (b := ([47] : List UInt8)) rfl rfl (Nat.le_trans (itoa_len (by omega)) (by decide)) (by decide)) rfl rfl rfl ?_
    refine G.ef rfl rfl rfl rfl rfl ?_
    refine Ef.call go70 rfl rfl (ntext_ok w4_2 (hT.le L13) (hd.le L13) (by omega) (by omega)) ?_
    rintro _ w4_6 ⟨rfl, h4_6⟩
    refine ⟨_, rfl, ?_⟩
    refine ⟨fun _ => h4_6, ?_⟩
    have L14 := L13.trans h4_6
    refine G.any rfl rfl (.addStr (a := (Lib.itoa ((p : Nat) : Int)) ++ ([47] : List UInt8)) (b := Lib.itoa ((q : Nat) : Int)) rfl rfl (by have := itoa_len (p := p) (by omega); simp only [List.length_append, List.length_cons, List.length_nil]; omega) (Nat.le_trans (itoa_len (by omega)) (by decide))) rfl rfl rfl ?_
    refine G.any rfl rfl (.assign rfl) rfl rfl rfl ?_
    refine G.nil ?_
    refine E.thenN ?_
    refine WC.ret ?_
    refine E.retG1 rfl rfl ?_
    exact ⟨congrArg (fun v => Ending.returned (Value.string ⟨List.toArray v⟩)) (by unfold textF; first | rw [if_pos (cmpN_eq.1 (by assumption))] | rw [if_neg (fun h => absurd (cmpN_eq.2 h) (by assumption))]), L14⟩
end Go.Proofs.YtmkdeemjkcigkaaGreatDoor

namespace Go.Proofs.YtmkdeemjkcigkaaGreatDoor
open Go Go.Sx Go.Num Go.Gsp Go.Nsp Go.Msp Go.Rtp
set_option maxRecDepth 20000
set_option linter.unusedSimpArgs false
set_option linter.unusedVariables false
def rE (c f t : Int) : Gsp.Edge := ⟨f, t, c, 1000, ⟨1, 0, 5, 1, 1000⟩⟩
def rG : List Gsp.Edge := [rE 0 0 1, rE 1 1 3, rE 2 0 2, rE 3 2 3]
def rM0 : MF := fun _ => none
def rM1 : MF := (noteR rM0 [rE 0 0 1, rE 1 1 3] 100 50 1).1
def rM2 : MF := (noteR rM1 [rE 2 0 2, rE 3 2 3] 100 50 (-1)).1
def rM3 : MF := (noteR rM2 [rE 2 0 2, rE 3 2 3] 100 50 0).1
theorem sm1 : bestR rG rM0 0 3 100 50 = ([rE 0 0 1, rE 1 1 3], ⟨810900, 1002001⟩, 0) := by decide +kernel
theorem sn1 : (noteR rM0 [rE 0 0 1, rE 1 1 3] 100 50 1).2 = 0 := by decide +kernel
theorem sm2 : bestR rG rM1 0 3 100 50 = ([rE 2 0 2, rE 3 2 3], ⟨810900, 1002001⟩, 0) := by decide +kernel
theorem sn2 : (noteR rM1 [rE 2 0 2, rE 3 2 3] 100 50 (-1)).2 = 0 := by decide +kernel
theorem sm3 : bestR rG rM2 0 3 100 50 = ([rE 2 0 2, rE 3 2 3], ⟨1, 1⟩, 0) := by decide +kernel
theorem sn3 : (noteR rM2 [rE 2 0 2, rE 3 2 3] 100 50 0).2 = 0 := by decide +kernel
theorem sm4 : bestR rG rM3 0 3 100 50 = ([], ⟨0, 0⟩, 19) := by decide +kernel
theorem sm5 : bestR rG rM3 0 0 100 50 = ([], ⟨0, 0⟩, 1) := by decide +kernel
theorem stx1 : textF 810900 1002001 = [56, 49, 48, 57, 48, 48, 47, 49, 48, 48, 50, 48, 48, 49] := by simp [textF, Lib.itoa, Lib.decDigits]
theorem stx2 : textF 1 1 = [49] := by simp [textF, Lib.itoa, Lib.decDigits]
set_option maxHeartbeats 4000000 in
theorem small38_ok (w : World) (hT : Tab w) : Calls Tryz.prog 7 #[] w fun r w' => r = .returned (.bool true) ∧ Le w w' := by
  have hq1 := digs_len_one (d := 810900) (by decide); have hq2 := digs_len_one (d := 1002001) (by decide); have hq3 := digs_len_one (d := 1) (by decide)
  refine enter Tryz.func7 rfl rfl ?_
  have L0 := Le.refl w
  refine WC.seq ?_
  refine WC.region ?_
  refine W.any (.assign rfl) rfl rfl rfl ?_
  refine W.nil ?_
  refine E.thenN ?_
  refine WC.seq ?_
  refine WC.region ?_
  refine W.ef rfl rfl rfl ?_
  refine Ef.call go28 rfl rfl (rledge_ok 0 0 1 w) ?_
  rintro _ w1_0 ⟨rfl, h1_0⟩
  refine ⟨_, rfl, ?_⟩
  have L1 := L0.trans h1_0
  refine W.ef rfl rfl rfl ?_
  refine Ef.call go28 rfl rfl (rledge_ok 1 1 3 w1_0) ?_
  rintro _ w1_1 ⟨rfl, h1_1⟩
  refine ⟨_, rfl, ?_⟩
  have L2 := L1.trans h1_1
  refine W.ef rfl rfl rfl ?_
  refine Ef.call go28 rfl rfl (rledge_ok 2 0 2 w1_1) ?_
  rintro _ w1_2 ⟨rfl, h1_2⟩
  refine ⟨_, rfl, ?_⟩
  have L3 := L2.trans h1_2
  refine W.ef rfl rfl rfl ?_
  refine Ef.call go28 rfl rfl (rledge_ok 3 2 3 w1_2) ?_
  rintro _ w1_3 ⟨rfl, h1_3⟩
  refine ⟨_, rfl, ?_⟩
  have L4 := L3.trans h1_3
  refine W.ef rfl rfl rfl ?_
  refine Ef.buildSliceV (len := 4) [_, _, _, _] Tryz.underlying22 el51 rfl (by simp [Value.cells, edgeV_row.len]) rfl (by decide) (by decide) ?_
  intro g1_4 w1_4 hg1_4 b1_4 h1_4
  have L5 := L4.trans h1_4
  have b1_4 : Blk w1_4 g1_4 51 (([(rE 0 0 1), (rE 1 1 3), (rE 2 0 2), (rE 3 2 3)]).map edgeV).flatten.toArray := b1_4
  have o1_4 : OVec w1_4 w1_3.heap.size 51 edgeV 9 (some ⟨g1_4, 0, none⟩) 4 4 ([(rE 0 0 1), (rE 1 1 3), (rE 2 0 2), (rE 3 2 3)]) := b1_4.ovec hg1_4 edgeV_row rfl rfl (by decide)
  have o6 := o1_4.cast (m' := 4) (ys := rG) (rfl) (rfl)
  refine W.any (.assign rfl) rfl rfl rfl ?_
  refine W.nil ?_
  refine E.thenN ?_
  refine WC.seq ?_
  refine WC.region ?_
  refine W.ef rfl rfl rfl ?_
  refine Ef.call go29 rfl rfl (new_mind w1_4) ?_
  rintro _ w2_0 ⟨gp2_0, F2_0, rfl, p2_0, h2_0⟩
  refine ⟨_, rfl, ?_⟩
  have L7 := L5.trans h2_0
  refine W.any (.assign rfl) rfl rfl rfl ?_
  refine W.nil ?_
  refine E.thenN ?_
  refine WC.seq ?_
  refine WC.seq ?_
  refine WC.region ?_
  refine W.any (.move rfl) rfl rfl rfl ?_
  refine W.any (.dec (.isNilP (by kernel_rfl) rfl) rfl) rfl rfl rfl ?_
  refine W.nil ?_
  refine E.thenN ?_
  refine WC.condF rfl ?_
  refine WC.skip ?_
  refine E.thenN ?_
  refine WC.seq ?_
  refine WC.region ?_
  refine W.any (.move rfl) rfl rfl rfl ?_
  refine W.any (.move rfl) rfl rfl rfl ?_
  have f8 := (o6.le h2_0)
  refine W.ef rfl rfl rfl ?_
  refine Ef.call go11 rfl rfl ((by have k := rbest_ok (c := 4) 0 3 100 50 w2_0 (m := rM0) (g := rG) p2_0 f8.vec (by decide); rw [sm1] at k; exact k)) ?_
  rintro _ w5_2 ⟨Aw5_2, cw5_2, An5_2, cn5_2, Ad5_2, cd5_2, rfl, ow5_2, on5_2, od5_2, h5_2⟩
  refine ⟨_, rfl, ?_⟩
  have L9 := L7.trans h5_2
  have ow5_2 := ow5_2.cast (m' := 2) rfl rfl
  refine W.any (.move rfl) rfl rfl rfl ?_
  refine W.any (.extract (v := .slice Aw5_2 2 cw5_2) rfl rfl) rfl rfl rfl ?_
  refine W.any (.extract (v := .agg #[.slice An5_2 ((digs 810900).length) cn5_2, .slice Ad5_2 ((digs 1002001).length) cd5_2]) rfl rfl) rfl rfl rfl ?_
  refine W.any (.extract (v := .int .i64 (0)) rfl rfl) rfl rfl rfl ?_
  refine W.ef rfl rfl rfl ?_
  refine Ef.allocA z33 ?_
  intro g5_7 w5_7 hg5_7 b5_7 h5_7
  have L10 := L9.trans h5_7
  have b5_7 : Blk w5_7 g5_7 33 #[.slice none 0 0, .slice none 0 0] := b5_7
  refine W.any (.assign rfl) rfl rfl rfl ?_
  refine W.ef0 rfl rfl ?_
  refine Ef.storeAll sz33 (by rfl) rfl rfl b5_7 (by rfl) (by simp [Value.oneCell']) ?_
  intro w5_9 b5_9 h5_9
  have b5_9 : Blk w5_9 g5_7 33 #[.slice An5_2 ((digs 810900).length) cn5_2, .slice Ad5_2 ((digs 1002001).length) cd5_2] := b5_9
  have L11 : Le w w5_9 := L10.then_ h5_9 (fun q hq => by cases hq; exact Nat.le_trans L9.size hg5_7)
  refine W.any (.assign rfl) rfl rfl rfl ?_
  refine W.nil ?_
  refine E.thenN ?_
  refine WC.seq ?_
  refine WC.region ?_
  refine W.any (.move rfl) rfl rfl rfl ?_
  refine W.any (.move rfl) rfl rfl rfl ?_
  have f12 := ((p2_0.le (h5_2.trans h5_7)).ch h5_9 (fun q hqq hF => by cases hqq; have := p2_0.lt hF; have := h5_2.size; have := hg5_7; omega))
  have f13 := ((ow5_2.le h5_7).ch h5_9 (fun q hq => by cases hq; exact (fun he => by have := (ow5_2.row he).2; omega)))
  have hva6_2 := apart_vec f13 (show ∀ g, rowOf Aw5_2 cw5_2 = some g → ¬ F2_0 g from (fun g hg hF => by have := p2_0.lt hF;  have := (f13.row hg).1; omega))
  refine W.ef rfl rfl rfl ?_
  refine Ef.call go18 rfl rfl ((by have k := rnote_ok (m := rM0) (c := cw5_2) 100 50 1 w5_9 f12 f13.vec (by decide) hva6_2; rw [sn1] at k; exact k)) ?_
  rintro _ w6_2 ⟨rfl, p6_2, g6_2, h6_2⟩
  refine ⟨_, rfl, ?_⟩
  have L14 := L11.chP_then h6_2 (fun i hi => Nat.le_trans L5.size (f12.old hi))
  have f15 := ((f8.le (h5_2.trans h5_7)).ch h5_9 (fun q hq => by cases hq; exact (fun he => by have := (f8.row he).2; have := h5_2.size; omega)))
  have f16 := ((on5_2.le h5_7).ch h5_9 (fun q hq => by cases hq; exact (fun he => by have := (on5_2.row he).2; omega)))
  have f17 := ((od5_2.le h5_7).ch h5_9 (fun q hq => by cases hq; exact (fun he => by have := (od5_2.row he).2; omega)))
  have zq18n := (show ∀ g, rowOf (some ⟨g1_4, 0, none⟩) 4 = some g → ¬ F2_0 g from (fun g hg hF => by have := f12.old hF;  have := (o1_4.row hg).2; omega))
  have zq18 := f15.chP h6_2 zq18n
  have zq18g : ∀ g, rowOf (some ⟨g1_4, 0, none⟩) 4 = some g → ¬ F2_0 g := fun g hg hF => (g6_2 _ hF).elim (zq18n g hg) (fun hz => by have := (f15.row hg).2; omega)
  have zq19n := (show ∀ g, rowOf Aw5_2 cw5_2 = some g → ¬ F2_0 g from (fun g hg hF => by have := p2_0.lt hF;  have := (f13.row hg).1; omega))
  have zq19 := f13.chP h6_2 zq19n
  have zq19g : ∀ g, rowOf Aw5_2 cw5_2 = some g → ¬ F2_0 g := fun g hg hF => (g6_2 _ hF).elim (zq19n g hg) (fun hz => by have := (f13.row hg).2; omega)
  have zq20n := (show ∀ g, rowOf An5_2 cn5_2 = some g → ¬ F2_0 g from (fun g hg hF => by have := p2_0.lt hF;  have := (f16.row hg).1; omega))
  have zq20 := f16.chP h6_2 zq20n
  have zq20g : ∀ g, rowOf An5_2 cn5_2 = some g → ¬ F2_0 g := fun g hg hF => (g6_2 _ hF).elim (zq20n g hg) (fun hz => by have := (f16.row hg).2; omega)
  have zq21n := (show ∀ g, rowOf Ad5_2 cd5_2 = some g → ¬ F2_0 g from (fun g hg hF => by have := p2_0.lt hF;  have := (f17.row hg).1; omega))
  have zq21 := f17.chP h6_2 zq21n
  have zq21g : ∀ g, rowOf Ad5_2 cd5_2 = some g → ¬ F2_0 g := fun g hg hF => (g6_2 _ hF).elim (zq21n g hg) (fun hz => by have := (f17.row hg).2; omega)
  have zq22n := (show ¬ F2_0 g5_7 from (fun hF => by have := p2_0.lt hF; have := h5_2.size; have := hg5_7; omega))
  have zq22 := b5_9.chP h6_2 zq22n
  have zq22g : ¬ F2_0 g5_7 := fun hF => (g6_2 _ hF).elim zq22n (fun hz => by have := b5_9.lt; omega)
  refine W.any (.assign rfl) rfl rfl rfl ?_
  refine W.nil ?_
  refine E.thenN ?_
  refine WC.seq ?_
  refine WC.region ?_
  refine W.any (.move rfl) rfl rfl rfl ?_
  refine W.any (.move rfl) rfl rfl rfl ?_
  refine W.ef rfl rfl rfl ?_
  refine Ef.call go11 rfl rfl ((by have k := rbest_ok (c := 4) 0 3 100 50 w6_2 (m := rM1) (g := rG) p6_2 zq18.vec (by decide); rw [sm2] at k; exact k)) ?_
  rintro _ w7_2 ⟨Aw7_2, cw7_2, An7_2, cn7_2, Ad7_2, cd7_2, rfl, ow7_2, on7_2, od7_2, h7_2⟩
  refine ⟨_, rfl, ?_⟩
  have L23 := L14.trans h7_2
  have ow7_2 := ow7_2.cast (m' := 2) rfl rfl
  refine W.any (.move rfl) rfl rfl rfl ?_
  refine W.any (.extract (v := .slice Aw7_2 2 cw7_2) rfl rfl) rfl rfl rfl ?_
  refine W.any (.extract (v := .agg #[.slice An7_2 ((digs 810900).length) cn7_2, .slice Ad7_2 ((digs 1002001).length) cd7_2]) rfl rfl) rfl rfl rfl ?_
  refine W.any (.extract (v := .int .i64 (0)) rfl rfl) rfl rfl rfl ?_
  refine W.ef rfl rfl rfl ?_
  refine Ef.allocA z33 ?_
  intro g7_7 w7_7 hg7_7 b7_7 h7_7
  have L24 := L23.trans h7_7
  have b7_7 : Blk w7_7 g7_7 33 #[.slice none 0 0, .slice none 0 0] := b7_7
  refine W.any (.assign rfl) rfl rfl rfl ?_
  refine W.ef0 rfl rfl ?_
  refine Ef.storeAll sz33 (by rfl) rfl rfl b7_7 (by rfl) (by simp [Value.oneCell']) ?_
  intro w7_9 b7_9 h7_9
  have b7_9 : Blk w7_9 g7_7 33 #[.slice An7_2 ((digs 810900).length) cn7_2, .slice Ad7_2 ((digs 1002001).length) cd7_2] := b7_9
  have L25 : Le w w7_9 := L24.then_ h7_9 (fun q hq => by cases hq; exact Nat.le_trans L23.size hg7_7)
  refine W.any (.assign rfl) rfl rfl rfl ?_
  refine W.nil ?_
  refine E.thenN ?_
  refine WC.seq ?_
  refine WC.region ?_
  refine W.any (.move rfl) rfl rfl rfl ?_
  refine W.any (.move rfl) rfl rfl rfl ?_
  have f26 := ((p6_2.le (h7_2.trans h7_7)).ch h7_9 (fun q hqq hF => by cases hqq; have := p6_2.lt hF; have := h7_2.size; have := hg7_7; omega))
  have f27 := ((ow7_2.le h7_7).ch h7_9 (fun q hq => by cases hq; exact (fun he => by have := (ow7_2.row he).2; omega)))
  have hva8_2 := apart_vec f27 (show ∀ g, rowOf Aw7_2 cw7_2 = some g → ¬ F2_0 g from (fun g hg hF => by have := p6_2.lt hF;  have := (f27.row hg).1; omega))
  refine W.ef rfl rfl rfl ?_
  refine Ef.call go18 rfl rfl ((by have k := rnote_ok (m := rM1) (c := cw7_2) 100 50 (-1) w7_9 f26 f27.vec (by decide) hva8_2; rw [sn2] at k; exact k)) ?_
  rintro _ w8_2 ⟨rfl, p8_2, g8_2, h8_2⟩
  refine ⟨_, rfl, ?_⟩
  have L28 := L25.chP_then h8_2 (fun i hi => Nat.le_trans L5.size (f26.old hi))
  have f29 := ((zq18.le (h7_2.trans h7_7)).ch h7_9 (fun q hq => by cases hq; exact (fun he => by have := (zq18.row he).2; have := h7_2.size; omega)))
  have f30 := ((zq19.le (h7_2.trans h7_7)).ch h7_9 (fun q hq => by cases hq; exact (fun he => by have := (zq19.row he).2; have := h7_2.size; omega)))
  have f31 := ((zq20.le (h7_2.trans h7_7)).ch h7_9 (fun q hq => by cases hq; exact (fun he => by have := (zq20.row he).2; have := h7_2.size; omega)))
  have f32 := ((zq21.le (h7_2.trans h7_7)).ch h7_9 (fun q hq => by cases hq; exact (fun he => by have := (zq21.row he).2; have := h7_2.size; omega)))
  have f33 := ((zq22.le (h7_2.trans h7_7)).ch h7_9 (fun h => (show g7_7 ≠ g5_7 from by have := zq22.lt; have := h7_2.size; omega) (Option.some.inj h)))
  have f34 := ((on7_2.le h7_7).ch h7_9 (fun q hq => by cases hq; exact (fun he => by have := (on7_2.row he).2; omega)))
  have f35 := ((od7_2.le h7_7).ch h7_9 (fun q hq => by cases hq; exact (fun he => by have := (od7_2.row he).2; omega)))
  have zq36n := (show ∀ g, rowOf (some ⟨g1_4, 0, none⟩) 4 = some g → ¬ F2_0 g from zq18g)
  have zq36 := f29.chP h8_2 zq36n
  have zq36g : ∀ g, rowOf (some ⟨g1_4, 0, none⟩) 4 = some g → ¬ F2_0 g := fun g hg hF => (g8_2 _ hF).elim (zq36n g hg) (fun hz => by have := (f29.row hg).2; omega)
  have zq37n := (show ∀ g, rowOf Aw5_2 cw5_2 = some g → ¬ F2_0 g from zq19g)
  have zq37 := f30.chP h8_2 zq37n
  have zq37g : ∀ g, rowOf Aw5_2 cw5_2 = some g → ¬ F2_0 g := fun g hg hF => (g8_2 _ hF).elim (zq37n g hg) (fun hz => by have := (f30.row hg).2; omega)
  have zq38n := (show ∀ g, rowOf An5_2 cn5_2 = some g → ¬ F2_0 g from zq20g)
  have zq38 := f31.chP h8_2 zq38n
  have zq38g : ∀ g, rowOf An5_2 cn5_2 = some g → ¬ F2_0 g := fun g hg hF => (g8_2 _ hF).elim (zq38n g hg) (fun hz => by have := (f31.row hg).2; omega)
  have zq39n := (show ∀ g, rowOf Ad5_2 cd5_2 = some g → ¬ F2_0 g from zq21g)
  have zq39 := f32.chP h8_2 zq39n
  have zq39g : ∀ g, rowOf Ad5_2 cd5_2 = some g → ¬ F2_0 g := fun g hg hF => (g8_2 _ hF).elim (zq39n g hg) (fun hz => by have := (f32.row hg).2; omega)
  have zq40n := (show ¬ F2_0 g5_7 from zq22g)
  have zq40 := f33.chP h8_2 zq40n
  have zq40g : ¬ F2_0 g5_7 := fun hF => (g8_2 _ hF).elim zq40n (fun hz => by have := f33.lt; omega)
  have zq41n := (show ∀ g, rowOf Aw7_2 cw7_2 = some g → ¬ F2_0 g from (fun g hg hF => by have := p6_2.lt hF;  have := (f27.row hg).1; omega))
  have zq41 := f27.chP h8_2 zq41n
  have zq41g : ∀ g, rowOf Aw7_2 cw7_2 = some g → ¬ F2_0 g := fun g hg hF => (g8_2 _ hF).elim (zq41n g hg) (fun hz => by have := (f27.row hg).2; omega)
  have zq42n := (show ∀ g, rowOf An7_2 cn7_2 = some g → ¬ F2_0 g from (fun g hg hF => by have := p6_2.lt hF;  have := (f34.row hg).1; omega))
  have zq42 := f34.chP h8_2 zq42n
  have zq42g : ∀ g, rowOf An7_2 cn7_2 = some g → ¬ F2_0 g := fun g hg hF => (g8_2 _ hF).elim (zq42n g hg) (fun hz => by have := (f34.row hg).2; omega)
  have zq43n := (show ∀ g, rowOf Ad7_2 cd7_2 = some g → ¬ F2_0 g from (fun g hg hF => by have := p6_2.lt hF;  have := (f35.row hg).1; omega))
  have zq43 := f35.chP h8_2 zq43n
  have zq43g : ∀ g, rowOf Ad7_2 cd7_2 = some g → ¬ F2_0 g := fun g hg hF => (g8_2 _ hF).elim (zq43n g hg) (fun hz => by have := (f35.row hg).2; omega)
  have zq44n := (show ¬ F2_0 g7_7 from (fun hF => by have := p6_2.lt hF; have := h7_2.size; have := hg7_7; omega))
  have zq44 := b7_9.chP h8_2 zq44n
  have zq44g : ¬ F2_0 g7_7 := fun hF => (g8_2 _ hF).elim zq44n (fun hz => by have := b7_9.lt; omega)
  refine W.any (.assign rfl) rfl rfl rfl ?_
  refine W.nil ?_
  refine E.thenN ?_
  refine WC.seq ?_
  refine WC.region ?_
  refine W.any (.move rfl) rfl rfl rfl ?_
  refine W.any (.move rfl) rfl rfl rfl ?_
  refine W.ef rfl rfl rfl ?_
  refine Ef.call go11 rfl rfl ((by have k := rbest_ok (c := 4) 0 3 100 50 w8_2 (m := rM2) (g := rG) p8_2 zq36.vec (by decide); rw [sm3] at k; exact k)) ?_
  rintro _ w9_2 ⟨Aw9_2, cw9_2, An9_2, cn9_2, Ad9_2, cd9_2, rfl, ow9_2, on9_2, od9_2, h9_2⟩
  refine ⟨_, rfl, ?_⟩
  have L45 := L28.trans h9_2
  have ow9_2 := ow9_2.cast (m' := 2) rfl rfl
  refine W.any (.move rfl) rfl rfl rfl ?_
  refine W.any (.extract (v := .slice Aw9_2 2 cw9_2) rfl rfl) rfl rfl rfl ?_
  refine W.any (.extract (v := .agg #[.slice An9_2 ((digs 1).length) cn9_2, .slice Ad9_2 ((digs 1).length) cd9_2]) rfl rfl) rfl rfl rfl ?_
  refine W.any (.extract (v := .int .i64 (0)) rfl rfl) rfl rfl rfl ?_
  refine W.ef rfl rfl rfl ?_
  refine Ef.allocA z33 ?_
  intro g9_7 w9_7 hg9_7 b9_7 h9_7
  have L46 := L45.trans h9_7
  have b9_7 : Blk w9_7 g9_7 33 #[.slice none 0 0, .slice none 0 0] := b9_7
  refine W.any (.assign rfl) rfl rfl rfl ?_
  refine W.ef0 rfl rfl ?_
  refine Ef.storeAll sz33 (by rfl) rfl rfl b9_7 (by rfl) (by simp [Value.oneCell']) ?_
  intro w9_9 b9_9 h9_9
  have b9_9 : Blk w9_9 g9_7 33 #[.slice An9_2 ((digs 1).length) cn9_2, .slice Ad9_2 ((digs 1).length) cd9_2] := b9_9
  have L47 : Le w w9_9 := L46.then_ h9_9 (fun q hq => by cases hq; exact Nat.le_trans L45.size hg9_7)
  refine W.any (.assign rfl) rfl rfl rfl ?_
  refine W.nil ?_
  refine E.thenN ?_
  refine WC.seq ?_
  refine WC.region ?_
  refine W.any (.move rfl) rfl rfl rfl ?_
  refine W.any (.move rfl) rfl rfl rfl ?_
  have f48 := ((p8_2.le (h9_2.trans h9_7)).ch h9_9 (fun q hqq hF => by cases hqq; have := p8_2.lt hF; have := h9_2.size; have := hg9_7; omega))
  have f49 := ((ow9_2.le h9_7).ch h9_9 (fun q hq => by cases hq; exact (fun he => by have := (ow9_2.row he).2; omega)))
  have hva10_2 := apart_vec f49 (show ∀ g, rowOf Aw9_2 cw9_2 = some g → ¬ F2_0 g from (fun g hg hF => by have := p8_2.lt hF;  have := (f49.row hg).1; omega))
  refine W.ef rfl rfl rfl ?_
  refine Ef.call go18 rfl rfl ((by have k := rnote_ok (m := rM2) (c := cw9_2) 100 50 0 w9_9 f48 f49.vec (by decide) hva10_2; rw [sn3] at k; exact k)) ?_
  rintro _ w10_2 ⟨rfl, p10_2, g10_2, h10_2⟩
  refine ⟨_, rfl, ?_⟩
  have L50 := L47.chP_then h10_2 (fun i hi => Nat.le_trans L5.size (f48.old hi))
  have f51 := ((zq36.le (h9_2.trans h9_7)).ch h9_9 (fun q hq => by cases hq; exact (fun he => by have := (zq36.row he).2; have := h9_2.size; omega)))
  have f52 := ((zq37.le (h9_2.trans h9_7)).ch h9_9 (fun q hq => by cases hq; exact (fun he => by have := (zq37.row he).2; have := h9_2.size; omega)))
  have f53 := ((zq38.le (h9_2.trans h9_7)).ch h9_9 (fun q hq => by cases hq; exact (fun he => by have := (zq38.row he).2; have := h9_2.size; omega)))
  have f54 := ((zq39.le (h9_2.trans h9_7)).ch h9_9 (fun q hq => by cases hq; exact (fun he => by have := (zq39.row he).2; have := h9_2.size; omega)))
  have f55 := ((zq40.le (h9_2.trans h9_7)).ch h9_9 (fun h => (show g9_7 ≠ g5_7 from by have := zq40.lt; have := h9_2.size; omega) (Option.some.inj h)))
  have f56 := ((zq41.le (h9_2.trans h9_7)).ch h9_9 (fun q hq => by cases hq; exact (fun he => by have := (zq41.row he).2; have := h9_2.size; omega)))
  have f57 := ((zq42.le (h9_2.trans h9_7)).ch h9_9 (fun q hq => by cases hq; exact (fun he => by have := (zq42.row he).2; have := h9_2.size; omega)))
  have f58 := ((zq43.le (h9_2.trans h9_7)).ch h9_9 (fun q hq => by cases hq; exact (fun he => by have := (zq43.row he).2; have := h9_2.size; omega)))
  have f59 := ((zq44.le (h9_2.trans h9_7)).ch h9_9 (fun h => (show g9_7 ≠ g7_7 from by have := zq44.lt; have := h9_2.size; omega) (Option.some.inj h)))
  have f60 := ((on9_2.le h9_7).ch h9_9 (fun q hq => by cases hq; exact (fun he => by have := (on9_2.row he).2; omega)))
  have f61 := ((od9_2.le h9_7).ch h9_9 (fun q hq => by cases hq; exact (fun he => by have := (od9_2.row he).2; omega)))
  have zq62n := (show ∀ g, rowOf (some ⟨g1_4, 0, none⟩) 4 = some g → ¬ F2_0 g from zq36g)
  have zq62 := f51.chP h10_2 zq62n
  have zq62g : ∀ g, rowOf (some ⟨g1_4, 0, none⟩) 4 = some g → ¬ F2_0 g := fun g hg hF => (g10_2 _ hF).elim (zq62n g hg) (fun hz => by have := (f51.row hg).2; omega)
  have zq63n := (show ∀ g, rowOf Aw5_2 cw5_2 = some g → ¬ F2_0 g from zq37g)
  have zq63 := f52.chP h10_2 zq63n
  have zq63g : ∀ g, rowOf Aw5_2 cw5_2 = some g → ¬ F2_0 g := fun g hg hF => (g10_2 _ hF).elim (zq63n g hg) (fun hz => by have := (f52.row hg).2; omega)
  have zq64n := (show ∀ g, rowOf An5_2 cn5_2 = some g → ¬ F2_0 g from zq38g)
  have zq64 := f53.chP h10_2 zq64n
  have zq64g : ∀ g, rowOf An5_2 cn5_2 = some g → ¬ F2_0 g := fun g hg hF => (g10_2 _ hF).elim (zq64n g hg) (fun hz => by have := (f53.row hg).2; omega)
  have zq65n := (show ∀ g, rowOf Ad5_2 cd5_2 = some g → ¬ F2_0 g from zq39g)
  have zq65 := f54.chP h10_2 zq65n
  have zq65g : ∀ g, rowOf Ad5_2 cd5_2 = some g → ¬ F2_0 g := fun g hg hF => (g10_2 _ hF).elim (zq65n g hg) (fun hz => by have := (f54.row hg).2; omega)
  have zq66n := (show ¬ F2_0 g5_7 from zq40g)
  have zq66 := f55.chP h10_2 zq66n
  have zq66g : ¬ F2_0 g5_7 := fun hF => (g10_2 _ hF).elim zq66n (fun hz => by have := f55.lt; omega)
  have zq67n := (show ∀ g, rowOf Aw7_2 cw7_2 = some g → ¬ F2_0 g from zq41g)
  have zq67 := f56.chP h10_2 zq67n
  have zq67g : ∀ g, rowOf Aw7_2 cw7_2 = some g → ¬ F2_0 g := fun g hg hF => (g10_2 _ hF).elim (zq67n g hg) (fun hz => by have := (f56.row hg).2; omega)
  have zq68n := (show ∀ g, rowOf An7_2 cn7_2 = some g → ¬ F2_0 g from zq42g)
  have zq68 := f57.chP h10_2 zq68n
  have zq68g : ∀ g, rowOf An7_2 cn7_2 = some g → ¬ F2_0 g := fun g hg hF => (g10_2 _ hF).elim (zq68n g hg) (fun hz => by have := (f57.row hg).2; omega)
  have zq69n := (show ∀ g, rowOf Ad7_2 cd7_2 = some g → ¬ F2_0 g from zq43g)
  have zq69 := f58.chP h10_2 zq69n
  have zq69g : ∀ g, rowOf Ad7_2 cd7_2 = some g → ¬ F2_0 g := fun g hg hF => (g10_2 _ hF).elim (zq69n g hg) (fun hz => by have := (f58.row hg).2; omega)
  have zq70n := (show ¬ F2_0 g7_7 from zq44g)
  have zq70 := f59.chP h10_2 zq70n
  have zq70g : ¬ F2_0 g7_7 := fun hF => (g10_2 _ hF).elim zq70n (fun hz => by have := f59.lt; omega)
  have zq71n := (show ∀ g, rowOf Aw9_2 cw9_2 = some g → ¬ F2_0 g from (fun g hg hF => by have := p8_2.lt hF;  have := (f49.row hg).1; omega))
  have zq71 := f49.chP h10_2 zq71n
  have zq71g : ∀ g, rowOf Aw9_2 cw9_2 = some g → ¬ F2_0 g := fun g hg hF => (g10_2 _ hF).elim (zq71n g hg) (fun hz => by have := (f49.row hg).2; omega)
  have zq72n := (show ∀ g, rowOf An9_2 cn9_2 = some g → ¬ F2_0 g from (fun g hg hF => by have := p8_2.lt hF;  have := (f60.row hg).1; omega))
  have zq72 := f60.chP h10_2 zq72n
  have zq72g : ∀ g, rowOf An9_2 cn9_2 = some g → ¬ F2_0 g := fun g hg hF => (g10_2 _ hF).elim (zq72n g hg) (fun hz => by have := (f60.row hg).2; omega)
  have zq73n := (show ∀ g, rowOf Ad9_2 cd9_2 = some g → ¬ F2_0 g from (fun g hg hF => by have := p8_2.lt hF;  have := (f61.row hg).1; omega))
  have zq73 := f61.chP h10_2 zq73n
  have zq73g : ∀ g, rowOf Ad9_2 cd9_2 = some g → ¬ F2_0 g := fun g hg hF => (g10_2 _ hF).elim (zq73n g hg) (fun hz => by have := (f61.row hg).2; omega)
  have zq74n := (show ¬ F2_0 g9_7 from (fun hF => by have := p8_2.lt hF; have := h9_2.size; have := hg9_7; omega))
  have zq74 := b9_9.chP h10_2 zq74n
  have zq74g : ¬ F2_0 g9_7 := fun hF => (g10_2 _ hF).elim zq74n (fun hz => by have := b9_9.lt; omega)
  refine W.any (.assign rfl) rfl rfl rfl ?_
  refine W.nil ?_
  refine E.thenN ?_
  refine WC.seq ?_
  refine WC.region ?_
  refine W.any (.move rfl) rfl rfl rfl ?_
  refine W.any (.move rfl) rfl rfl rfl ?_
  refine W.ef rfl rfl rfl ?_
  refine Ef.call go11 rfl rfl ((by have k := rbest_ok (c := 4) 0 3 100 50 w10_2 (m := rM3) (g := rG) p10_2 zq62.vec (by decide); rw [sm4] at k; exact k)) ?_
  rintro _ w11_2 ⟨Aw11_2, cw11_2, An11_2, cn11_2, Ad11_2, cd11_2, rfl, ow11_2, on11_2, od11_2, h11_2⟩
  refine ⟨_, rfl, ?_⟩
  have L75 := L50.trans h11_2
  have ow11_2 := ow11_2.cast (m' := 0) rfl rfl
  refine W.any (.move rfl) rfl rfl rfl ?_
  refine W.any (.extract (v := .slice Aw11_2 0 cw11_2) rfl rfl) rfl rfl rfl ?_
  refine W.any (.extract (v := .agg #[.slice An11_2 ((digs 0).length) cn11_2, .slice Ad11_2 ((digs 0).length) cd11_2]) rfl rfl) rfl rfl rfl ?_
  refine W.any (.extract (v := .int .i64 (19)) rfl rfl) rfl rfl rfl ?_
  refine W.ef rfl rfl rfl ?_
  refine Ef.allocA z33 ?_
  intro g11_7 w11_7 hg11_7 b11_7 h11_7
  have L76 := L75.trans h11_7
  have b11_7 : Blk w11_7 g11_7 33 #[.slice none 0 0, .slice none 0 0] := b11_7
  refine W.any (.assign rfl) rfl rfl rfl ?_
  refine W.ef0 rfl rfl ?_
  refine Ef.storeAll sz33 (by rfl) rfl rfl b11_7 (by rfl) (by simp [Value.oneCell']) ?_
  intro w11_9 b11_9 h11_9
  have b11_9 : Blk w11_9 g11_7 33 #[.slice An11_2 ((digs 0).length) cn11_2, .slice Ad11_2 ((digs 0).length) cd11_2] := b11_9
  have L77 : Le w w11_9 := L76.then_ h11_9 (fun q hq => by cases hq; exact Nat.le_trans L75.size hg11_7)
  refine W.any (.assign rfl) rfl rfl rfl ?_
  refine W.nil ?_
  refine E.thenN ?_
  refine WC.seq ?_
  refine WC.region ?_
  refine W.any (.move rfl) rfl rfl rfl ?_
  refine W.any (.move rfl) rfl rfl rfl ?_
  have f78 := ((p10_2.le (h11_2.trans h11_7)).ch h11_9 (fun q hqq hF => by cases hqq; have := p10_2.lt hF; have := h11_2.size; have := hg11_7; omega))
  have f79 := ((zq62.le (h11_2.trans h11_7)).ch h11_9 (fun q hq => by cases hq; exact (fun he => by have := (zq62.row he).2; have := h11_2.size; omega)))
  refine W.ef rfl rfl rfl ?_
  refine Ef.call go11 rfl rfl ((by have k := rbest_ok (c := 4) 0 0 100 50 w11_9 (m := rM3) (g := rG) f78 f79.vec (by decide); rw [sm5] at k; exact k)) ?_
  rintro _ w12_2 ⟨Aw12_2, cw12_2, An12_2, cn12_2, Ad12_2, cd12_2, rfl, ow12_2, on12_2, od12_2, h12_2⟩
  refine ⟨_, rfl, ?_⟩
  have L80 := L77.trans h12_2
  have ow12_2 := ow12_2.cast (m' := 0) rfl rfl
  refine W.any (.move rfl) rfl rfl rfl ?_
  refine W.any (.extract (v := .slice Aw12_2 0 cw12_2) rfl rfl) rfl rfl rfl ?_
  refine W.any (.extract (v := .agg #[.slice An12_2 ((digs 0).length) cn12_2, .slice Ad12_2 ((digs 0).length) cd12_2]) rfl rfl) rfl rfl rfl ?_
  refine W.any (.extract (v := .int .i64 (1)) rfl rfl) rfl rfl rfl ?_
  refine W.ef rfl rfl rfl ?_
  refine Ef.allocA z33 ?_
  intro g12_7 w12_7 hg12_7 b12_7 h12_7
  have L81 := L80.trans h12_7
  have b12_7 : Blk w12_7 g12_7 33 #[.slice none 0 0, .slice none 0 0] := b12_7
  refine W.any (.assign rfl) rfl rfl rfl ?_
  refine W.ef0 rfl rfl ?_
  refine Ef.storeAll sz33 (by rfl) rfl rfl b12_7 (by rfl) (by simp [Value.oneCell']) ?_
  intro w12_9 b12_9 h12_9
  have b12_9 : Blk w12_9 g12_7 33 #[.slice An12_2 ((digs 0).length) cn12_2, .slice Ad12_2 ((digs 0).length) cd12_2] := b12_9
  have L82 : Le w w12_9 := L81.then_ h12_9 (fun q hq => by cases hq; exact Nat.le_trans L80.size hg12_7)
  refine W.any (.assign rfl) rfl rfl rfl ?_
  refine W.nil ?_
  refine E.thenN ?_
  refine WC.seq ?_
  refine WC.region ?_
  refine W.any (.move rfl) rfl rfl rfl ?_
  refine W.any (.dec (.eql rfl rfl) (show _ = true from by first | decide | rfl)) rfl rfl rfl ?_
  refine W.any (.move rfl) rfl rfl rfl ?_
  refine W.rdg (Any.rd (.move rfl) _) rfl rfl rfl (rfl) rfl rfl ?_
  refine W.rdg (.len Tryz.underlying22 rfl) rfl rfl rfl (rfl) rfl rfl ?_
  refine W.rdg (Any.rd (.dec (.eql rfl rfl) (show _ = true from by first | decide | rfl)) _) rfl rfl rfl (rfl) rfl rfl ?_
  refine W.any (.pickT rfl rfl rfl) rfl rfl rfl ?_
  refine W.any (.move rfl) rfl rfl rfl ?_
  refine W.rdg (Any.rd (.move rfl) _) rfl rfl rfl (rfl) rfl rfl ?_
  refine W.rdg (Any.rd (.idxS (0) Tryz.underlying22 sz51 rfl rfl (ow5_2.vec.isSome edgeV_row (by omega)) (rfl) (by omega)) _) rfl rfl rfl (rfl) rfl rfl ?_
  refine W.rdg (Any.rd (.vfield fa51_2 (ow5_2.vec.isSome edgeV_row (by omega)) rfl) _) rfl rfl rfl (rfl) rfl rfl ?_
  have f83 := ((((zq63.le (h11_2.trans h11_7)).ch h11_9 (fun q hq => by cases hq; exact (fun he => by have := (zq63.row he).2; have := h11_2.size; omega))).le (h12_2.trans h12_7)).ch h12_9 (fun q hq => by cases hq; exact (fun he => by have := (zq63.row he).2; have := h11_2.size; have := h11_7.size; have := h11_9.size; have := h12_2.size; omega)))
  refine W.rdg (.vcell (j := 0) (o := 2) (v := .int .i64 ((([rE 0 0 1, rE 1 1 3]).getD 0 noEdge).c)) na3 rfl f83.vec edgeV_row (getS ([rE 0 0 1, rE 1 1 3]) noEdge (by first | omega | (simp only [List.length_cons, List.length_nil]; omega))) rfl) rfl rfl rfl (rfl) rfl rfl ?_
  refine W.rdg (Any.rd (.dec (.eql rfl rfl) (decide_eq_true rfl)) _) rfl rfl rfl (rfl) rfl rfl ?_
  refine W.any (.pickT rfl rfl rfl) rfl rfl rfl ?_
  refine W.any (.move rfl) rfl rfl rfl ?_
  have f84 := ((((zq66.le (h11_2.trans h11_7)).ch h11_9 (fun h => (show g11_7 ≠ g5_7 from by have := zq66.lt; have := h11_2.size; omega) (Option.some.inj h))).le (h12_2.trans h12_7)).ch h12_9 (fun h => (show g12_7 ≠ g5_7 from by have := zq66.lt; have := h11_2.size; have := h11_7.size; have := h11_9.size; have := h12_2.size; omega) (Option.some.inj h)))
  refine W.rdg (.loadAll ag33 (by rfl) rfl f84) rfl rfl rfl (rfl) rfl rfl ?_
  have f85 := ((((zq64.le (h11_2.trans h11_7)).ch h11_9 (fun q hq => by cases hq; exact (fun he => by have := (zq64.row he).2; have := h11_2.size; omega))).le (h12_2.trans h12_7)).ch h12_9 (fun q hq => by cases hq; exact (fun he => by have := (zq64.row he).2; have := h11_2.size; have := h11_7.size; have := h11_9.size; have := h12_2.size; omega)))
  have f86 := ((((zq65.le (h11_2.trans h11_7)).ch h11_9 (fun q hq => by cases hq; exact (fun he => by have := (zq65.row he).2; have := h11_2.size; omega))).le (h12_2.trans h12_7)).ch h12_9 (fun q hq => by cases hq; exact (fun he => by have := (zq65.row he).2; have := h11_2.size; have := h11_7.size; have := h11_9.size; have := h12_2.size; omega)))
  refine W.efg rfl rfl rfl (rfl) rfl rfl ?_
  refine Ef.call go30 rfl rfl (ftext_ok w12_9 (hT.le L82) f85.vec f86.vec (by omega) (by omega) (by decide +kernel) (by decide) (by decide)) ?_
  rintro _ w13_16 ⟨rfl, h13_16⟩
  refine ⟨_, rfl, ?_⟩
  have L87 := L82.trans h13_16
  refine W.rdg (Any.rd (.eqlYes (a := textF 810900 1002001) (b := ([56, 49, 48, 57, 48, 48, 47, 49, 48, 48, 50, 48, 48, 49] : List UInt8)) rfl rfl (stx1)) _) rfl rfl rfl (rfl) rfl rfl ?_
  refine W.any (.pickT rfl rfl rfl) rfl rfl rfl ?_
  refine W.any (.move rfl) rfl rfl rfl ?_
  refine W.rdg (Any.rd (.move rfl) _) rfl rfl rfl (rfl) rfl rfl ?_
  refine W.rdg (Any.rd (.dec (.eql rfl rfl) (show _ = true from by first | decide | rfl)) _) rfl rfl rfl (rfl) rfl rfl ?_
  refine W.any (.pickT rfl rfl rfl) rfl rfl rfl ?_
  refine W.any (.move rfl) rfl rfl rfl ?_
  refine W.rdg (Any.rd (.move rfl) _) rfl rfl rfl (rfl) rfl rfl ?_
  refine W.rdg (Any.rd (.dec (.eql rfl rfl) (show _ = true from by first | decide | rfl)) _) rfl rfl rfl (rfl) rfl rfl ?_
  refine W.any (.pickT rfl rfl rfl) rfl rfl rfl ?_
  refine W.any (.move rfl) rfl rfl rfl ?_
  refine W.rdg (Any.rd (.move rfl) _) rfl rfl rfl (rfl) rfl rfl ?_
  refine W.rdg (.len Tryz.underlying22 rfl) rfl rfl rfl (rfl) rfl rfl ?_
  refine W.rdg (Any.rd (.dec (.eql rfl rfl) (show _ = true from by first | decide | rfl)) _) rfl rfl rfl (rfl) rfl rfl ?_
  refine W.any (.pickT rfl rfl rfl) rfl rfl rfl ?_
  refine W.any (.move rfl) rfl rfl rfl ?_
  refine W.rdg (Any.rd (.move rfl) _) rfl rfl rfl (rfl) rfl rfl ?_
  refine W.rdg (Any.rd (.idxS (0) Tryz.underlying22 sz51 rfl rfl (ow7_2.vec.isSome edgeV_row (by omega)) (rfl) (by omega)) _) rfl rfl rfl (rfl) rfl rfl ?_
  refine W.rdg (Any.rd (.vfield fa51_2 (ow7_2.vec.isSome edgeV_row (by omega)) rfl) _) rfl rfl rfl (rfl) rfl rfl ?_
  have f88 := (((((zq67.le (h11_2.trans h11_7)).ch h11_9 (fun q hq => by cases hq; exact (fun he => by have := (zq67.row he).2; have := h11_2.size; omega))).le (h12_2.trans h12_7)).ch h12_9 (fun q hq => by cases hq; exact (fun he => by have := (zq67.row he).2; have := h11_2.size; have := h11_7.size; have := h11_9.size; have := h12_2.size; omega))).le h13_16)
  refine W.rdg (.vcell (j := 0) (o := 2) (v := .int .i64 ((([rE 2 0 2, rE 3 2 3]).getD 0 noEdge).c)) na3 rfl f88.vec edgeV_row (getS ([rE 2 0 2, rE 3 2 3]) noEdge (by first | omega | (simp only [List.length_cons, List.length_nil]; omega))) rfl) rfl rfl rfl (rfl) rfl rfl ?_
  refine W.rdg (Any.rd (.dec (.eql rfl rfl) (decide_eq_true rfl)) _) rfl rfl rfl (rfl) rfl rfl ?_
  refine W.any (.pickT rfl rfl rfl) rfl rfl rfl ?_
  refine W.any (.move rfl) rfl rfl rfl ?_
  refine W.rdg (Any.rd (.move rfl) _) rfl rfl rfl (rfl) rfl rfl ?_
  refine W.rdg (Any.rd (.dec (.eql rfl rfl) (show _ = true from by first | decide | rfl)) _) rfl rfl rfl (rfl) rfl rfl ?_
  refine W.any (.pickT rfl rfl rfl) rfl rfl rfl ?_
  refine W.any (.move rfl) rfl rfl rfl ?_
  refine W.rdg (Any.rd (.move rfl) _) rfl rfl rfl (rfl) rfl rfl ?_
  refine W.rdg (Any.rd (.dec (.eql rfl rfl) (show _ = true from by first | decide | rfl)) _) rfl rfl rfl (rfl) rfl rfl ?_
  refine W.any (.pickT rfl rfl rfl) rfl rfl rfl ?_
  refine W.any (.move rfl) rfl rfl rfl ?_
  refine W.rdg (Any.rd (.move rfl) _) rfl rfl rfl (rfl) rfl rfl ?_
  refine W.rdg (.len Tryz.underlying22 rfl) rfl rfl rfl (rfl) rfl rfl ?_
  refine W.rdg (Any.rd (.dec (.eql rfl rfl) (show _ = true from by first | decide | rfl)) _) rfl rfl rfl (rfl) rfl rfl ?_
  refine W.any (.pickT rfl rfl rfl) rfl rfl rfl ?_
  refine W.any (.move rfl) rfl rfl rfl ?_
  refine W.rdg (Any.rd (.move rfl) _) rfl rfl rfl (rfl) rfl rfl ?_
  refine W.rdg (Any.rd (.idxS (0) Tryz.underlying22 sz51 rfl rfl (ow9_2.vec.isSome edgeV_row (by omega)) (rfl) (by omega)) _) rfl rfl rfl (rfl) rfl rfl ?_
  refine W.rdg (Any.rd (.vfield fa51_2 (ow9_2.vec.isSome edgeV_row (by omega)) rfl) _) rfl rfl rfl (rfl) rfl rfl ?_
  have f89 := (((((zq71.le (h11_2.trans h11_7)).ch h11_9 (fun q hq => by cases hq; exact (fun he => by have := (zq71.row he).2; have := h11_2.size; omega))).le (h12_2.trans h12_7)).ch h12_9 (fun q hq => by cases hq; exact (fun he => by have := (zq71.row he).2; have := h11_2.size; have := h11_7.size; have := h11_9.size; have := h12_2.size; omega))).le h13_16)
  refine W.rdg (.vcell (j := 0) (o := 2) (v := .int .i64 ((([rE 2 0 2, rE 3 2 3]).getD 0 noEdge).c)) na3 rfl f89.vec edgeV_row (getS ([rE 2 0 2, rE 3 2 3]) noEdge (by first | omega | (simp only [List.length_cons, List.length_nil]; omega))) rfl) rfl rfl rfl (rfl) rfl rfl ?_
  refine W.rdg (Any.rd (.dec (.eql rfl rfl) (decide_eq_true rfl)) _) rfl rfl rfl (rfl) rfl rfl ?_
  refine W.any (.pickT rfl rfl rfl) rfl rfl rfl ?_
  refine W.any (.move rfl) rfl rfl rfl ?_
  have f90 := (((((zq74.le (h11_2.trans h11_7)).ch h11_9 (fun h => (show g11_7 ≠ g9_7 from by have := zq74.lt; have := h11_2.size; omega) (Option.some.inj h))).le (h12_2.trans h12_7)).ch h12_9 (fun h => (show g12_7 ≠ g9_7 from by have := zq74.lt; have := h11_2.size; have := h11_7.size; have := h11_9.size; have := h12_2.size; omega) (Option.some.inj h))).le h13_16)
  refine W.rdg (.loadAll ag33 (by rfl) rfl f90) rfl rfl rfl (rfl) rfl rfl ?_
  have f91 := (((((zq72.le (h11_2.trans h11_7)).ch h11_9 (fun q hq => by cases hq; exact (fun he => by have := (zq72.row he).2; have := h11_2.size; omega))).le (h12_2.trans h12_7)).ch h12_9 (fun q hq => by cases hq; exact (fun he => by have := (zq72.row he).2; have := h11_2.size; have := h11_7.size; have := h11_9.size; have := h12_2.size; omega))).le h13_16)
  have f92 := (((((zq73.le (h11_2.trans h11_7)).ch h11_9 (fun q hq => by cases hq; exact (fun he => by have := (zq73.row he).2; have := h11_2.size; omega))).le (h12_2.trans h12_7)).ch h12_9 (fun q hq => by cases hq; exact (fun he => by have := (zq73.row he).2; have := h11_2.size; have := h11_7.size; have := h11_9.size; have := h12_2.size; omega))).le h13_16)
  refine W.efg rfl rfl rfl (rfl) rfl rfl ?_
  refine Ef.call go30 rfl rfl (ftext_ok w13_16 (hT.le L87) f91.vec f92.vec (by omega) (by omega) (by decide +kernel) (by decide) (by decide)) ?_
  rintro _ w13_61 ⟨rfl, h13_61⟩
  refine ⟨_, rfl, ?_⟩
  have L93 := L87.trans h13_61
  refine W.rdg (Any.rd (.eqlYes (a := textF 1 1) (b := ([49] : List UInt8)) rfl rfl (stx2)) _) rfl rfl rfl (rfl) rfl rfl ?_
  refine W.any (.pickT rfl rfl rfl) rfl rfl rfl ?_
  refine W.any (.move rfl) rfl rfl rfl ?_
  refine W.rdg (Any.rd (.move rfl) _) rfl rfl rfl (rfl) rfl rfl ?_
  refine W.rdg (Any.rd (.dec (.eql rfl rfl) (show _ = true from by first | decide | rfl)) _) rfl rfl rfl (rfl) rfl rfl ?_
  refine W.any (.pickT rfl rfl rfl) rfl rfl rfl ?_
  refine W.any (.move rfl) rfl rfl rfl ?_
  refine W.rdg (Any.rd (.move rfl) _) rfl rfl rfl (rfl) rfl rfl ?_
  refine W.rdg (Any.rd (.dec (.eql rfl rfl) (show _ = true from by first | decide | rfl)) _) rfl rfl rfl (rfl) rfl rfl ?_
  refine W.any (.pickT rfl rfl rfl) rfl rfl rfl ?_
  refine W.any (.move rfl) rfl rfl rfl ?_
  refine W.rdg (Any.rd (.move rfl) _) rfl rfl rfl (rfl) rfl rfl ?_
  refine W.rdg (Any.rd (.dec (.eql rfl rfl) (show _ = true from by first | decide | rfl)) _) rfl rfl rfl (rfl) rfl rfl ?_
  refine W.any (.pickT rfl rfl rfl) rfl rfl rfl ?_
  refine W.any (.assign rfl) rfl rfl rfl ?_
  refine W.nil ?_
  refine E.thenN ?_
  refine WC.ret ?_
  refine E.retG1 rfl rfl ?_
  exact ⟨rfl, L93⟩
end Go.Proofs.YtmkdeemjkcigkaaGreatDoor

namespace Go.Proofs.YtmkdeemjkcigkaaGreatDoor
open Go Go.Sx Go.Num Go.Gsp Go.Nsp Go.Msp Go.Rtp
set_option maxRecDepth 20000
set_option linter.unusedSimpArgs false
set_option linter.unusedVariables false
theorem few_T {n n2 : Nat} (h : (decide (n ≤ 12) && decide (n2 ≤ 20)) = true) : n ≤ 12 ∧ n2 ≤ 20 := by simpa using h
theorem bestR_len {g : List Gsp.Edge} {m : MF} {fr to a x : Int} (hm : GoodM m) : (bestR g m fr to a x).1.length ≤ 8 ∧ (digs (bestR g m fr to a x).2.1.n).length ≤ 100 ∧ (digs (bestR g m fr to a x).2.1.d).length ≤ 100 := by
  rcases bestR_errs (g := g) (fr := fr) (to := to) (a := a) (x := x) hm with h | h | h
  · obtain ⟨_, h2, h3, _⟩ := bestR_ok hm h
    have h1 := oddsR_len hm (bestR g m fr to a x).1 a x
    rw [← h3] at h1
    exact ⟨(wayG_len h2.way).2, h1⟩
  · rw [h]; simp only [digs_zero]; decide
  · rw [h]; simp only [digs_zero]; decide
end Go.Proofs.YtmkdeemjkcigkaaGreatDoor

namespace Go.Proofs.YtmkdeemjkcigkaaGreatDoor
open Go Go.Sx Go.Num Go.Gsp Go.Nsp Go.Msp Go.Rtp
set_option maxRecDepth 20000
set_option linter.unusedSimpArgs false
set_option linter.unusedVariables false
theorem len_of_zero {d : Nat} : (digs (lowF 0 1).n).length ≤ 1 ∧ (digs (lowF 0 1).d).length ≤ 1 := by
  rw [lowF_zero (by decide)]
  exact ⟨digs_len_one (by decide), digs_len_one (by decide)⟩
theorem best_all {g : List Gsp.Edge} {m : MF} {fr to a x : Int} (hm : GoodM m) (h : (bestR g m fr to a x).2.2 = 0) : rightG g = true ∧ Cand g m fr to a x (bestR g m fr to a x).1 ∧ (bestR g m fr to a x).2.1 = (oddsR m (bestR g m fr to a x).1 a x).1 ∧ ∀ w, Cand g m fr to a x w → ordB (fo m a x (bestR g m fr to a x).1) (fo m a x w) ≤ 0 := by
  obtain ⟨h1, h2⟩ := bestR_ok hm h
  exact ⟨(bad_T h1).1, h2⟩
end Go.Proofs.YtmkdeemjkcigkaaGreatDoor

namespace Go.Proofs.YtmkdeemjkcigkaaGreatDoor
open Go Go.Sx Go.Num Go.Gsp Go.Nsp Go.Msp Go.Rtp
set_option maxRecDepth 20000
set_option linter.unusedSimpArgs false
set_option linter.unusedVariables false
theorem cmp_one {p q : Nat} (h : (⟨p, q⟩ : Fr) = ⟨1, 1⟩) : cmpF (takF (⟨p, q⟩ : Fr)) (takF (⟨(lowF 1 1).n, (lowF 1 1).d⟩ : Fr)) = 0 := by rw [h]; decide
theorem cmp_nil {p q : Nat} (h : (⟨p, q⟩ : Fr) = ⟨0, 1⟩) : cmpF (takF (⟨p, q⟩ : Fr)) (takF (⟨(lowF 0 1).n, (lowF 0 1).d⟩ : Fr)) = 0 := by rw [h]; decide
theorem len_of_one : (digs (lowF 1 1).n).length ≤ 1 ∧ (digs (lowF 1 1).d).length ≤ 1 := ⟨digs_len_one (by decide), digs_len_one (by decide)⟩
set_option maxHeartbeats 4000000 in
theorem RouteLearns_ok (fr to a x : Int) {A3 : Option Addr} {n3 c3 : Nat} {ps : List Int} {A A2 : Option Addr} {n c n2 c2 : Nat} {g : List Gsp.Edge} {l : List Kn} (w : World) (hT : Tab w) (hV : Vec w edgeV 9 A n g) (hL : Vec w knV 3 A2 n2 l) (hgl : ∀ q ∈ l, I64n q.d) (hnc : n ≤ c) (hn : n ≤ 9223372036854775807) (hn2 : n2 ≤ 9223372036854775807) (hps : Vec w iv 1 A3 n3 ps) (hn3 : n3 ≤ 9223372036854775807) : Calls Tryz.prog 6 #[.slice A n c, .slice A2 n2 c2, .int .i64 (fr), .int .i64 (to), .int .i64 (a), .int .i64 (x), .slice A3 n3 c3] w fun r w' => r = .returned (.bool true) ∧ Le w w' := by
  have hl := hV.1; have hl2 := hL.1
  have hgm : GoodM (mindG g l) := mindG_good g l _ none_good
  have hl3 := hps.1
  have hz01 := len_of_zero (d := 0)
  have hz11 := len_of_one
  refine enter Tryz.func6 rfl rfl ?_
  have L0 := Le.refl w
  refine WC.seq ?_
  refine WC.region ?_
  refine W.any (.assign rfl) rfl rfl rfl ?_
  refine W.nil ?_
  refine E.thenN ?_
  refine WC.seq ?_
  refine WC.region ?_
  refine W.ef rfl rfl rfl ?_
  refine Ef.call go7 rfl rfl (small38_ok w (hT.le L0)) ?_
  rintro _ w1_0 ⟨rfl, h1_0⟩
  refine ⟨_, rfl, ?_⟩
  have L1 := L0.trans h1_0
  refine W.any (.assign rfl) rfl rfl rfl ?_
  refine W.nil ?_
  refine E.thenN ?_
  refine WC.seq ?_
  refine WC.region ?_
  refine W.any (.move rfl) rfl rfl rfl ?_
  refine W.any (.move rfl) rfl rfl rfl ?_
  refine W.ef rfl rfl rfl ?_
  refine Ef.call go8 rfl rfl (few_ok w1_0) ?_
  rintro _ w2_2 ⟨rfl, h2_2⟩
  refine ⟨_, rfl, ?_⟩
  have L2 := L1.trans h2_2
  refine W.any (.assign rfl) rfl rfl rfl ?_
  refine W.nil ?_
  refine E.thenN ?_
  refine WC.seq ?_
  refine WC.region ?_
  refine W.any (.move rfl) rfl rfl rfl ?_
  refine W.any (.move rfl) rfl rfl rfl ?_
  refine W.ef rfl rfl rfl ?_
  refine Ef.call go9 rfl rfl (mind_ok w2_2 (hV.le L2) (hL.le L2) hgl (by omega) (by omega)) ?_
  rintro _ w3_2 ⟨gp3_2, F3_2, rfl, p3_2, h3_2⟩
  refine ⟨_, rfl, ?_⟩
  have L3 := L2.trans h3_2
  refine W.any (.assign rfl) rfl rfl rfl ?_
  refine W.nil ?_
  refine E.thenN ?_
  refine WC.seq ?_
  refine WC.seq ?_
  refine WC.region ?_
  refine W.any (.move rfl) rfl rfl rfl ?_
  refine W.any (.not rfl) rfl rfl rfl ?_
  by_cases q4_2 : (decide (n ≤ 12) && decide (n2 ≤ 20)) = true
  · refine W.any (.dec (.move rfl) (congrArg not (q4_2))) rfl rfl rfl ?_
    refine W.rdg (Any.rd (.move rfl) _) rfl rfl rfl (rfl) rfl rfl ?_
    refine W.rdg (Any.rd (.dec (.isNilP (by kernel_rfl) rfl) rfl) _) rfl rfl rfl (rfl) rfl rfl ?_
    refine W.any (.pickF rfl rfl rfl) rfl rfl rfl ?_
    refine W.nil ?_
    refine E.thenN ?_
    refine WC.condF rfl ?_
    obtain ⟨hf1, hf2⟩ := few_T (n := n) (n2 := n2) (by assumption)
    refine WC.skip ?_
    refine E.thenN ?_
    refine WC.seq ?_
    refine WC.seq ?_
    refine WC.region ?_
    refine W.any (.assign rfl) rfl rfl rfl ?_
    refine W.nil ?_
    refine E.thenN ?_
    refine WC.block ?_
    refine WC.loop (ι := Nat × MF) (fun ⟨t, m⟩ => [(0, .slice A n c), (2, .int .i64 (fr)), (3, .int .i64 (to)), (4, .int .i64 (a)), (5, .int .i64 (x)), (6, .slice A3 n3 c3), (15, .bool true), (17, .pointer (some ⟨gp3_2, 0, none⟩)), (18, .int .i64 (((t : Nat) : Int)))]) (fun ⟨t, m⟩ wl0 => (t ≤ n + 1) ∧ Le w wl0 ∧ w3_2.heap.size ≤ wl0.heap.size ∧ MPool wl0 w2_2.heap.size gp3_2 F3_2 m) (fun ⟨t, m⟩ => n + 1 - t) (0, (mindG g l)) ?_ ?_ ?_
    · exact .cons rfl (.cons rfl (.cons rfl (.cons rfl (.cons rfl (.cons rfl (.cons rfl (.cons rfl (.cons rfl (.nil _)))))))))
    · exact ⟨Nat.zero_le _, L3, Nat.le_refl _, p3_2⟩
    · rintro ⟨t, m⟩ wl0 ⟨ht, Ll0, zl0, f0_0⟩
      refine WC.seq ?_
      refine WC.seq ?_
      refine WC.region ?_
      refine W.any (.move rfl) rfl rfl rfl ?_
      refine W.any (.move rfl) rfl rfl rfl ?_
      refine W.rd (.len Tryz.underlying22 rfl) rfl rfl rfl ?_
      refine W.any (.leq rfl rfl) rfl rfl rfl ?_
      refine W.nil ?_
      refine E.thenN ?_
      by_cases c1 : ((t : Nat) : Int) ≤ ((n : Nat) : Int)
      · refine WC.condY rfl (decide_eq_true c1) ?_
        refine WC.skip ?_
        refine E.thenN ?_
        refine WC.seq ?_
        refine WC.block ?_
        refine WC.seq ?_
        refine WC.region ?_
        have hgm : GoodM m := f0_0.good
        refine W.any (.move rfl) rfl rfl rfl ?_
        refine W.any (.move rfl) rfl rfl rfl ?_
        refine W.any (.move rfl) rfl rfl rfl ?_
        refine W.any (.move rfl) rfl rfl rfl ?_
        refine W.any (.move rfl) rfl rfl rfl ?_
        refine W.any (.move rfl) rfl rfl rfl ?_
        obtain ⟨b1, heb1⟩ : ∃ z, z = bestR g m fr to a x := ⟨_, rfl⟩
        have hlb1 := bestR_len (g := g) (fr := fr) (to := to) (a := a) (x := x) hgm
        rw [← heb1] at hlb1
        refine W.ef rfl rfl rfl ?_
        refine Ef.call go11 rfl rfl ((by have k := rbest_ok (c := c) fr to a x wl0 f0_0 (hV.le Ll0) (by omega); rw [← heb1] at k; exact k)) ?_
        rintro _ w9_6 ⟨Aw9_6, cw9_6, An9_6, cn9_6, Ad9_6, cd9_6, rfl, ow9_6, on9_6, od9_6, h9_6⟩
        refine ⟨_, rfl, ?_⟩
        have L4 := Ll0.trans h9_6
        refine W.any (.move rfl) rfl rfl rfl ?_
        refine W.any (.extract (v := .slice Aw9_6 b1.1.length cw9_6) rfl rfl) rfl rfl rfl ?_
        refine W.any (.extract (v := .agg #[.slice An9_6 ((digs b1.2.1.n).length) cn9_6, .slice Ad9_6 ((digs b1.2.1.d).length) cd9_6]) rfl rfl) rfl rfl rfl ?_
        refine W.any (.extract (v := .int .i64 (b1.2.2)) rfl rfl) rfl rfl rfl ?_
        refine W.ef rfl rfl rfl ?_
        refine Ef.allocA z33 ?_
        intro g9_11 w9_11 hg9_11 b9_11 h9_11
        have L5 := L4.trans h9_11
        have b9_11 : Blk w9_11 g9_11 33 #[.slice none 0 0, .slice none 0 0] := b9_11
        refine W.any (.assign rfl) rfl rfl rfl ?_
        refine W.ef0 rfl rfl ?_
        refine Ef.storeAll sz33 (by rfl) rfl rfl b9_11 (by rfl) (by simp [Value.oneCell']) ?_
        intro w9_13 b9_13 h9_13
        have b9_13 : Blk w9_13 g9_11 33 #[.slice An9_6 ((digs b1.2.1.n).length) cn9_6, .slice Ad9_6 ((digs b1.2.1.d).length) cd9_6] := b9_13
        have L6 : Le w w9_13 := L5.then_ h9_13 (fun q hq => by cases hq; exact Nat.le_trans L4.size hg9_11)
        refine W.any (.assign rfl) rfl rfl rfl ?_
        refine W.nil ?_
        refine E.thenN ?_
        refine WC.seq ?_
        refine WC.seq ?_
        refine WC.region ?_
        refine W.any (.move rfl) rfl rfl rfl ?_
        refine W.any (.neq rfl rfl) rfl rfl rfl ?_
        refine W.nil ?_
        refine E.thenN ?_
        by_cases c2 : b1.2.2 ≠ 0
        · refine WC.condY rfl (decide_eq_true c2) ?_
          refine WC.seq ?_
          refine WC.region ?_
          refine W.any (.move rfl) rfl rfl rfl ?_
          refine W.any (.assign rfl) rfl rfl rfl ?_
          refine W.nil ?_
          refine E.thenN ?_
          refine WC.ret ?_
          refine E.thenR ?_
          refine E.blkR ?_
          refine E.thenR ?_
          refine E.thenR ?_
          refine E.blkR ?_
          refine E.thenR ?_
          refine E.retG1 rfl rfl ?_
          exact ⟨rfl, L6⟩
        · refine WC.condN rfl (decide_eq_false c2) ?_
          have hb10 : b1.2.2 = 0 := by omega
          have hbo := best_all (g := g) (fr := fr) (to := to) (a := a) (x := x) hgm (by rw [← heb1]; exact hb10)
          rw [← heb1] at hbo
          obtain ⟨hrg, hbc, hod, hbb⟩ := hbo
          have hwl := wayG_len hbc.way
          have hnp := note_passed hgm hbc.cost
          refine WC.skip ?_
          refine E.thenN ?_
          refine WC.seq ?_
          refine WC.region ?_
          refine W.any (.move rfl) rfl rfl rfl ?_
          have f7 := ((f0_0.le (h9_6.trans h9_11)).ch h9_13 (fun q hqq hF => by cases hqq; have := f0_0.lt hF; have := h9_6.size; have := hg9_11; omega))
          refine W.ef rfl rfl rfl ?_
          refine Ef.call go27 rfl rfl (copy_mind f7) ?_
          rintro _ w12_1 ⟨gp12_1, F12_1, rfl, p12_1, h12_1⟩
          refine ⟨_, rfl, ?_⟩
          have L8 := L6.trans h12_1
          refine W.any (.assign rfl) rfl rfl rfl ?_
          refine W.nil ?_
          refine E.thenN ?_
          refine WC.seq ?_
          refine WC.seq ?_
          refine WC.region ?_
          refine W.any (.move rfl) rfl rfl rfl ?_
          refine W.rd (.len Tryz.underlying22 rfl) rfl rfl rfl ?_
          refine W.any (.dec (.eql rfl rfl) (decide_eq_false (by omega))) rfl rfl rfl ?_
          refine W.nil ?_
          refine E.thenN ?_
          refine WC.condF rfl ?_
          refine WC.skip ?_
          refine E.thenN ?_
          refine WC.seq ?_
          refine WC.seq ?_
          refine WC.region ?_
          refine W.any (.move rfl) rfl rfl rfl ?_
          refine W.any (.dec (.isNilP (by kernel_rfl) rfl) rfl) rfl rfl rfl ?_
          refine W.any (.move rfl) rfl rfl rfl ?_
          refine W.rdg (Any.rd (.move rfl) _) rfl rfl rfl (rfl) rfl rfl ?_
          refine W.rdg (Any.rd (.move rfl) _) rfl rfl rfl (rfl) rfl rfl ?_
          refine W.rdg (Any.rd (.move rfl) _) rfl rfl rfl (rfl) rfl rfl ?_
          refine W.rdg (Any.rd (.move rfl) _) rfl rfl rfl (rfl) rfl rfl ?_
          have f9 := (((ow9_6.le h9_11).ch h9_13 (fun q hq => by cases hq; exact (fun he => by have := (ow9_6.row he).2; omega))).le h12_1)
          have hva15_7 := apart_vec f9 (show ∀ g, rowOf Aw9_6 cw9_6 = some g → ¬ F12_1 g from (fun g hg hF => by have := p12_1.old hF; have := h9_11.size; have := h9_13.size; have := (ow9_6.row hg).2; omega))
          refine W.efg rfl rfl rfl (rfl) rfl rfl ?_
          refine Ef.call go18 rfl rfl (rnote_ok (c := cw9_6) a x (-1) w12_1 p12_1 f9.vec (by omega) hva15_7) ?_
          rintro _ w15_7 ⟨rfl, p15_7, g15_7, h15_7⟩
          refine ⟨_, rfl, ?_⟩
          have L10 := L8.chP_then h15_7 (fun i hi => Nat.le_trans L6.size (p12_1.old hi))
          have f11 := (f7.le h12_1)
          have f12 := (((on9_6.le h9_11).ch h9_13 (fun q hq => by cases hq; exact (fun he => by have := (on9_6.row he).2; omega))).le h12_1)
          have f13 := (((od9_6.le h9_11).ch h9_13 (fun q hq => by cases hq; exact (fun he => by have := (od9_6.row he).2; omega))).le h12_1)
          have f14 := (b9_13.le h12_1)
          have zq15n := (show ∀ k, F3_2 k → ¬ F12_1 k from (fun k h1 h2 => by have := p12_1.old h2;  have := f7.lt h1; omega))
          have zq15 := f11.chP h15_7 zq15n
          have zq15g : ∀ k, F3_2 k → ¬ F12_1 k := fun k hk hF => (g15_7 _ hF).elim (zq15n k hk) (fun hz => by have := f11.lt hk; omega)
          have zq16n := (show ∀ g, rowOf Aw9_6 cw9_6 = some g → ¬ F12_1 g from (fun g hg hF => by have := p12_1.old hF; have := h9_11.size; have := h9_13.size; have := (ow9_6.row hg).2; omega))
          have zq16 := f9.chP h15_7 zq16n
          have zq16g : ∀ g, rowOf Aw9_6 cw9_6 = some g → ¬ F12_1 g := fun g hg hF => (g15_7 _ hF).elim (zq16n g hg) (fun hz => by have := (f9.row hg).2; omega)
          have zq17n := (show ∀ g, rowOf An9_6 cn9_6 = some g → ¬ F12_1 g from (fun g hg hF => by have := p12_1.old hF; have := h9_11.size; have := h9_13.size; have := (on9_6.row hg).2; omega))
          have zq17 := f12.chP h15_7 zq17n
          have zq17g : ∀ g, rowOf An9_6 cn9_6 = some g → ¬ F12_1 g := fun g hg hF => (g15_7 _ hF).elim (zq17n g hg) (fun hz => by have := (f12.row hg).2; omega)
          have zq18n := (show ∀ g, rowOf Ad9_6 cd9_6 = some g → ¬ F12_1 g from (fun g hg hF => by have := p12_1.old hF; have := h9_11.size; have := h9_13.size; have := (od9_6.row hg).2; omega))
          have zq18 := f13.chP h15_7 zq18n
          have zq18g : ∀ g, rowOf Ad9_6 cd9_6 = some g → ¬ F12_1 g := fun g hg hF => (g15_7 _ hF).elim (zq18n g hg) (fun hz => by have := (f13.row hg).2; omega)
          have zq19n := (show ¬ F12_1 g9_11 from (fun hF => by have := p12_1.old hF; have := b9_13.lt; omega))
          have zq19 := f14.chP h15_7 zq19n
          have zq19g : ¬ F12_1 g9_11 := fun hF => (g15_7 _ hF).elim zq19n (fun hz => by have := f14.lt; omega)
          refine W.rdg (Any.rd (.dec (.neq rfl rfl) (decide_eq_false (fun h => h hnp.1))) _) rfl rfl rfl (rfl) rfl rfl ?_
          refine W.any (.pickF rfl rfl rfl) rfl rfl rfl ?_
          refine W.nil ?_
          refine E.thenN ?_
          refine WC.condF rfl ?_
          refine WC.skip ?_
          refine E.thenN ?_
          refine WC.seq ?_
          refine WC.region ?_
          refine W.any (.move rfl) rfl rfl rfl ?_
          refine W.any (.move rfl) rfl rfl rfl ?_
          refine W.any (.move rfl) rfl rfl rfl ?_
          refine W.any (.move rfl) rfl rfl rfl ?_
          obtain ⟨o1, heo1⟩ : ∃ z, z = oddsR ((noteR m b1.1 a x (-1)).1) b1.1 a x := ⟨_, rfl⟩
          have hlo1 := oddsR_len (m := ((noteR m b1.1 a x (-1)).1)) (noteR_good hgm _ _) b1.1 a x
          rw [← heo1] at hlo1
          refine W.ef rfl rfl rfl ?_
          refine Ef.call go14 rfl rfl ((by have k := rodds_ok (c := cw9_6) a x w15_7 p15_7 zq16.vec (by omega); rw [← heo1] at k; exact k)) ?_
          rintro _ w17_4 ⟨An17_4, cn17_4, Ad17_4, cd17_4, rfl, on17_4, od17_4, h17_4⟩
          refine ⟨_, rfl, ?_⟩
          have L20 := L10.trans h17_4
          have hoo1 : o1.2.2 = 0 ∧ o1.1 = ⟨1, 1⟩ := by rw [heo1]; exact hnp.2
          have hoo1 : o1.2.2 = 0 ∧ o1.1 = ⟨1, 1⟩ := by rw [heo1]; exact hnp.2
          refine W.any (.move rfl) rfl rfl rfl ?_
          refine W.any (.extract (v := .agg #[.slice An17_4 ((digs o1.1.n).length) cn17_4, .slice Ad17_4 ((digs o1.1.d).length) cd17_4]) rfl rfl) rfl rfl rfl ?_
          refine W.any (.extract (v := .int .i64 (o1.2.1)) rfl rfl) rfl rfl rfl ?_
          refine W.any (.extract (v := .int .i64 (o1.2.2)) rfl rfl) rfl rfl rfl ?_
          refine W.ef rfl rfl rfl ?_
          refine Ef.allocA z33 ?_
          intro g17_9 w17_9 hg17_9 b17_9 h17_9
          have L21 := L20.trans h17_9
          have b17_9 : Blk w17_9 g17_9 33 #[.slice none 0 0, .slice none 0 0] := b17_9
          refine W.ef0 rfl rfl ?_
          refine Ef.storeAll sz33 (by rfl) rfl rfl b17_9 (by rfl) (by simp [Value.oneCell']) ?_
          intro w17_10 b17_10 h17_10
          have b17_10 : Blk w17_10 g17_9 33 #[.slice An17_4 ((digs o1.1.n).length) cn17_4, .slice Ad17_4 ((digs o1.1.d).length) cd17_4] := b17_10
          have L22 : Le w w17_10 := L21.then_ h17_10 (fun q hq => by cases hq; exact Nat.le_trans L20.size hg17_9)
          refine W.any (.assign rfl) rfl rfl rfl ?_
          refine W.any (.assign rfl) rfl rfl rfl ?_
          refine W.nil ?_
          refine E.thenN ?_
          refine WC.seq ?_
          refine WC.region ?_
          refine W.ef rfl rfl rfl ?_
          refine Ef.call go23 rfl rfl (fof_ok 1 1 w17_10 (by omega) (by omega) (by omega)) ?_
          rintro _ w18_0 ⟨An18_0, cn18_0, Ad18_0, cd18_0, rfl, on18_0, od18_0, h18_0⟩
          refine ⟨_, rfl, ?_⟩
          have L23 := L22.trans h18_0
          refine W.any (.move rfl) rfl rfl rfl ?_
          refine W.any (.extract (v := .agg #[.slice An18_0 ((digs ((lowF 1 1).n)).length) cn18_0, .slice Ad18_0 ((digs ((lowF 1 1).d)).length) cd18_0]) rfl rfl) rfl rfl rfl ?_
          refine W.any (.extract (v := .bool true) rfl rfl) rfl rfl rfl ?_
          refine W.ef rfl rfl rfl ?_
          refine Ef.allocA z33 ?_
          intro g18_4 w18_4 hg18_4 b18_4 h18_4
          have L24 := L23.trans h18_4
          have b18_4 : Blk w18_4 g18_4 33 #[.slice none 0 0, .slice none 0 0] := b18_4
          refine W.ef0 rfl rfl ?_
          refine Ef.storeAll sz33 (by rfl) rfl rfl b18_4 (by rfl) (by simp [Value.oneCell']) ?_
          intro w18_5 b18_5 h18_5
          have b18_5 : Blk w18_5 g18_4 33 #[.slice An18_0 ((digs ((lowF 1 1).n)).length) cn18_0, .slice Ad18_0 ((digs ((lowF 1 1).d)).length) cd18_0] := b18_5
          have L25 : Le w w18_5 := L24.then_ h18_5 (fun q hq => by cases hq; exact Nat.le_trans L23.size hg18_4)
          refine W.any (.assign rfl) rfl rfl rfl ?_
          refine W.nil ?_
          refine E.thenN ?_
          refine WC.seq ?_
          refine WC.seq ?_
          refine WC.region ?_
          refine W.any (.move rfl) rfl rfl rfl ?_
          refine W.any (.dec (.neq rfl rfl) (decide_eq_false (fun h => h hoo1.1))) rfl rfl rfl ?_
          refine W.any (.move rfl) rfl rfl rfl ?_
          have f26 := ((b17_10.le (h18_0.trans h18_4)).ch h18_5 (fun h => (show g18_4 ≠ g17_9 from by have := b17_10.lt; have := h18_0.size; omega) (Option.some.inj h)))
          refine W.rdg (.loadAll ag33 (by rfl) rfl f26) rfl rfl rfl (rfl) rfl rfl ?_
          refine W.rdg (.loadAll ag33 (by rfl) rfl b18_5) rfl rfl rfl (rfl) rfl rfl ?_
          have f27 := ((((on17_4.le h17_9).ch h17_10 (fun q hq => by cases hq; exact (fun he => by have := (on17_4.row he).2; omega))).le (h18_0.trans h18_4)).ch h18_5 (fun q hq => by cases hq; exact (fun he => by have := (on17_4.row he).2; have := h17_9.size; have := h17_10.size; have := h18_0.size; omega)))
          have f28 := ((((od17_4.le h17_9).ch h17_10 (fun q hq => by cases hq; exact (fun he => by have := (od17_4.row he).2; omega))).le (h18_0.trans h18_4)).ch h18_5 (fun q hq => by cases hq; exact (fun he => by have := (od17_4.row he).2; have := h17_9.size; have := h17_10.size; have := h18_0.size; omega)))
          have f29 := ((on18_0.le h18_4).ch h18_5 (fun q hq => by cases hq; exact (fun he => by have := (on18_0.row he).2; omega)))
          have f30 := ((od18_0.le h18_4).ch h18_5 (fun q hq => by cases hq; exact (fun he => by have := (od18_0.row he).2; omega)))
          refine W.efg rfl rfl rfl (rfl) rfl rfl ?_
          refine Ef.call go22 rfl rfl (fcmp_ok w18_5 f27.vec f28.vec (by omega) (by omega) f29.vec f30.vec (by omega) (by omega)) ?_
          rintro _ w19_5 ⟨rfl, h19_5⟩
          refine ⟨_, rfl, ?_⟩
          have L31 := L25.trans h19_5
          refine W.rdg (Any.rd (.dec (.neq rfl rfl) (decide_eq_false (fun h => h (cmp_one hoo1.2)))) _) rfl rfl rfl (rfl) rfl rfl ?_
          refine W.any (.pickF rfl rfl rfl) rfl rfl rfl ?_
          refine W.nil ?_
          refine E.thenN ?_
          refine WC.condF rfl ?_
          refine WC.skip ?_
          refine E.thenN ?_
          refine WC.seq ?_
          refine WC.region ?_
          refine W.any (.assign rfl) rfl rfl rfl ?_
          refine W.nil ?_
          refine E.thenN ?_
          have f32 := (((((zq15.le (h17_4.trans h17_9)).ch h17_10 (fun q hqq hF => by cases hqq; have := zq15.lt hF; have := h17_4.size; have := hg17_9; omega)).le (h18_0.trans h18_4)).ch h18_5 (fun q hqq hF => by cases hqq; have := zq15.lt hF; have := h17_4.size; have := h17_9.size; have := h17_10.size; have := h18_0.size; have := hg18_4; omega)).le h19_5)
          have f33 := (((((zq16.le (h17_4.trans h17_9)).ch h17_10 (fun q hq => by cases hq; exact (fun he => by have := (zq16.row he).2; have := h17_4.size; omega))).le (h18_0.trans h18_4)).ch h18_5 (fun q hq => by cases hq; exact (fun he => by have := (zq16.row he).2; have := h17_4.size; have := h17_9.size; have := h17_10.size; have := h18_0.size; omega))).le h19_5)
          refine WC.cut (ι := Int) (fun k => [(0, .slice A n c), (2, .int .i64 (fr)), (3, .int .i64 (to)), (4, .int .i64 (a)), (5, .int .i64 (x)), (6, .slice A3 n3 c3), (15, .bool true), (17, .pointer (some ⟨gp3_2, 0, none⟩)), (18, .int .i64 (((t : Nat) : Int))), (19, .slice Aw9_6 b1.1.length cw9_6), (28, .int .i64 (k))]) (fun k wc26 => (0 ≤ k ∧ k < b1.1.length) ∧ Le w wc26 ∧ w19_5.heap.size ≤ wc26.heap.size ∧ MPool wc26 w2_2.heap.size gp3_2 F3_2 m ∧ OVec wc26 wl0.heap.size 51 edgeV 9 Aw9_6 b1.1.length cw9_6 b1.1) ?_ ?_
          · refine WC.seq ?_
            refine WC.region ?_
            refine W.any (.move rfl) rfl rfl rfl ?_
            refine W.any (.move rfl) rfl rfl rfl ?_
            refine W.rd (.len Tryz.underlying24 rfl) rfl rfl rfl ?_
            refine W.any (.lss rfl rfl) rfl rfl rfl ?_
            refine W.nil ?_
            refine E.thenN ?_
            by_cases c6 : ((t : Nat) : Int) < ((n3 : Nat) : Int)
            · refine WC.condY rfl (decide_eq_true c6) ?_
              refine WC.seq ?_
              refine WC.region ?_
              refine W.any (.move rfl) rfl rfl rfl ?_
              refine W.any (.move rfl) rfl rfl rfl ?_
              refine W.any (.idxS (t) Tryz.underlying24 sz3 rfl rfl (hps.isSome iv_row (by omega)) (rfl) (by omega)) rfl rfl rfl ?_
              refine W.rd (.vone (v := .int .i64 ((ps.getD t 0))) na3 rfl (hps.le L31) iv_row (getS ps 0 (by first | omega | (simp only [List.length_cons, List.length_nil]; omega))) rfl) rfl rfl rfl ?_
              refine W.any (.move rfl) rfl rfl rfl ?_
              refine W.rd (.len Tryz.underlying22 rfl) rfl rfl rfl ?_
              refine W.any (.remT rfl rfl (by omega)) rfl rfl rfl ?_
              refine W.any (.assign rfl) rfl rfl rfl ?_
              refine W.nil ?_
              refine E.thenN ?_
              refine WC.seq ?_
              refine WC.region ?_
              refine W.any (.move rfl) rfl rfl rfl ?_
              refine W.any (.lss rfl rfl) rfl rfl rfl ?_
              refine W.nil ?_
              refine E.thenN ?_
              by_cases c7 : ((ps.getD t 0).tmod ((b1.1.length : Nat) : Int)) < 0
              · refine WC.condY rfl (decide_eq_true c7) ?_
                refine WC.region ?_
                refine W.any (.move rfl) rfl rfl rfl ?_
                refine W.any (.negI Tryz.underlying3 rfl (by have h := tmod_in (a := ps.getD t 0) (b := ((b1.1.length : Nat) : Int)) (by omega); omega)) rfl rfl rfl ?_
                refine W.any (.assign rfl) rfl rfl rfl ?_
                refine W.nil ?_
                refine E.meet (-((ps.getD t 0).tmod ((b1.1.length : Nat) : Int))) (.cons rfl (.cons rfl (.cons rfl (.cons rfl (.cons rfl (.cons rfl (.cons rfl (.cons rfl (.cons rfl (.cons rfl (.cons rfl (.nil _)))))))))))) ?_
                exact ⟨(by have h := tmod_in (a := ps.getD t 0) (b := ((b1.1.length : Nat) : Int)) (by omega); omega), L31, Nat.le_refl _, f32, f33⟩
              · refine WC.condN rfl (decide_eq_false c7) ?_
                refine WC.skip ?_
                refine E.meet ((ps.getD t 0).tmod ((b1.1.length : Nat) : Int)) (.cons rfl (.cons rfl (.cons rfl (.cons rfl (.cons rfl (.cons rfl (.cons rfl (.cons rfl (.cons rfl (.cons rfl (.cons rfl (.nil _)))))))))))) ?_
                exact ⟨(by have h := tmod_in (a := ps.getD t 0) (b := ((b1.1.length : Nat) : Int)) (by omega); omega), L31, Nat.le_refl _, f32, f33⟩
            · refine WC.condN rfl (decide_eq_false c6) ?_
              refine WC.skip ?_
              refine E.meet 0 (.cons rfl (.cons rfl (.cons rfl (.cons rfl (.cons rfl (.cons rfl (.cons rfl (.cons rfl (.cons rfl (.cons rfl (.cons rfl (.nil _)))))))))))) ?_
              exact ⟨⟨by decide, by omega⟩, L31, Nat.le_refl _, f32, f33⟩
          · rintro k wc26 ⟨hkk, Lc2, sc2, m2_0, m2_1⟩
            have lc2_5 : wl0.heap.size ≤ wc26.heap.size := by have := sc2; have := h9_6.size; have := h9_11.size; have := h9_13.size; have := h12_1.size; have := h15_7.size; have := h17_4.size; have := h17_9.size; have := h17_10.size; have := h18_0.size; have := h18_4.size; have := h18_5.size; have := h19_5.size; omega
            have hnf := note_failed hgm hbc.cost hkk.1 hkk.2
            refine WC.seq ?_
            refine WC.seq ?_
            refine WC.region ?_
            refine W.any (.move rfl) rfl rfl rfl ?_
            refine W.any (.move rfl) rfl rfl rfl ?_
            refine W.any (.move rfl) rfl rfl rfl ?_
            refine W.any (.move rfl) rfl rfl rfl ?_
            refine W.any (.move rfl) rfl rfl rfl ?_
            have hva26_5 := apart_vec m2_1 (show ∀ g, rowOf Aw9_6 cw9_6 = some g → ¬ F3_2 g from (fun g hg hF => by have := f0_0.lt hF;  have := (m2_1.row hg).1; omega))
            refine W.ef rfl rfl rfl ?_
            refine Ef.call go18 rfl rfl (rnote_ok (c := cw9_6) a x k wc26 m2_0 m2_1.vec (by omega) hva26_5) ?_
            rintro _ w26_5 ⟨rfl, p26_5, g26_5, h26_5⟩
            refine ⟨_, rfl, ?_⟩
            have L34 := Lc2.chP_then h26_5 (fun i hi => Nat.le_trans L2.size (m2_0.old hi))
            have zq35n := (show ∀ g, rowOf Aw9_6 cw9_6 = some g → ¬ F3_2 g from (fun g hg hF => by have := f0_0.lt hF;  have := (m2_1.row hg).1; omega))
            have zq35 := m2_1.chP h26_5 zq35n
            have zq35g : ∀ g, rowOf Aw9_6 cw9_6 = some g → ¬ F3_2 g := fun g hg hF => (g26_5 _ hF).elim (zq35n g hg) (fun hz => by have := (m2_1.row hg).2; omega)
            refine W.any (.dec (.neq rfl rfl) (decide_eq_false (fun h => h hnf.1))) rfl rfl rfl ?_
            refine W.nil ?_
            refine E.thenN ?_
            refine WC.condF rfl ?_
            refine WC.skip ?_
            refine E.thenN ?_
            refine WC.seq ?_
            refine WC.region ?_
            refine W.any (.move rfl) rfl rfl rfl ?_
            refine W.any (.move rfl) rfl rfl rfl ?_
            refine W.any (.move rfl) rfl rfl rfl ?_
            refine W.any (.move rfl) rfl rfl rfl ?_
            obtain ⟨o2, heo2⟩ : ∃ z, z = oddsR ((noteR m b1.1 a x k).1) b1.1 a x := ⟨_, rfl⟩
            have hlo2 := oddsR_len (m := ((noteR m b1.1 a x k).1)) (noteR_good hgm _ _) b1.1 a x
            rw [← heo2] at hlo2
            refine W.ef rfl rfl rfl ?_
            refine Ef.call go14 rfl rfl ((by have k := rodds_ok (c := cw9_6) a x w26_5 p26_5 zq35.vec (by omega); rw [← heo2] at k; exact k)) ?_
            rintro _ w28_4 ⟨An28_4, cn28_4, Ad28_4, cd28_4, rfl, on28_4, od28_4, h28_4⟩
            refine ⟨_, rfl, ?_⟩
            have L36 := L34.trans h28_4
            have hoo2 : o2.2.2 = 0 ∧ o2.1 = ⟨0, 1⟩ := by rw [heo2]; exact hnf.2
            have hoo2 : o2.2.2 = 0 ∧ o2.1 = ⟨0, 1⟩ := by rw [heo2]; exact hnf.2
            refine W.any (.move rfl) rfl rfl rfl ?_
            refine W.any (.extract (v := .agg #[.slice An28_4 ((digs o2.1.n).length) cn28_4, .slice Ad28_4 ((digs o2.1.d).length) cd28_4]) rfl rfl) rfl rfl rfl ?_
            refine W.any (.extract (v := .int .i64 (o2.2.1)) rfl rfl) rfl rfl rfl ?_
            refine W.any (.extract (v := .int .i64 (o2.2.2)) rfl rfl) rfl rfl rfl ?_
            refine W.ef rfl rfl rfl ?_
            refine Ef.allocA z33 ?_
            intro g28_9 w28_9 hg28_9 b28_9 h28_9
            have L37 := L36.trans h28_9
            have b28_9 : Blk w28_9 g28_9 33 #[.slice none 0 0, .slice none 0 0] := b28_9
            refine W.ef0 rfl rfl ?_
            refine Ef.storeAll sz33 (by rfl) rfl rfl b28_9 (by rfl) (by simp [Value.oneCell']) ?_
            intro w28_10 b28_10 h28_10
            have b28_10 : Blk w28_10 g28_9 33 #[.slice An28_4 ((digs o2.1.n).length) cn28_4, .slice Ad28_4 ((digs o2.1.d).length) cd28_4] := b28_10
            have L38 : Le w w28_10 := L37.then_ h28_10 (fun q hq => by cases hq; exact Nat.le_trans L36.size hg28_9)
            refine W.any (.assign rfl) rfl rfl rfl ?_
            refine W.any (.assign rfl) rfl rfl rfl ?_
            refine W.nil ?_
            refine E.thenN ?_
            refine WC.seq ?_
            refine WC.region ?_
            refine W.ef rfl rfl rfl ?_
            refine Ef.call go23 rfl rfl (fof_ok 0 1 w28_10 (by omega) (by omega) (by omega)) ?_
            rintro _ w29_0 ⟨An29_0, cn29_0, Ad29_0, cd29_0, rfl, on29_0, od29_0, h29_0⟩
            refine ⟨_, rfl, ?_⟩
            have L39 := L38.trans h29_0
            refine W.any (.move rfl) rfl rfl rfl ?_
            refine W.any (.extract (v := .agg #[.slice An29_0 ((digs ((lowF 0 1).n)).length) cn29_0, .slice Ad29_0 ((digs ((lowF 0 1).d)).length) cd29_0]) rfl rfl) rfl rfl rfl ?_
            refine W.any (.extract (v := .bool true) rfl rfl) rfl rfl rfl ?_
            refine W.ef rfl rfl rfl ?_
            refine Ef.allocA z33 ?_
            intro g29_4 w29_4 hg29_4 b29_4 h29_4
            have L40 := L39.trans h29_4
            have b29_4 : Blk w29_4 g29_4 33 #[.slice none 0 0, .slice none 0 0] := b29_4
            refine W.ef0 rfl rfl ?_
            refine Ef.storeAll sz33 (by rfl) rfl rfl b29_4 (by rfl) (by simp [Value.oneCell']) ?_
            intro w29_5 b29_5 h29_5
            have b29_5 : Blk w29_5 g29_4 33 #[.slice An29_0 ((digs ((lowF 0 1).n)).length) cn29_0, .slice Ad29_0 ((digs ((lowF 0 1).d)).length) cd29_0] := b29_5
            have L41 : Le w w29_5 := L40.then_ h29_5 (fun q hq => by cases hq; exact Nat.le_trans L39.size hg29_4)
            refine W.any (.assign rfl) rfl rfl rfl ?_
            refine W.nil ?_
            refine E.thenN ?_
            refine WC.seq ?_
            refine WC.region ?_
            refine W.any (.move rfl) rfl rfl rfl ?_
            refine W.any (.dec (.neq rfl rfl) (decide_eq_false (fun h => h hoo2.1))) rfl rfl rfl ?_
            refine W.any (.move rfl) rfl rfl rfl ?_
            have f42 := ((b28_10.le (h29_0.trans h29_4)).ch h29_5 (fun h => (show g29_4 ≠ g28_9 from by have := b28_10.lt; have := h29_0.size; omega) (Option.some.inj h)))
            refine W.rdg (.loadAll ag33 (by rfl) rfl f42) rfl rfl rfl (rfl) rfl rfl ?_
            refine W.rdg (.loadAll ag33 (by rfl) rfl b29_5) rfl rfl rfl (rfl) rfl rfl ?_
            have f43 := ((((on28_4.le h28_9).ch h28_10 (fun q hq => by cases hq; exact (fun he => by have := (on28_4.row he).2; omega))).le (h29_0.trans h29_4)).ch h29_5 (fun q hq => by cases hq; exact (fun he => by have := (on28_4.row he).2; have := h28_9.size; have := h28_10.size; have := h29_0.size; omega)))
            have f44 := ((((od28_4.le h28_9).ch h28_10 (fun q hq => by cases hq; exact (fun he => by have := (od28_4.row he).2; omega))).le (h29_0.trans h29_4)).ch h29_5 (fun q hq => by cases hq; exact (fun he => by have := (od28_4.row he).2; have := h28_9.size; have := h28_10.size; have := h29_0.size; omega)))
            have f45 := ((on29_0.le h29_4).ch h29_5 (fun q hq => by cases hq; exact (fun he => by have := (on29_0.row he).2; omega)))
            have f46 := ((od29_0.le h29_4).ch h29_5 (fun q hq => by cases hq; exact (fun he => by have := (od29_0.row he).2; omega)))
            refine W.efg rfl rfl rfl (rfl) rfl rfl ?_
            refine Ef.call go22 rfl rfl (fcmp_ok w29_5 f43.vec f44.vec (by omega) (by omega) f45.vec f46.vec (by omega) (by omega)) ?_
            rintro _ w30_5 ⟨rfl, h30_5⟩
            refine ⟨_, rfl, ?_⟩
            have L47 := L41.trans h30_5
            refine W.rdg (Any.rd (.dec (.neq rfl rfl) (decide_eq_false (fun h => h (cmp_nil hoo2.2)))) _) rfl rfl rfl (rfl) rfl rfl ?_
            refine W.any (.pickF rfl rfl rfl) rfl rfl rfl ?_
            refine W.nil ?_
            refine E.thenN ?_
            refine WC.condF rfl ?_
            refine WC.skip ?_
            refine E.blkN ?_
            refine E.thenN ?_
            refine WC.region ?_
            refine W.any (.move rfl) rfl rfl rfl ?_
            refine W.any (.add rfl rfl (by omega)) rfl rfl rfl ?_
            refine W.any (.assign rfl) rfl rfl rfl ?_
            refine W.nil ?_
            have f48 := (((((p26_5.le (h28_4.trans h28_9)).ch h28_10 (fun q hqq hF => by cases hqq; have := p26_5.lt hF; have := h28_4.size; have := hg28_9; omega)).le (h29_0.trans h29_4)).ch h29_5 (fun q hqq hF => by cases hqq; have := p26_5.lt hF; have := h28_4.size; have := h28_9.size; have := h28_10.size; have := h29_0.size; have := hg29_4; omega)).le h30_5)
            refine E.again (t + 1, (noteR m b1.1 a x k).1) (.cons rfl (.cons rfl (.cons rfl (.cons rfl (.cons rfl (.cons rfl (.cons rfl (.cons rfl (.cons rfl (.nil _)))))))))) ?_ ?_
            · exact ⟨by omega, L47, by have := zl0; have := h26_5.size; have := h28_4.size; have := h28_9.size; have := h28_10.size; have := h29_0.size; have := h29_4.size; have := h29_5.size; have := h30_5.size; have := sc2; have := h1_0.size; have := h2_2.size; have := h3_2.size; have := h9_6.size; have := h9_11.size; have := h9_13.size; have := h12_1.size; have := h15_7.size; have := h17_4.size; have := h17_9.size; have := h17_10.size; have := h18_0.size; have := h18_4.size; have := h18_5.size; have := h19_5.size; omega, f48⟩
            · first | omega | (simp only []; omega)
      · refine WC.condN rfl (decide_eq_false c1) ?_
        refine WC.exit ?_
        refine E.thenX ?_
        refine E.thenX ?_
        refine E.blkH ?_
        refine E.thenN ?_
        refine WC.seq ?_
        refine WC.region ?_
        refine W.any (.move rfl) rfl rfl rfl ?_
        refine W.any (.assign rfl) rfl rfl rfl ?_
        refine W.nil ?_
        refine E.thenN ?_
        refine WC.ret ?_
        refine E.retG1 rfl rfl ?_
        exact ⟨rfl, Ll0⟩
  · refine W.any (.dec (.move rfl) (congrArg not ((Bool.eq_false_iff.2 q4_2)))) rfl rfl rfl ?_
    refine W.skip rfl rfl rfl (rfl) rfl rfl ?_
    refine W.skip rfl rfl rfl (rfl) rfl rfl ?_
    refine W.any (.pickT rfl rfl rfl) rfl rfl rfl ?_
    refine W.nil ?_
    refine E.thenN ?_
    refine WC.condT rfl ?_
    refine WC.seq ?_
    refine WC.region ?_
    refine W.any (.move rfl) rfl rfl rfl ?_
    refine W.any (.move rfl) rfl rfl rfl ?_
    refine W.rdg (Any.rd (.move rfl) _) rfl rfl rfl (rfl) rfl rfl ?_
    refine W.rdg (Any.rd (.dec (.notNilP (by kernel_rfl) rfl) rfl) _) rfl rfl rfl (rfl) rfl rfl ?_
    refine W.any (.pickT rfl rfl rfl) rfl rfl rfl ?_
    refine W.any (.assign rfl) rfl rfl rfl ?_
    refine W.nil ?_
    refine E.thenN ?_
    refine WC.ret ?_
    refine E.thenR ?_
    refine E.retG1 rfl rfl ?_
    exact ⟨rfl, L3⟩
end Go.Proofs.YtmkdeemjkcigkaaGreatDoor

