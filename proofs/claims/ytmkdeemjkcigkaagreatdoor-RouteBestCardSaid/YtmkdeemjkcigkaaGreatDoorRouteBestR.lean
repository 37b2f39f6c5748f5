/- RouteBest: for every input the law answers true and leaves its arguments as they were. -/
import Derived.Test.YtmkdeemjkcigkaaGreatDoorRouteBestQ
import Derived.Handy
import Derived.OrdersHeld
import Derived.WalkKit
import Derived.Deep.AppendSrc
import Derived.Deep.MidRow
import Derived.Laws.OwnMore
import Derived.WalkSpells
import Derived.Lib.ConvBytes
import Derived.Lib.AppendZerosOnto
import Derived.Laws.StructEq
import Derived.Maps.RangeRun
import Derived.Laws.Pointers
import Derived.Laws.Concat
import Derived.Test.YtmkdeemjkcigkaaGreatDoorProg
import Derived.KernelRfl
import Derived.Lib.Mul64
import Derived.RangeFuncNested
import Derived.RangeFuncBound
import Derived.RangeFuncCalls
import Derived.RangeFuncLeaves
import Derived.OrdersIn
import Derived.Laws.Cover3
import Derived.Shelf.Strconv.Itoa3
import Derived.Lib.ItoaLen
import Derived.Lib.AppendIntMem
set_option linter.unusedVariables false
set_option linter.unusedSimpArgs false
set_option linter.unusedSimpArgs false
set_option linter.unusedVariables false
set_option maxRecDepth 20000
namespace Go.Proofs
open Go.Shelf
def Tryz.laysM171_ren : Go.Shelf.Ren := ⟨fun | 171 => 108 | 243 => 133 | 246 => 147 | 283 => 154 | 284 => 155 | 285 => 156 | 286 => 157 | 129 => 162 | 317 => 161 | 318 => 163 | 319 => 164 | 320 => 165 | 337 => 166 | 338 => 167 | n => n, fun | 3 => 3 | 9 => 9 | 2 => 2 | 4 => 4 | 171 => 176 | 0 => 0 | 53 => 57 | 37 => 154 | 5 => 5 | 173 => 179 | 212 => 186 | 51 => 122 | 20 => 20 | 213 => 187 | 46 => 134 | 232 => 190 | 233 => 191 | n => n, fun | 17 => 2 | 18 => 4 | 19 => 5 | n => n⟩
theorem Tryz.laysM171 : Go.Proofs.LaysM.n171 Tryz.prog Tryz.laysM171_ren := {
  mixed := by kernel_rfl
  f129 := Tryz.func162.trans (congrArg some (by kernel_rfl))
  f171 := Tryz.func108.trans (congrArg some (by kernel_rfl))
  f243 := Tryz.func133.trans (congrArg some (by kernel_rfl))
  f246 := Tryz.func147.trans (congrArg some (by kernel_rfl))
  f283 := Tryz.func154.trans (congrArg some (by kernel_rfl))
  f284 := Tryz.func155.trans (congrArg some (by kernel_rfl))
  f285 := Tryz.func156.trans (congrArg some (by kernel_rfl))
  f286 := Tryz.func157.trans (congrArg some (by kernel_rfl))
  f317 := Tryz.func161.trans (congrArg some (by kernel_rfl))
  f318 := Tryz.func163.trans (congrArg some (by kernel_rfl))
  f319 := Tryz.func164.trans (congrArg some (by kernel_rfl))
  f320 := Tryz.func165.trans (congrArg some (by kernel_rfl))
  f337 := Tryz.func166.trans (congrArg some (by kernel_rfl))
  f338 := Tryz.func167.trans (congrArg some (by kernel_rfl))
  t0 := Tryz.underlying0
  a0 := Tryz.isAgg0
  z0 := Tryz.sizeOf0
  v0 := Tryz.zeroValue0
  t2 := Tryz.underlying2
  a2 := Tryz.isAgg2
  z2 := Tryz.sizeOf2
  v2 := Tryz.zeroValue2
  t3 := Tryz.underlying3
  a3 := Tryz.isAgg3
  z3 := Tryz.sizeOf3
  v3 := Tryz.zeroValue3
  t4 := Tryz.underlying4
  a4 := Tryz.isAgg4
  z4 := Tryz.sizeOf4
  v4 := Tryz.zeroValue4
  t5 := Tryz.underlying5
  a5 := Tryz.isAgg5
  z5 := Tryz.sizeOf5
  v5 := Tryz.zeroValue5
  t9 := Tryz.underlying9
  a9 := Tryz.isAgg9
  z9 := Tryz.sizeOf9
  v9 := Tryz.zeroValue9
  t20 := Tryz.underlying20
  a20 := Tryz.isAgg20
  z20 := Tryz.sizeOf20
  v20 := Tryz.zeroValue20
  t37 := Tryz.underlying154
  a37 := Tryz.isAgg154
  z37 := Tryz.sizeOf154
  v37 := Tryz.zeroValue154
  t46 := Tryz.underlying134
  a46 := Tryz.isAgg134
  z46 := Tryz.sizeOf134
  v46 := Tryz.zeroValue134
  t51 := Tryz.underlying122
  a51 := Tryz.isAgg122
  z51 := Tryz.sizeOf122
  v51 := Tryz.zeroValue122
  t53 := Tryz.underlying57
  a53 := Tryz.isAgg57
  z53 := Tryz.sizeOf57
  v53 := Tryz.zeroValue57
  t171 := Tryz.underlying176
  a171 := Tryz.isAgg176
  z171 := Tryz.sizeOf176
  v171 := Tryz.zeroValue176
  t173 := Tryz.underlying179
  a173 := Tryz.isAgg179
  z173 := Tryz.sizeOf179
  v173 := Tryz.zeroValue179
  t212 := Tryz.underlying186
  a212 := Tryz.isAgg186
  z212 := Tryz.sizeOf186
  v212 := Tryz.zeroValue186
  t213 := Tryz.underlying187
  a213 := Tryz.isAgg187
  z213 := Tryz.sizeOf187
  t232 := Tryz.underlying190
  a232 := Tryz.isAgg190
  z232 := Tryz.sizeOf190
  v232 := Tryz.zeroValue190
  t233 := Tryz.underlying191
  a233 := Tryz.isAgg191
  z233 := Tryz.sizeOf191
  v233 := Tryz.zeroValue191
  g17 := by kernel_rfl
  g18 := by kernel_rfl
  g19 := by kernel_rfl
  i0 := by kernel_rfl
  i2 := by kernel_rfl
  i3 := by kernel_rfl
  i4 := by kernel_rfl
  i5 := by kernel_rfl
  i9 := by kernel_rfl
  i20 := by kernel_rfl
  i37 := by kernel_rfl
  i46 := by kernel_rfl
  i51 := by kernel_rfl
  i53 := by kernel_rfl
  i171 := by kernel_rfl
  i173 := by kernel_rfl
  i212 := by kernel_rfl
  i232 := by kernel_rfl
  i233 := by kernel_rfl
  m17 := by kernel_rfl
  m18 := by kernel_rfl
  m19 := by kernel_rfl }
end Go.Proofs
namespace Go.Proofs.YtmkdeemjkcigkaaGreatDoor
open Go Go.Sx Go.Nsp
/-- The library's table of tens reads as it is laid. -/
def Tab (w : World) : Prop := Lib.TabIs Tryz.prog w "internal/strconv.uint64pow10" .u64 Lib.pow10Tab
theorem Tab.le {w w' : World} (h : Tab w) (hl : Le w w') : Tab w' := Lib.tabBelow_of_tabIs h w' hl
theorem itoa_len {p : Nat} (h : p < 1000000000) : (Lib.itoa ((p : Nat) : Int)).length ≤ 21 := Lib.itoa_length_le _ (by omega) (by omega)
theorem itoa_ok (p : Nat) (w : World) (hT : Tab w) (h0 : 0 ≤ p) (h1 : p < 1000000000) : Calls Tryz.prog 108 #[.int .i64 ((p : Nat) : Int)] w fun r w' => r = .returned (.string ⟨(Lib.itoa ((p : Nat) : Int)).toArray⟩) ∧ Le w w' :=
  (Any.strconv_Itoa Tryz.laysM171 ((p : Nat) : Int) (by omega) (by omega) w hT).mono (by
    rintro _ w' ⟨rfl, k, os, rfl⟩
    exact ⟨rfl, Lib.below_grow _ w (Nat.le_refl _) k os⟩)
/-- A fraction's text. -/
def textF (p q : Nat) : List UInt8 := if q = 1 then Lib.itoa ((p : Nat) : Int) else Lib.itoa ((p : Nat) : Int) ++ ([47] : List UInt8) ++ Lib.itoa ((q : Nat) : Int)
theorem digs_lots : digs 1000000000 = [1000000000] := by rw [digs_pos (by decide), show 1000000000 / B = 0 from rfl, digs_zero]; rfl
theorem ntext_ok {A : Option Addr} {n c p : Nat} (w : World) (hT : Tab w) (hV : Vec w dv 1 A n (digs p)) (hn : n ≤ 10000) (hp1 : p < 1000000000) : Calls Tryz.prog 70 #[.slice A n c] w fun r w' => r = .returned (.string ⟨(Lib.itoa ((p : Nat) : Int)).toArray⟩) ∧ Le w w' := by
  have hl := hV.1
  refine enter Tryz.func70 rfl rfl ?_
  have L0 := Le.refl w
  refine WC.seq ?_
  refine WC.region ?_
  refine W.any (.assign rfl) rfl rfl rfl ?_
  refine W.nil ?_
  refine E.thenN ?_
  refine WC.seq ?_
  refine WC.region ?_
  refine W.any (.move rfl) rfl rfl rfl ?_
  refine W.ef rfl rfl rfl ?_
  refine Ef.call go97 rfl rfl (ntaken_ok w (hV.le L0) (by omega)) ?_
  rintro _ w1_1 ⟨rfl, h1_1⟩
  refine ⟨_, rfl, ?_⟩
  have L1 := L0.trans h1_1
  refine W.any (.assign rfl) rfl rfl rfl ?_
  refine W.nil ?_
  refine E.thenN ?_
  refine WC.seq ?_
  refine WC.region ?_
  refine W.any (.assign rfl) rfl rfl rfl ?_
  refine W.nil ?_
  refine E.thenN ?_
  refine WC.block ?_
  refine WC.loop (ι := Nat) (fun k => [(0, .slice A n c), (3, .string ⟨([] : List UInt8).toArray⟩)]) (fun k wl0 => Le w wl0 ∧ w1_1.heap.size ≤ wl0.heap.size) (fun k => k) 0 ?_ ?_ ?_
  · exact .cons rfl (.cons rfl (.nil _))
  · exact ⟨L1, Nat.le_refl _⟩
  · rintro k wl0 ⟨Ll0, zl0⟩
    refine WC.block ?_
    refine WC.seq ?_
    refine WC.region ?_
    refine W.any (.move rfl) rfl rfl rfl ?_
    refine W.ef rfl rfl rfl ?_
    refine Ef.buildSliceV (len := 1) [_] Tryz.underlying31 el122 rfl (by simp [Value.cells]) rfl (by decide) (by decide) ?_
    intro g3_1 w3_1 hg3_1 b3_1 h3_1
    have L2 := Ll0.trans h3_1
    have b3_1 : Blk w3_1 g3_1 122 (([1000000000]).map dv).flatten.toArray := b3_1
    have o3_1 : OVec w3_1 wl0.heap.size 122 dv 1 (some ⟨g3_1, 0, none⟩) 1 1 ([1000000000]) := b3_1.ovec hg3_1 dv_row rfl rfl (by decide)
    have o3 := o3_1.cast (m' := 1) (ys := (digs 1000000000)) (rfl) (digs_lots.symm)
    refine W.ef rfl rfl rfl ?_
    refine Ef.call go102 rfl rfl (ndivmod_ok w3_1 (hV.le L2) o3.vec (by omega) (by omega) (by omega)) ?_
    rintro _ w3_2 ⟨Aq3_2, cq3_2, Ar3_2, cr3_2, rfl, oq3_2, or3_2, h3_2⟩
    refine ⟨_, rfl, ?_⟩
    have L4 := L2.trans h3_2
    refine W.any (.move rfl) rfl rfl rfl ?_
    refine W.any (.extract (v := .slice Aq3_2 ((digs (p / 1000000000)).length) cq3_2) rfl rfl) rfl rfl rfl ?_
    refine W.any (.extract (v := .slice Ar3_2 ((digs (p % 1000000000)).length) cr3_2) rfl rfl) rfl rfl rfl ?_
    refine W.any (.extract (v := .bool true) rfl rfl) rfl rfl rfl ?_
    refine W.any (.assign rfl) rfl rfl rfl ?_
    refine W.any (.assign rfl) rfl rfl rfl ?_
    refine W.any (.assign rfl) rfl rfl rfl ?_
    refine W.nil ?_
    refine E.thenN ?_
    refine WC.seq ?_
    refine WC.region ?_
    refine W.any (.move rfl) rfl rfl rfl ?_
    refine W.ef rfl rfl rfl ?_
    refine Ef.call go107 rfl rfl (nint_ok w3_2 or3_2.vec (by omega)) ?_
    rintro _ w4_1 ⟨rfl, h4_1⟩
    refine ⟨_, rfl, ?_⟩
    have L5 := L4.trans h4_1
    refine W.any (.move rfl) rfl rfl rfl ?_
    refine W.any (.extract (v := .int .i64 ((((p % 1000000000) : Nat) : Int))) rfl rfl) rfl rfl rfl ?_
    refine W.any (.extract (v := .bool true) rfl rfl) rfl rfl rfl ?_
    refine W.any (.assign rfl) rfl rfl rfl ?_
    refine W.any (.assign rfl) rfl rfl rfl ?_
    refine W.nil ?_
    refine E.thenN ?_
    refine WC.seq ?_
    refine WC.region ?_
    refine W.any (.move rfl) rfl rfl rfl ?_
    refine W.ef rfl rfl rfl ?_
    refine Ef.call go108 rfl rfl (itoa_ok (p % 1000000000) w4_1 (hT.le L5) (by omega) (by omega)) ?_
    rintro _ w5_1 ⟨rfl, h5_1⟩
    refine ⟨_, rfl, ?_⟩
    have L6 := L5.trans h5_1
    refine W.any (.assign rfl) rfl rfl rfl ?_
    refine W.nil ?_
    refine E.thenN ?_
    refine WC.seq ?_
    refine WC.seq ?_
    refine WC.region ?_
    refine W.any (.move rfl) rfl rfl rfl ?_
    refine W.rd (.len Tryz.underlying31 rfl) rfl rfl rfl ?_
    refine W.any (.eql rfl rfl) rfl rfl rfl ?_
    refine W.nil ?_
    refine E.thenN ?_
    refine WC.condY rfl (decide_eq_true (by rw [Nat.div_eq_of_lt hp1, digs_zero]; rfl)) ?_
    refine WC.seq ?_
    refine WC.region ?_
    refine W.any (.move rfl) rfl rfl rfl ?_
    refine W.any (.move rfl) rfl rfl rfl ?_
    refine W.any (.addStr (a := Lib.itoa (((p % 1000000000) : Nat) : Int)) (b := ([] : List UInt8)) rfl rfl (Nat.le_trans (itoa_len (by omega)) (by decide)) (by decide)) rfl rfl rfl ?_
    refine W.any (.assign rfl) rfl rfl rfl ?_
    refine W.nil ?_
    refine E.thenN ?_
    refine WC.ret ?_
    refine E.thenR ?_
    refine E.blkR ?_
    refine E.thenR ?_
    refine E.blkR ?_
    refine E.retG1 rfl rfl ?_
    exact ⟨congrArg (fun v => Ending.returned (Value.string ⟨List.toArray v⟩)) (by simp [show p % 1000000000 = p from Nat.mod_eq_of_lt hp1]), L6⟩

theorem ftext_ok {An Ad : Option Addr} {nn cn nd cd p q : Nat} (w : World) (hT : Tab w) (hn : Vec w dv 1 An nn (digs p)) (hd : Vec w dv 1 Ad nd (digs q)) (bn : nn ≤ 10000) (bd : nd ≤ 10000) (hok : okB p q = true) (hp1 : p < 1000000000) (hq1 : q < 1000000000) : Calls Tryz.prog 30 #[.agg #[.slice An nn cn, .slice Ad nd cd]] w fun r w' => r = .returned (.string ⟨(textF p q).toArray⟩) ∧ Le w w' := by
  have hln := hn.1; have hld := hd.1
  have h1l := digs_len_one (d := 1) (by decide)
  refine enter Tryz.func30 rfl rfl ?_
  have L0 := Le.refl w
  refine WC.seq ?_
  refine WC.region ?_
  refine W.ef rfl rfl rfl ?_
  refine Ef.boxA rfl ?_
  intro g0_0 w0_0 hg0_0 b0_0 h0_0
  have L1 := L0.trans h0_0
  have b0_0 : Blk w0_0 g0_0 33 #[.slice An nn cn, .slice Ad nd cd] := b0_0
  refine W.any (.assign rfl) rfl rfl rfl ?_
  refine W.nil ?_
  refine E.thenN ?_
  refine WC.seq ?_
  refine WC.region ?_
  refine W.rd (.loadAll ag33 (by rfl) rfl b0_0) rfl rfl rfl ?_
  refine W.ef rfl rfl rfl ?_
  refine Ef.call go68 rfl rfl (ftaken_yes w0_0 (hn.le L1) (hd.le L1) (by omega) (by omega) hok) ?_
  rintro _ w1_1 ⟨rfl, h1_1⟩
  refine ⟨_, rfl, ?_⟩
  have L2 := L1.trans h1_1
  have f3 := (b0_0.le h1_1)
  refine W.ef0 rfl rfl ?_
  refine Ef.storeAll sz33 (by rfl) rfl rfl f3 (by rfl) (by simp [Value.oneCell']) ?_
  intro w1_2 b1_2 h1_2
  have b1_2 : Blk w1_2 g0_0 33 #[.slice An nn cn, .slice Ad nd cd] := b1_2
  have L4 : Le w w1_2 := L2.then_ h1_2 (fun q hq => by cases hq; exact Nat.le_trans L0.size hg0_0)
  refine W.nil ?_
  refine E.thenN ?_
  refine WC.seq ?_
  refine WC.seq ?_
  refine WC.draw [0, 1, 2, 3, 4] mixed (by kernel_rfl) ?_
  intro w2 d2
  have L5 := L4.trans d2
  refine G.any rfl rfl (.field0 fa33_1 rfl) rfl rfl rfl ?_
  have f6 := (b1_2.le d2)
  refine G.rd rfl rfl (.loadB (v := .slice Ad nd cd) na31 rfl f6 rfl) rfl rfl rfl ?_
  refine G.ef rfl rfl rfl rfl rfl ?_
  refine Ef.call go69 rfl rfl (fone_ok w2) ?_
  rintro _ w2_2 ⟨Ad2_2, cd2_2, rfl, o2_2, h2_2⟩
  refine ⟨_, rfl, ?_⟩
  refine ⟨fun _ => h2_2, ?_⟩
  have L7 := L5.trans h2_2
  refine G.ef rfl rfl rfl rfl rfl ?_
  refine Ef.call go58 rfl rfl (ncmp_ok w2_2 (hd.le L7) o2_2.vec (by omega) (by omega)) ?_
  rintro _ w2_3 ⟨rfl, h2_3⟩
  refine ⟨_, rfl, ?_⟩
  refine ⟨fun _ => h2_3, ?_⟩
  have L8 := L7.trans h2_3
  refine G.any rfl rfl (.eql rfl rfl) rfl rfl rfl ?_
  refine G.nil ?_
  refine E.thenN ?_
  by_cases c0 : (cmpN q 1) = 0
  · refine WC.condY rfl (decide_eq_true c0) ?_
    refine WC.seq ?_
    refine WC.region ?_
    refine W.any (.field0 fa33_0 rfl) rfl rfl rfl ?_
    have f9 := (f6.le (h2_2.trans h2_3))
    refine W.rd (.loadB (v := .slice An nn cn) na31 rfl f9 rfl) rfl rfl rfl ?_
    refine W.ef rfl rfl rfl ?_
    refine Ef.call go70 rfl rfl (ntext_ok w2_3 (hT.le L8) (hn.le L8) (by omega) (by omega)) ?_
    rintro _ w3_2 ⟨rfl, h3_2⟩
    refine ⟨_, rfl, ?_⟩
    have L10 := L8.trans h3_2
    refine W.any (.assign rfl) rfl rfl rfl ?_
    refine W.nil ?_
    refine E.thenN ?_
    refine WC.ret ?_
    refine E.thenR ?_
    refine E.retG1 rfl rfl ?_
    exact ⟨congrArg (fun v => Ending.returned (Value.string ⟨List.toArray v⟩)) (by unfold textF; first | rw [if_pos (cmpN_eq.1 (by assumption))] | rw [if_neg (fun h => absurd (cmpN_eq.2 h) (by assumption))]), L10⟩
  · refine WC.condN rfl (decide_eq_false c0) ?_
    refine WC.skip ?_
    refine E.thenN ?_
    refine WC.seq ?_
    refine WC.draw [0, 1, 4, 5, 2, 3, 6, 7, 8] mixed (by kernel_rfl) ?_
    intro w4 d4
    have L11 := L8.trans d4
    refine G.any rfl rfl (.field0 fa33_0 rfl) rfl rfl rfl ?_
    have f12 := (f6.le (h2_2.trans (h2_3.trans d4)))
    refine G.rd rfl rfl (.loadB (v := .slice An nn cn) na31 rfl f12 rfl) rfl rfl rfl ?_
    refine G.any rfl rfl (.field0 fa33_1 rfl) rfl rfl rfl ?_
    refine G.rd rfl rfl (.loadB (v := .slice Ad nd cd) na31 rfl f12 rfl) rfl rfl rfl ?_
    refine G.ef rfl rfl rfl rfl rfl ?_
    refine Ef.call go70 rfl rfl (ntext_ok w4 (hT.le L11) (hn.le L11) (by omega) (by omega)) ?_
    rintro _ w4_2 ⟨rfl, h4_2⟩
    refine ⟨_, rfl, ?_⟩
    refine ⟨fun _ => h4_2, ?_⟩
    have L13 := L11.trans h4_2
    refine G.any rfl rfl (.addStr (a := Lib.itoa ((p : Nat) : Int)) (b := ([47] : List UInt8)) rfl rfl (Nat.le_trans (itoa_len (by omega)) (by decide)) (by decide)) rfl rfl rfl ?_
    refine G.ef rfl rfl rfl rfl rfl ?_
    refine Ef.call go70 rfl rfl (ntext_ok w4_2 (hT.le L13) (hd.le L13) (by omega) (by omega)) ?_
    rintro _ w4_6 ⟨rfl, h4_6⟩
    refine ⟨_, rfl, ?_⟩
    refine ⟨fun _ => h4_6, ?_⟩
    have L14 := L13.trans h4_6
    refine G.any rfl rfl (.addStr (a := (Lib.itoa ((p : Nat) : Int)) ++ ([47] : List UInt8)) (b := Lib.itoa ((q : Nat) : Int)) rfl rfl (by have := itoa_len (p := p) (by omega); simp only [List.length_append, List.length_cons, List.length_nil]; omega) (Nat.le_trans (itoa_len (by omega)) (by decide))) rfl rfl rfl ?_
    refine G.any rfl rfl (.assign rfl) rfl rfl rfl ?_
    refine G.nil ?_
    refine E.thenN ?_
    refine WC.ret ?_
    refine E.retG1 rfl rfl ?_
    exact ⟨congrArg (fun v => Ending.returned (Value.string ⟨List.toArray v⟩)) (by unfold textF; first | rw [if_pos (cmpN_eq.1 (by assumption))] | rw [if_neg (fun h => absurd (cmpN_eq.2 h) (by assumption))]), L14⟩
end Go.Proofs.YtmkdeemjkcigkaaGreatDoor

namespace Go.Proofs.YtmkdeemjkcigkaaGreatDoor
open Go Go.Sx Go.Num Go.Gsp Go.Nsp Go.Msp Go.Rtp
set_option maxRecDepth 20000
set_option linter.unusedSimpArgs false
set_option linter.unusedVariables false
def rE (c f t : Int) : Gsp.Edge := ⟨f, t, c, 1000, ⟨1, 0, 5, 1, 1000⟩⟩
def rG : List Gsp.Edge := [rE 0 0 1, rE 1 1 3, rE 2 0 2, rE 3 2 3]
def rM0 : MF := fun _ => none
def rM1 : MF := (noteR rM0 [rE 0 0 1, rE 1 1 3] 100 50 1).1
def rM2 : MF := (noteR rM1 [rE 2 0 2, rE 3 2 3] 100 50 (-1)).1
def rM3 : MF := (noteR rM2 [rE 2 0 2, rE 3 2 3] 100 50 0).1
theorem sm1 : bestR rG rM0 0 3 100 50 = ([rE 0 0 1, rE 1 1 3], ⟨810900, 1002001⟩, 0) := by decide +kernel
theorem sn1 : (noteR rM0 [rE 0 0 1, rE 1 1 3] 100 50 1).2 = 0 := by decide +kernel
theorem sm2 : bestR rG rM1 0 3 100 50 = ([rE 2 0 2, rE 3 2 3], ⟨810900, 1002001⟩, 0) := by decide +kernel
theorem sn2 : (noteR rM1 [rE 2 0 2, rE 3 2 3] 100 50 (-1)).2 = 0 := by decide +kernel
theorem sm3 : bestR rG rM2 0 3 100 50 = ([rE 2 0 2, rE 3 2 3], ⟨1, 1⟩, 0) := by decide +kernel
theorem sn3 : (noteR rM2 [rE 2 0 2, rE 3 2 3] 100 50 0).2 = 0 := by decide +kernel
theorem sm4 : bestR rG rM3 0 3 100 50 = ([], ⟨0, 0⟩, 19) := by decide +kernel
theorem sm5 : bestR rG rM3 0 0 100 50 = ([], ⟨0, 0⟩, 1) := by decide +kernel
theorem stx1 : textF 810900 1002001 = [56, 49, 48, 57, 48, 48, 47, 49, 48, 48, 50, 48, 48, 49] := by simp [textF, Lib.itoa, Lib.decDigits]
theorem stx2 : textF 1 1 = [49] := by simp [textF, Lib.itoa, Lib.decDigits]
set_option maxHeartbeats 4000000 in
theorem small38_ok (w : World) (hT : Tab w) : Calls Tryz.prog 7 #[] w fun r w' => r = .returned (.bool true) ∧ Le w w' := by
  have hq1 := digs_len_one (d := 810900) (by decide); have hq2 := digs_len_one (d := 1002001) (by decide); have hq3 := digs_len_one (d := 1) (by decide)
  refine enter Tryz.func7 rfl rfl ?_
  have L0 := Le.refl w
  refine WC.seq ?_
  refine WC.region ?_
  refine W.any (.assign rfl) rfl rfl rfl ?_
  refine W.nil ?_
  refine E.thenN ?_
  refine WC.seq ?_
  refine WC.region ?_
  refine W.ef rfl rfl rfl ?_
  refine Ef.call go28 rfl rfl (rledge_ok 0 0 1 w) ?_
  rintro _ w1_0 ⟨rfl, h1_0⟩
  refine ⟨_, rfl, ?_⟩
  have L1 := L0.trans h1_0
  refine W.ef rfl rfl rfl ?_
  refine Ef.call go28 rfl rfl (rledge_ok 1 1 3 w1_0) ?_
  rintro _ w1_1 ⟨rfl, h1_1⟩
  refine ⟨_, rfl, ?_⟩
  have L2 := L1.trans h1_1
  refine W.ef rfl rfl rfl ?_
  refine Ef.call go28 rfl rfl (rledge_ok 2 0 2 w1_1) ?_
  rintro _ w1_2 ⟨rfl, h1_2⟩
  refine ⟨_, rfl, ?_⟩
  have L3 := L2.trans h1_2
  refine W.ef rfl rfl rfl ?_
  refine Ef.call go28 rfl rfl (rledge_ok 3 2 3 w1_2) ?_
  rintro _ w1_3 ⟨rfl, h1_3⟩
  refine ⟨_, rfl, ?_⟩
  have L4 := L3.trans h1_3
  refine W.ef rfl rfl rfl ?_
  refine Ef.buildSliceV (len := 4) [_, _, _, _] Tryz.underlying22 el51 rfl (by simp [Value.cells, edgeV_row.len]) rfl (by decide) (by decide) ?_
  intro g1_4 w1_4 hg1_4 b1_4 h1_4
  have L5 := L4.trans h1_4
  have b1_4 : Blk w1_4 g1_4 51 (([(rE 0 0 1), (rE 1 1 3), (rE 2 0 2), (rE 3 2 3)]).map edgeV).flatten.toArray := b1_4
  have o1_4 : OVec w1_4 w1_3.heap.size 51 edgeV 9 (some ⟨g1_4, 0, none⟩) 4 4 ([(rE 0 0 1), (rE 1 1 3), (rE 2 0 2), (rE 3 2 3)]) := b1_4.ovec hg1_4 edgeV_row rfl rfl (by decide)
  have o6 := o1_4.cast (m' := 4) (ys := rG) (rfl) (rfl)
  refine W.any (.assign rfl) rfl rfl rfl ?_
  refine W.nil ?_
  refine E.thenN ?_
  refine WC.seq ?_
  refine WC.region ?_
  refine W.ef rfl rfl rfl ?_
  refine Ef.call go29 rfl rfl (new_mind w1_4) ?_
  rintro _ w2_0 ⟨gp2_0, F2_0, rfl, p2_0, h2_0⟩
  refine ⟨_, rfl, ?_⟩
  have L7 := L5.trans h2_0
  refine W.any (.assign rfl) rfl rfl rfl ?_
  refine W.nil ?_
  refine E.thenN ?_
  refine WC.seq ?_
  refine WC.seq ?_
  refine WC.region ?_
  refine W.any (.move rfl) rfl rfl rfl ?_
  refine W.any (.dec (.isNilP (by kernel_rfl) rfl) rfl) rfl rfl rfl ?_
  refine W.nil ?_
  refine E.thenN ?_
  refine WC.condF rfl ?_
  refine WC.skip ?_
  refine E.thenN ?_
  refine WC.seq ?_
  refine WC.region ?_
  refine W.any (.move rfl) rfl rfl rfl ?_
  refine W.any (.move rfl) rfl rfl rfl ?_
  have f8 := (o6.le h2_0)
  refine W.ef rfl rfl rfl ?_
  refine Ef.call go11 rfl rfl ((by have k := rbest_ok (c := 4) 0 3 100 50 w2_0 (m := rM0) (g := rG) p2_0 f8.vec (by decide); rw [sm1] at k; exact k)) ?_
  rintro _ w5_2 ⟨Aw5_2, cw5_2, An5_2, cn5_2, Ad5_2, cd5_2, rfl, ow5_2, on5_2, od5_2, h5_2⟩
  refine ⟨_, rfl, ?_⟩
  have L9 := L7.trans h5_2
  have ow5_2 := ow5_2.cast (m' := 2) rfl rfl
  refine W.any (.move rfl) rfl rfl rfl ?_
  refine W.any (.extract (v := .slice Aw5_2 2 cw5_2) rfl rfl) rfl rfl rfl ?_
  refine W.any (.extract (v := .agg #[.slice An5_2 ((digs 810900).length) cn5_2, .slice Ad5_2 ((digs 1002001).length) cd5_2]) rfl rfl) rfl rfl rfl ?_
  refine W.any (.extract (v := .int .i64 (0)) rfl rfl) rfl rfl rfl ?_
  refine W.ef rfl rfl rfl ?_
  refine Ef.allocA z33 ?_
  intro g5_7 w5_7 hg5_7 b5_7 h5_7
  have L10 := L9.trans h5_7
  have b5_7 : Blk w5_7 g5_7 33 #[.slice none 0 0, .slice none 0 0] := b5_7
  refine W.any (.assign rfl) rfl rfl rfl ?_
  refine W.ef0 rfl rfl ?_
  refine Ef.storeAll sz33 (by rfl) rfl rfl b5_7 (by rfl) (by simp [Value.oneCell']) ?_
  intro w5_9 b5_9 h5_9
  have b5_9 : Blk w5_9 g5_7 33 #[.slice An5_2 ((digs 810900).length) cn5_2, .slice Ad5_2 ((digs 1002001).length) cd5_2] := b5_9
  have L11 : Le w w5_9 := L10.then_ h5_9 (fun q hq => by cases hq; exact Nat.le_trans L9.size hg5_7)
  refine W.any (.assign rfl) rfl rfl rfl ?_
  refine W.nil ?_
  refine E.thenN ?_
  refine WC.seq ?_
  refine WC.region ?_
  refine W.any (.move rfl) rfl rfl rfl ?_
  refine W.any (.move rfl) rfl rfl rfl ?_
  have f12 := ((p2_0.le (h5_2.trans h5_7)).ch h5_9 (fun q hqq hF => by cases hqq; have := p2_0.lt hF; have := h5_2.size; have := hg5_7; omega))
  have f13 := ((ow5_2.le h5_7).ch h5_9 (fun q hq => by cases hq; exact (fun he => by have := (ow5_2.row he).2; omega)))
  have hva6_2 := apart_vec f13 (show ∀ g, rowOf Aw5_2 cw5_2 = some g → ¬ F2_0 g from (fun g hg hF => by have := p2_0.lt hF;  have := (f13.row hg).1; omega))
  refine W.ef rfl rfl rfl ?_
  refine Ef.call go18 rfl rfl ((by have k := rnote_ok (m := rM0) (c := cw5_2) 100 50 1 w5_9 f12 f13.vec (by decide) hva6_2; rw [sn1] at k; exact k)) ?_
  rintro _ w6_2 ⟨rfl, p6_2, g6_2, h6_2⟩
  refine ⟨_, rfl, ?_⟩
  have L14 := L11.chP_then h6_2 (fun i hi => Nat.le_trans L5.size (f12.old hi))
  have f15 := ((f8.le (h5_2.trans h5_7)).ch h5_9 (fun q hq => by cases hq; exact (fun he => by have := (f8.row he).2; have := h5_2.size; omega)))
  have f16 := ((on5_2.le h5_7).ch h5_9 (fun q hq => by cases hq; exact (fun he => by have := (on5_2.row he).2; omega)))
  have f17 := ((od5_2.le h5_7).ch h5_9 (fun q hq => by cases hq; exact (fun he => by have := (od5_2.row he).2; omega)))
  have zq18n := (show ∀ g, rowOf (some ⟨g1_4, 0, none⟩) 4 = some g → ¬ F2_0 g from (fun g hg hF => by have := f12.old hF;  have := (o1_4.row hg).2; omega))
  have zq18 := f15.chP h6_2 zq18n
  have zq18g : ∀ g, rowOf (some ⟨g1_4, 0, none⟩) 4 = some g → ¬ F2_0 g := fun g hg hF => (g6_2 _ hF).elim (zq18n g hg) (fun hz => by have := (f15.row hg).2; omega)
  have zq19n := (show ∀ g, rowOf Aw5_2 cw5_2 = some g → ¬ F2_0 g from (fun g hg hF => by have := p2_0.lt hF;  have := (f13.row hg).1; omega))
  have zq19 := f13.chP h6_2 zq19n
  have zq19g : ∀ g, rowOf Aw5_2 cw5_2 = some g → ¬ F2_0 g := fun g hg hF => (g6_2 _ hF).elim (zq19n g hg) (fun hz => by have := (f13.row hg).2; omega)
  have zq20n := (show ∀ g, rowOf An5_2 cn5_2 = some g → ¬ F2_0 g from (fun g hg hF => by have := p2_0.lt hF;  have := (f16.row hg).1; omega))
  have zq20 := f16.chP h6_2 zq20n
  have zq20g : ∀ g, rowOf An5_2 cn5_2 = some g → ¬ F2_0 g := fun g hg hF => (g6_2 _ hF).elim (zq20n g hg) (fun hz => by have := (f16.row hg).2; omega)
  have zq21n := (show ∀ g, rowOf Ad5_2 cd5_2 = some g → ¬ F2_0 g from (fun g hg hF => by have := p2_0.lt hF;  have := (f17.row hg).1; omega))
  have zq21 := f17.chP h6_2 zq21n
  have zq21g : ∀ g, rowOf Ad5_2 cd5_2 = some g → ¬ F2_0 g := fun g hg hF => (g6_2 _ hF).elim (zq21n g hg) (fun hz => by have := (f17.row hg).2; omega)
  have zq22n := (show ¬ F2_0 g5_7 from (fun hF => by have := p2_0.lt hF; have := h5_2.size; have := hg5_7; omega))
  have zq22 := b5_9.chP h6_2 zq22n
  have zq22g : ¬ F2_0 g5_7 := fun hF => (g6_2 _ hF).elim zq22n (fun hz => by have := b5_9.lt; omega)
  refine W.any (.assign rfl) rfl rfl rfl ?_
  refine W.nil ?_
  refine E.thenN ?_
  refine WC.seq ?_
  refine WC.region ?_
  refine W.any (.move rfl) rfl rfl rfl ?_
  refine W.any (.move rfl) rfl rfl rfl ?_
  refine W.ef rfl rfl rfl ?_
  refine Ef.call go11 rfl rfl ((by have k := rbest_ok (c := 4) 0 3 100 50 w6_2 (m := rM1) (g := rG) p6_2 zq18.vec (by decide); rw [sm2] at k; exact k)) ?_
  rintro _ w7_2 ⟨Aw7_2, cw7_2, An7_2, cn7_2, Ad7_2, cd7_2, rfl, ow7_2, on7_2, od7_2, h7_2⟩
  refine ⟨_, rfl, ?_⟩
  have L23 := L14.trans h7_2
  have ow7_2 := ow7_2.cast (m' := 2) rfl rfl
  refine W.any (.move rfl) rfl rfl rfl ?_
  refine W.any (.extract (v := .slice Aw7_2 2 cw7_2) rfl rfl) rfl rfl rfl ?_
  refine W.any (.extract (v := .agg #[.slice An7_2 ((digs 810900).length) cn7_2, .slice Ad7_2 ((digs 1002001).length) cd7_2]) rfl rfl) rfl rfl rfl ?_
  refine W.any (.extract (v := .int .i64 (0)) rfl rfl) rfl rfl rfl ?_
  refine W.ef rfl rfl rfl ?_
  refine Ef.allocA z33 ?_
  intro g7_7 w7_7 hg7_7 b7_7 h7_7
  have L24 := L23.trans h7_7
  have b7_7 : Blk w7_7 g7_7 33 #[.slice none 0 0, .slice none 0 0] := b7_7
  refine W.any (.assign rfl) rfl rfl rfl ?_
  refine W.ef0 rfl rfl ?_
  refine Ef.storeAll sz33 (by rfl) rfl rfl b7_7 (by rfl) (by simp [Value.oneCell']) ?_
  intro w7_9 b7_9 h7_9
  have b7_9 : Blk w7_9 g7_7 33 #[.slice An7_2 ((digs 810900).length) cn7_2, .slice Ad7_2 ((digs 1002001).length) cd7_2] := b7_9
  have L25 : Le w w7_9 := L24.then_ h7_9 (fun q hq => by cases hq; exact Nat.le_trans L23.size hg7_7)
  refine W.any (.assign rfl) rfl rfl rfl ?_
  refine W.nil ?_
  refine E.thenN ?_
  refine WC.seq ?_
  refine WC.region ?_
  refine W.any (.move rfl) rfl rfl rfl ?_
  refine W.any (.move rfl) rfl rfl rfl ?_
  have f26 := ((p6_2.le (h7_2.trans h7_7)).ch h7_9 (fun q hqq hF => by cases hqq; have := p6_2.lt hF; have := h7_2.size; have := hg7_7; omega))
  have f27 := ((ow7_2.le h7_7).ch h7_9 (fun q hq => by cases hq; exact (fun he => by have := (ow7_2.row he).2; omega)))
  have hva8_2 := apart_vec f27 (show ∀ g, rowOf Aw7_2 cw7_2 = some g → ¬ F2_0 g from (fun g hg hF => by have := p6_2.lt hF;  have := (f27.row hg).1; omega))
  refine W.ef rfl rfl rfl ?_
  refine Ef.call go18 rfl rfl ((by have k := rnote_ok (m := rM1) (c := cw7_2) 100 50 (-1) w7_9 f26 f27.vec (by decide) hva8_2; rw [sn2] at k; exact k)) ?_
  rintro _ w8_2 ⟨rfl, p8_2, g8_2, h8_2⟩
  refine ⟨_, rfl, ?_⟩
  have L28 := L25.chP_then h8_2 (fun i hi => Nat.le_trans L5.size (f26.old hi))
  have f29 := ((zq18.le (h7_2.trans h7_7)).ch h7_9 (fun q hq => by cases hq; exact (fun he => by have := (zq18.row he).2; have := h7_2.size; omega)))
  have f30 := ((zq19.le (h7_2.trans h7_7)).ch h7_9 (fun q hq => by cases hq; exact (fun he => by have := (zq19.row he).2; have := h7_2.size; omega)))
  have f31 := ((zq20.le (h7_2.trans h7_7)).ch h7_9 (fun q hq => by cases hq; exact (fun he => by have := (zq20.row he).2; have := h7_2.size; omega)))
  have f32 := ((zq21.le (h7_2.trans h7_7)).ch h7_9 (fun q hq => by cases hq; exact (fun he => by have := (zq21.row he).2; have := h7_2.size; omega)))
  have f33 := ((zq22.le (h7_2.trans h7_7)).ch h7_9 (fun h => (show g7_7 ≠ g5_7 from by have := zq22.lt; have := h7_2.size; omega) (Option.some.inj h)))
  have f34 := ((on7_2.le h7_7).ch h7_9 (fun q hq => by cases hq; exact (fun he => by have := (on7_2.row he).2; omega)))
  have f35 := ((od7_2.le h7_7).ch h7_9 (fun q hq => by cases hq; exact (fun he => by have := (od7_2.row he).2; omega)))
  have zq36n := (show ∀ g, rowOf (some ⟨g1_4, 0, none⟩) 4 = some g → ¬ F2_0 g from zq18g)
  have zq36 := f29.chP h8_2 zq36n
  have zq36g : ∀ g, rowOf (some ⟨g1_4, 0, none⟩) 4 = some g → ¬ F2_0 g := fun g hg hF => (g8_2 _ hF).elim (zq36n g hg) (fun hz => by have := (f29.row hg).2; omega)
  have zq37n := (show ∀ g, rowOf Aw5_2 cw5_2 = some g → ¬ F2_0 g from zq19g)
  have zq37 := f30.chP h8_2 zq37n
  have zq37g : ∀ g, rowOf Aw5_2 cw5_2 = some g → ¬ F2_0 g := fun g hg hF => (g8_2 _ hF).elim (zq37n g hg) (fun hz => by have := (f30.row hg).2; omega)
  have zq38n := (show ∀ g, rowOf An5_2 cn5_2 = some g → ¬ F2_0 g from zq20g)
  have zq38 := f31.chP h8_2 zq38n
  have zq38g : ∀ g, rowOf An5_2 cn5_2 = some g → ¬ F2_0 g := fun g hg hF => (g8_2 _ hF).elim (zq38n g hg) (fun hz => by have := (f31.row hg).2; omega)
  have zq39n := (show ∀ g, rowOf Ad5_2 cd5_2 = some g → ¬ F2_0 g from zq21g)
  have zq39 := f32.chP h8_2 zq39n
  have zq39g : ∀ g, rowOf Ad5_2 cd5_2 = some g → ¬ F2_0 g := fun g hg hF => (g8_2 _ hF).elim (zq39n g hg) (fun hz => by have := (f32.row hg).2; omega)
  have zq40n := (show ¬ F2_0 g5_7 from zq22g)
  have zq40 := f33.chP h8_2 zq40n
  have zq40g : ¬ F2_0 g5_7 := fun hF => (g8_2 _ hF).elim zq40n (fun hz => by have := f33.lt; omega)
  have zq41n := (show ∀ g, rowOf Aw7_2 cw7_2 = some g → ¬ F2_0 g from (fun g hg hF => by have := p6_2.lt hF;  have := (f27.row hg).1; omega))
  have zq41 := f27.chP h8_2 zq41n
  have zq41g : ∀ g, rowOf Aw7_2 cw7_2 = some g → ¬ F2_0 g := fun g hg hF => (g8_2 _ hF).elim (zq41n g hg) (fun hz => by have := (f27.row hg).2; omega)
  have zq42n := (show ∀ g, rowOf An7_2 cn7_2 = some g → ¬ F2_0 g from (fun g hg hF => by have := p6_2.lt hF;  have := (f34.row hg).1; omega))
  have zq42 := f34.chP h8_2 zq42n
  have zq42g : ∀ g, rowOf An7_2 cn7_2 = some g → ¬ F2_0 g := fun g hg hF => (g8_2 _ hF).elim (zq42n g hg) (fun hz => by have := (f34.row hg).2; omega)
  have zq43n := (show ∀ g, rowOf Ad7_2 cd7_2 = some g → ¬ F2_0 g from (fun g hg hF => by have := p6_2.lt hF;  have := (f35.row hg).1; omega))
  have zq43 := f35.chP h8_2 zq43n
  have zq43g : ∀ g, rowOf Ad7_2 cd7_2 = some g → ¬ F2_0 g := fun g hg hF => (g8_2 _ hF).elim (zq43n g hg) (fun hz => by have := (f35.row hg).2; omega)
  have zq44n := (show ¬ F2_0 g7_7 from (fun hF => by have := p6_2.lt hF; have := h7_2.size; have := hg7_7; omega))
  have zq44 := b7_9.chP h8_2 zq44n
  have zq44g : ¬ F2_0 g7_7 := fun hF => (g8_2 _ hF).elim zq44n (fun hz => by have := b7_9.lt; omega)
  refine W.any (.assign rfl) rfl rfl rfl ?_
  refine W.nil ?_
  refine E.thenN ?_
  refine WC.seq ?_
  refine WC.region ?_
  refine W.any (.move rfl) rfl rfl rfl ?_
  refine W.any (.move rfl) rfl rfl rfl ?_
  refine W.ef rfl rfl rfl ?_
  refine Ef.call go11 rfl rfl ((by have k := rbest_ok (c := 4) 0 3 100 50 w8_2 (m := rM2) (g := rG) p8_2 zq36.vec (by decide); rw [sm3] at k; exact k)) ?_
  rintro _ w9_2 ⟨Aw9_2, cw9_2, An9_2, cn9_2, Ad9_2, cd9_2, rfl, ow9_2, on9_2, od9_2, h9_2⟩
  refine ⟨_, rfl, ?_⟩
  have L45 := L28.trans h9_2
  have ow9_2 := ow9_2.cast (m' := 2) rfl rfl
  refine W.any (.move rfl) rfl rfl rfl ?_
  refine W.any (.extract (v := .slice Aw9_2 2 cw9_2) rfl rfl) rfl rfl rfl ?_
  refine W.any (.extract (v := .agg #[.slice An9_2 ((digs 1).length) cn9_2, .slice Ad9_2 ((digs 1).length) cd9_2]) rfl rfl) rfl rfl rfl ?_
  refine W.any (.extract (v := .int .i64 (0)) rfl rfl) rfl rfl rfl ?_
  refine W.ef rfl rfl rfl ?_
  refine Ef.allocA z33 ?_
  intro g9_7 w9_7 hg9_7 b9_7 h9_7
  have L46 := L45.trans h9_7
  have b9_7 : Blk w9_7 g9_7 33 #[.slice none 0 0, .slice none 0 0] := b9_7
  refine W.any (.assign rfl) rfl rfl rfl ?_
  refine W.ef0 rfl rfl ?_
  refine Ef.storeAll sz33 (by rfl) rfl rfl b9_7 (by rfl) (by simp [Value.oneCell']) ?_
  intro w9_9 b9_9 h9_9
  have b9_9 : Blk w9_9 g9_7 33 #[.slice An9_2 ((digs 1).length) cn9_2, .slice Ad9_2 ((digs 1).length) cd9_2] := b9_9
  have L47 : Le w w9_9 := L46.then_ h9_9 (fun q hq => by cases hq; exact Nat.le_trans L45.size hg9_7)
  refine W.any (.assign rfl) rfl rfl rfl ?_
  refine W.nil ?_
  refine E.thenN ?_
  refine WC.seq ?_
  refine WC.region ?_
  refine W.any (.move rfl) rfl rfl rfl ?_
  refine W.any (.move rfl) rfl rfl rfl ?_
  have f48 := ((p8_2.le (h9_2.trans h9_7)).ch h9_9 (fun q hqq hF => by cases hqq; have := p8_2.lt hF; have := h9_2.size; have := hg9_7; omega))
  have f49 := ((ow9_2.le h9_7).ch h9_9 (fun q hq => by cases hq; exact (fun he => by have := (ow9_2.row he).2; omega)))
  have hva10_2 := apart_vec f49 (show ∀ g, rowOf Aw9_2 cw9_2 = some g → ¬ F2_0 g from (fun g hg hF => by have := p8_2.lt hF;  have := (f49.row hg).1; omega))
  refine W.ef rfl rfl rfl ?_
  refine Ef.call go18 rfl rfl ((by have k := rnote_ok (m := rM2) (c := cw9_2) 100 50 0 w9_9 f48 f49.vec (by decide) hva10_2; rw [sn3] at k; exact k)) ?_
  rintro _ w10_2 ⟨rfl, p10_2, g10_2, h10_2⟩
  refine ⟨_, rfl, ?_⟩
  have L50 := L47.chP_then h10_2 (fun i hi => Nat.le_trans L5.size (f48.old hi))
  have f51 := ((zq36.le (h9_2.trans h9_7)).ch h9_9 (fun q hq => by cases hq; exact (fun he => by have := (zq36.row he).2; have := h9_2.size; omega)))
  have f52 := ((zq37.le (h9_2.trans h9_7)).ch h9_9 (fun q hq => by cases hq; exact (fun he => by have := (zq37.row he).2; have := h9_2.size; omega)))
  have f53 := ((zq38.le (h9_2.trans h9_7)).ch h9_9 (fun q hq => by cases hq; exact (fun he => by have := (zq38.row he).2; have := h9_2.size; omega)))
  have f54 := ((zq39.le (h9_2.trans h9_7)).ch h9_9 (fun q hq => by cases hq; exact (fun he => by have := (zq39.row he).2; have := h9_2.size; omega)))
  have f55 := ((zq40.le (h9_2.trans h9_7)).ch h9_9 (fun h => (show g9_7 ≠ g5_7 from by have := zq40.lt; have := h9_2.size; omega) (Option.some.inj h)))
  have f56 := ((zq41.le (h9_2.trans h9_7)).ch h9_9 (fun q hq => by cases hq; exact (fun he => by have := (zq41.row he).2; have := h9_2.size; omega)))
  have f57 := ((zq42.le (h9_2.trans h9_7)).ch h9_9 (fun q hq => by cases hq; exact (fun he => by have := (zq42.row he).2; have := h9_2.size; omega)))
  have f58 := ((zq43.le (h9_2.trans h9_7)).ch h9_9 (fun q hq => by cases hq; exact (fun he => by have := (zq43.row he).2; have := h9_2.size; omega)))
  have f59 := ((zq44.le (h9_2.trans h9_7)).ch h9_9 (fun h => (show g9_7 ≠ g7_7 from by have := zq44.lt; have := h9_2.size; omega) (Option.some.inj h)))
  have f60 := ((on9_2.le h9_7).ch h9_9 (fun q hq => by cases hq; exact (fun he => by have := (on9_2.row he).2; omega)))
  have f61 := ((od9_2.le h9_7).ch h9_9 (fun q hq => by cases hq; exact (fun he => by have := (od9_2.row he).2; omega)))
  have zq62n := (show ∀ g, rowOf (some ⟨g1_4, 0, none⟩) 4 = some g → ¬ F2_0 g from zq36g)
  have zq62 := f51.chP h10_2 zq62n
  have zq62g : ∀ g, rowOf (some ⟨g1_4, 0, none⟩) 4 = some g → ¬ F2_0 g := fun g hg hF => (g10_2 _ hF).elim (zq62n g hg) (fun hz => by have := (f51.row hg).2; omega)
  have zq63n := (show ∀ g, rowOf Aw5_2 cw5_2 = some g → ¬ F2_0 g from zq37g)
  have zq63 := f52.chP h10_2 zq63n
  have zq63g : ∀ g, rowOf Aw5_2 cw5_2 = some g → ¬ F2_0 g := fun g hg hF => (g10_2 _ hF).elim (zq63n g hg) (fun hz => by have := (f52.row hg).2; omega)
  have zq64n := (show ∀ g, rowOf An5_2 cn5_2 = some g → ¬ F2_0 g from zq38g)
  have zq64 := f53.chP h10_2 zq64n
  have zq64g : ∀ g, rowOf An5_2 cn5_2 = some g → ¬ F2_0 g := fun g hg hF => (g10_2 _ hF).elim (zq64n g hg) (fun hz => by have := (f53.row hg).2; omega)
  have zq65n := (show ∀ g, rowOf Ad5_2 cd5_2 = some g → ¬ F2_0 g from zq39g)
  have zq65 := f54.chP h10_2 zq65n
  have zq65g : ∀ g, rowOf Ad5_2 cd5_2 = some g → ¬ F2_0 g := fun g hg hF => (g10_2 _ hF).elim (zq65n g hg) (fun hz => by have := (f54.row hg).2; omega)
  have zq66n := (show ¬ F2_0 g5_7 from zq40g)
  have zq66 := f55.chP h10_2 zq66n
  have zq66g : ¬ F2_0 g5_7 := fun hF => (g10_2 _ hF).elim zq66n (fun hz => by have := f55.lt; omega)
  have zq67n := (show ∀ g, rowOf Aw7_2 cw7_2 = some g → ¬ F2_0 g from zq41g)
  have zq67 := f56.chP h10_2 zq67n
  have zq67g : ∀ g, rowOf Aw7_2 cw7_2 = some g → ¬ F2_0 g := fun g hg hF => (g10_2 _ hF).elim (zq67n g hg) (fun hz => by have := (f56.row hg).2; omega)
  have zq68n := (show ∀ g, rowOf An7_2 cn7_2 = some g → ¬ F2_0 g from zq42g)
  have zq68 := f57.chP h10_2 zq68n
  have zq68g : ∀ g, rowOf An7_2 cn7_2 = some g → ¬ F2_0 g := fun g hg hF => (g10_2 _ hF).elim (zq68n g hg) (fun hz => by have := (f57.row hg).2; omega)
  have zq69n := (show ∀ g, rowOf Ad7_2 cd7_2 = some g → ¬ F2_0 g from zq43g)
  have zq69 := f58.chP h10_2 zq69n
  have zq69g : ∀ g, rowOf Ad7_2 cd7_2 = some g → ¬ F2_0 g := fun g hg hF => (g10_2 _ hF).elim (zq69n g hg) (fun hz => by have := (f58.row hg).2; omega)
  have zq70n := (show ¬ F2_0 g7_7 from zq44g)
  have zq70 := f59.chP h10_2 zq70n
  have zq70g : ¬ F2_0 g7_7 := fun hF => (g10_2 _ hF).elim zq70n (fun hz => by have := f59.lt; omega)
  have zq71n := (show ∀ g, rowOf Aw9_2 cw9_2 = some g → ¬ F2_0 g from (fun g hg hF => by have := p8_2.lt hF;  have := (f49.row hg).1; omega))
  have zq71 := f49.chP h10_2 zq71n
  have zq71g : ∀ g, rowOf Aw9_2 cw9_2 = some g → ¬ F2_0 g := fun g hg hF => (g10_2 _ hF).elim (zq71n g hg) (fun hz => by have := (f49.row hg).2; omega)
  have zq72n := (show ∀ g, rowOf An9_2 cn9_2 = some g → ¬ F2_0 g from (fun g hg hF => by have := p8_2.lt hF;  have := (f60.row hg).1; omega))
  have zq72 := f60.chP h10_2 zq72n
  have zq72g : ∀ g, rowOf An9_2 cn9_2 = some g → ¬ F2_0 g := fun g hg hF => (g10_2 _ hF).elim (zq72n g hg) (fun hz => by have := (f60.row hg).2; omega)
  have zq73n := (show ∀ g, rowOf Ad9_2 cd9_2 = some g → ¬ F2_0 g from (fun g hg hF => by have := p8_2.lt hF;  have := (f61.row hg).1; omega))
  have zq73 := f61.chP h10_2 zq73n
  have zq73g : ∀ g, rowOf Ad9_2 cd9_2 = some g → ¬ F2_0 g := fun g hg hF => (g10_2 _ hF).elim (zq73n g hg) (fun hz => by have := (f61.row hg).2; omega)
  have zq74n := (show ¬ F2_0 g9_7 from (fun hF => by have := p8_2.lt hF; have := h9_2.size; have := hg9_7; omega))
  have zq74 := b9_9.chP h10_2 zq74n
  have zq74g : ¬ F2_0 g9_7 := fun hF => (g10_2 _ hF).elim zq74n (fun hz => by have := b9_9.lt; omega)
  refine W.any (.assign rfl) rfl rfl rfl ?_
  refine W.nil ?_
  refine E.thenN ?_
  refine WC.seq ?_
  refine WC.region ?_
  refine W.any (.move rfl) rfl rfl rfl ?_
  refine W.any (.move rfl) rfl rfl rfl ?_
  refine W.ef rfl rfl rfl ?_
  refine Ef.call go11 rfl rfl ((by have k := rbest_ok (c := 4) 0 3 100 50 w10_2 (m := rM3) (g := rG) p10_2 zq62.vec (by decide); rw [sm4] at k; exact k)) ?_
  rintro _ w11_2 ⟨Aw11_2, cw11_2, An11_2, cn11_2, Ad11_2, cd11_2, rfl, ow11_2, on11_2, od11_2, h11_2⟩
  refine ⟨_, rfl, ?_⟩
  have L75 := L50.trans h11_2
  have ow11_2 := ow11_2.cast (m' := 0) rfl rfl
  refine W.any (.move rfl) rfl rfl rfl ?_
  refine W.any (.extract (v := .slice Aw11_2 0 cw11_2) rfl rfl) rfl rfl rfl ?_
  refine W.any (.extract (v := .agg #[.slice An11_2 ((digs 0).length) cn11_2, .slice Ad11_2 ((digs 0).length) cd11_2]) rfl rfl) rfl rfl rfl ?_
  refine W.any (.extract (v := .int .i64 (19)) rfl rfl) rfl rfl rfl ?_
  refine W.ef rfl rfl rfl ?_
  refine Ef.allocA z33 ?_
  intro g11_7 w11_7 hg11_7 b11_7 h11_7
  have L76 := L75.trans h11_7
  have b11_7 : Blk w11_7 g11_7 33 #[.slice none 0 0, .slice none 0 0] := b11_7
  refine W.any (.assign rfl) rfl rfl rfl ?_
  refine W.ef0 rfl rfl ?_
  refine Ef.storeAll sz33 (by rfl) rfl rfl b11_7 (by rfl) (by simp [Value.oneCell']) ?_
  intro w11_9 b11_9 h11_9
  have b11_9 : Blk w11_9 g11_7 33 #[.slice An11_2 ((digs 0).length) cn11_2, .slice Ad11_2 ((digs 0).length) cd11_2] := b11_9
  have L77 : Le w w11_9 := L76.then_ h11_9 (fun q hq => by cases hq; exact Nat.le_trans L75.size hg11_7)
  refine W.any (.assign rfl) rfl rfl rfl ?_
  refine W.nil ?_
  refine E.thenN ?_
  refine WC.seq ?_
  refine WC.region ?_
  refine W.any (.move rfl) rfl rfl rfl ?_
  refine W.any (.move rfl) rfl rfl rfl ?_
  have f78 := ((p10_2.le (h11_2.trans h11_7)).ch h11_9 (fun q hqq hF => by cases hqq; have := p10_2.lt hF; have := h11_2.size; have := hg11_7; omega))
  have f79 := ((zq62.le (h11_2.trans h11_7)).ch h11_9 (fun q hq => by cases hq; exact (fun he => by have := (zq62.row he).2; have := h11_2.size; omega)))
  refine W.ef rfl rfl rfl ?_
  refine Ef.call go11 rfl rfl ((by have k := rbest_ok (c := 4) 0 0 100 50 w11_9 (m := rM3) (g := rG) f78 f79.vec (by decide); rw [sm5] at k; exact k)) ?_
  rintro _ w12_2 ⟨Aw12_2, cw12_2, An12_2, cn12_2, Ad12_2, cd12_2, rfl, ow12_2, on12_2, od12_2, h12_2⟩
  refine ⟨_, rfl, ?_⟩
  have L80 := L77.trans h12_2
  have ow12_2 := ow12_2.cast (m' := 0) rfl rfl
  refine W.any (.move rfl) rfl rfl rfl ?_
  refine W.any (.extract (v := .slice Aw12_2 0 cw12_2) rfl rfl) rfl rfl rfl ?_
  refine W.any (.extract (v := .agg #[.slice An12_2 ((digs 0).length) cn12_2, .slice Ad12_2 ((digs 0).length) cd12_2]) rfl rfl) rfl rfl rfl ?_
  refine W.any (.extract (v := .int .i64 (1)) rfl rfl) rfl rfl rfl ?_
  refine W.ef rfl rfl rfl ?_
  refine Ef.allocA z33 ?_
  intro g12_7 w12_7 hg12_7 b12_7 h12_7
  have L81 := L80.trans h12_7
  have b12_7 : Blk w12_7 g12_7 33 #[.slice none 0 0, .slice none 0 0] := b12_7
  refine W.any (.assign rfl) rfl rfl rfl ?_
  refine W.ef0 rfl rfl ?_
  refine Ef.storeAll sz33 (by rfl) rfl rfl b12_7 (by rfl) (by simp [Value.oneCell']) ?_
  intro w12_9 b12_9 h12_9
  have b12_9 : Blk w12_9 g12_7 33 #[.slice An12_2 ((digs 0).length) cn12_2, .slice Ad12_2 ((digs 0).length) cd12_2] := b12_9
  have L82 : Le w w12_9 := L81.then_ h12_9 (fun q hq => by cases hq; exact Nat.le_trans L80.size hg12_7)
  refine W.any (.assign rfl) rfl rfl rfl ?_
  refine W.nil ?_
  refine E.thenN ?_
  refine WC.seq ?_
  refine WC.region ?_
  refine W.any (.move rfl) rfl rfl rfl ?_
  refine W.any (.dec (.eql rfl rfl) (show _ = true from by first | decide | rfl)) rfl rfl rfl ?_
  refine W.any (.move rfl) rfl rfl rfl ?_
  refine W.rdg (Any.rd (.move rfl) _) rfl rfl rfl (rfl) rfl rfl ?_
  refine W.rdg (.len Tryz.underlying22 rfl) rfl rfl rfl (rfl) rfl rfl ?_
  refine W.rdg (Any.rd (.dec (.eql rfl rfl) (show _ = true from by first | decide | rfl)) _) rfl rfl rfl (rfl) rfl rfl ?_
  refine W.any (.pickT rfl rfl rfl) rfl rfl rfl ?_
  refine W.any (.move rfl) rfl rfl rfl ?_
  refine W.rdg (Any.rd (.move rfl) _) rfl rfl rfl (rfl) rfl rfl ?_
  refine W.rdg (Any.rd (.idxS (0) Tryz.underlying22 sz51 rfl rfl (ow5_2.vec.isSome edgeV_row (by omega)) (rfl) (by omega)) _) rfl rfl rfl (rfl) rfl rfl ?_
  refine W.rdg (Any.rd (.vfield fa51_2 (ow5_2.vec.isSome edgeV_row (by omega)) rfl) _) rfl rfl rfl (rfl) rfl rfl ?_
  have f83 := ((((zq63.le (h11_2.trans h11_7)).ch h11_9 (fun q hq => by cases hq; exact (fun he => by have := (zq63.row he).2; have := h11_2.size; omega))).le (h12_2.trans h12_7)).ch h12_9 (fun q hq => by cases hq; exact (fun he => by have := (zq63.row he).2; have := h11_2.size; have := h11_7.size; have := h11_9.size; have := h12_2.size; omega)))
  refine W.rdg (.vcell (j := 0) (o := 2) (v := .int .i64 ((([rE 0 0 1, rE 1 1 3]).getD 0 noEdge).c)) na3 rfl f83.vec edgeV_row (getS ([rE 0 0 1, rE 1 1 3]) noEdge (by first | omega | (simp only [List.length_cons, List.length_nil]; omega))) rfl) rfl rfl rfl (rfl) rfl rfl ?_
  refine W.rdg (Any.rd (.dec (.eql rfl rfl) (decide_eq_true rfl)) _) rfl rfl rfl (rfl) rfl rfl ?_
  refine W.any (.pickT rfl rfl rfl) rfl rfl rfl ?_
  refine W.any (.move rfl) rfl rfl rfl ?_
  have f84 := ((((zq66.le (h11_2.trans h11_7)).ch h11_9 (fun h => (show g11_7 ≠ g5_7 from by have := zq66.lt; have := h11_2.size; omega) (Option.some.inj h))).le (h12_2.trans h12_7)).ch h12_9 (fun h => (show g12_7 ≠ g5_7 from by have := zq66.lt; have := h11_2.size; have := h11_7.size; have := h11_9.size; have := h12_2.size; omega) (Option.some.inj h)))
  refine W.rdg (.loadAll ag33 (by rfl) rfl f84) rfl rfl rfl (rfl) rfl rfl ?_
  have f85 := ((((zq64.le (h11_2.trans h11_7)).ch h11_9 (fun q hq => by cases hq; exact (fun he => by have := (zq64.row he).2; have := h11_2.size; omega))).le (h12_2.trans h12_7)).ch h12_9 (fun q hq => by cases hq; exact (fun he => by have := (zq64.row he).2; have := h11_2.size; have := h11_7.size; have := h11_9.size; have := h12_2.size; omega)))
  have f86 := ((((zq65.le (h11_2.trans h11_7)).ch h11_9 (fun q hq => by cases hq; exact (fun he => by have := (zq65.row he).2; have := h11_2.size; omega))).le (h12_2.trans h12_7)).ch h12_9 (fun q hq => by cases hq; exact (fun he => by have := (zq65.row he).2; have := h11_2.size; have := h11_7.size; have := h11_9.size; have := h12_2.size; omega)))
  refine W.efg rfl rfl rfl (rfl) rfl rfl ?_
  refine Ef.call go30 rfl rfl (ftext_ok w12_9 (hT.le L82) f85.vec f86.vec (by omega) (by omega) (by decide +kernel) (by decide) (by decide)) ?_
  rintro _ w13_16 ⟨rfl, h13_16⟩
  refine ⟨_, rfl, ?_⟩
  have L87 := L82.trans h13_16
  refine W.rdg (Any.rd (.eqlYes (a := textF 810900 1002001) (b := ([56, 49, 48, 57, 48, 48, 47, 49, 48, 48, 50, 48, 48, 49] : List UInt8)) rfl rfl (stx1)) _) rfl rfl rfl (rfl) rfl rfl ?_
  refine W.any (.pickT rfl rfl rfl) rfl rfl rfl ?_
  refine W.any (.move rfl) rfl rfl rfl ?_
  refine W.rdg (Any.rd (.move rfl) _) rfl rfl rfl (rfl) rfl rfl ?_
  refine W.rdg (Any.rd (.dec (.eql rfl rfl) (show _ = true from by first | decide | rfl)) _) rfl rfl rfl (rfl) rfl rfl ?_
  refine W.any (.pickT rfl rfl rfl) rfl rfl rfl ?_
  refine W.any (.move rfl) rfl rfl rfl ?_
  refine W.rdg (Any.rd (.move rfl) _) rfl rfl rfl (rfl) rfl rfl ?_
  refine W.rdg (Any.rd (.dec (.eql rfl rfl) (show _ = true from by first | decide | rfl)) _) rfl rfl rfl (rfl) rfl rfl ?_
  refine W.any (.pickT rfl rfl rfl) rfl rfl rfl ?_
  refine W.any (.move rfl) rfl rfl rfl ?_
  refine W.rdg (Any.rd (.move rfl) _) rfl rfl rfl (rfl) rfl rfl ?_
  refine W.rdg (.len Tryz.underlying22 rfl) rfl rfl rfl (rfl) rfl rfl ?_
  refine W.rdg (Any.rd (.dec (.eql rfl rfl) (show _ = true from by first | decide | rfl)) _) rfl rfl rfl (rfl) rfl rfl ?_
  refine W.any (.pickT rfl rfl rfl) rfl rfl rfl ?_
  refine W.any (.move rfl) rfl rfl rfl ?_
  refine W.rdg (Any.rd (.move rfl) _) rfl rfl rfl (rfl) rfl rfl ?_
  refine W.rdg (Any.rd (.idxS (0) Tryz.underlying22 sz51 rfl rfl (ow7_2.vec.isSome edgeV_row (by omega)) (rfl) (by omega)) _) rfl rfl rfl (rfl) rfl rfl ?_
  refine W.rdg (Any.rd (.vfield fa51_2 (ow7_2.vec.isSome edgeV_row (by omega)) rfl) _) rfl rfl rfl (rfl) rfl rfl ?_
  have f88 := (((((zq67.le (h11_2.trans h11_7)).ch h11_9 (fun q hq => by cases hq; exact (fun he => by have := (zq67.row he).2; have := h11_2.size; omega))).le (h12_2.trans h12_7)).ch h12_9 (fun q hq => by cases hq; exact (fun he => by have := (zq67.row he).2; have := h11_2.size; have := h11_7.size; have := h11_9.size; have := h12_2.size; omega))).le h13_16)
  refine W.rdg (.vcell (j := 0) (o := 2) (v := .int .i64 ((([rE 2 0 2, rE 3 2 3]).getD 0 noEdge).c)) na3 rfl f88.vec edgeV_row (getS ([rE 2 0 2, rE 3 2 3]) noEdge (by first | omega | (simp only [List.length_cons, List.length_nil]; omega))) rfl) rfl rfl rfl (rfl) rfl rfl ?_
  refine W.rdg (Any.rd (.dec (.eql rfl rfl) (decide_eq_true rfl)) _) rfl rfl rfl (rfl) rfl rfl ?_
  refine W.any (.pickT rfl rfl rfl) rfl rfl rfl ?_
  refine W.any (.move rfl) rfl rfl rfl ?_
  refine W.rdg (Any.rd (.move rfl) _) rfl rfl rfl (rfl) rfl rfl ?_
  refine W.rdg (Any.rd (.dec (.eql rfl rfl) (show _ = true from by first | decide | rfl)) _) rfl rfl rfl (rfl) rfl rfl ?_
  refine W.any (.pickT rfl rfl rfl) rfl rfl rfl ?_
  refine W.any (.move rfl) rfl rfl rfl ?_
  refine W.rdg (Any.rd (.move rfl) _) rfl rfl rfl (rfl) rfl rfl ?_
  refine W.rdg (Any.rd (.dec (.eql rfl rfl) (show _ = true from by first | decide | rfl)) _) rfl rfl rfl (rfl) rfl rfl ?_
  refine W.any (.pickT rfl rfl rfl) rfl rfl rfl ?_
  refine W.any (.move rfl) rfl rfl rfl ?_
  refine W.rdg (Any.rd (.move rfl) _) rfl rfl rfl (rfl) rfl rfl ?_
  refine W.rdg (.len Tryz.underlying22 rfl) rfl rfl rfl (rfl) rfl rfl ?_
  refine W.rdg (Any.rd (.dec (.eql rfl rfl) (show _ = true from by first | decide | rfl)) _) rfl rfl rfl (rfl) rfl rfl ?_
  refine W.any (.pickT rfl rfl rfl) rfl rfl rfl ?_
  refine W.any (.move rfl) rfl rfl rfl ?_
  refine W.rdg (Any.rd (.move rfl) _) rfl rfl rfl (rfl) rfl rfl ?_
  refine W.rdg (Any.rd (.idxS (0) Tryz.underlying22 sz51 rfl rfl (ow9_2.vec.isSome edgeV_row (by omega)) (rfl) (by omega)) _) rfl rfl rfl (rfl) rfl rfl ?_
  refine W.rdg (Any.rd (.vfield fa51_2 (ow9_2.vec.isSome edgeV_row (by omega)) rfl) _) rfl rfl rfl (rfl) rfl rfl ?_
  have f89 := (((((zq71.le (h11_2.trans h11_7)).ch h11_9 (fun q hq => by cases hq; exact (fun he => by have := (zq71.row he).2; have := h11_2.size; omega))).le (h12_2.trans h12_7)).ch h12_9 (fun q hq => by cases hq; exact (fun he => by have := (zq71.row he).2; have := h11_2.size; have := h11_7.size; have := h11_9.size; have := h12_2.size; omega))).le h13_16)
  refine W.rdg (.vcell (j := 0) (o := 2) (v := .int .i64 ((([rE 2 0 2, rE 3 2 3]).getD 0 noEdge).c)) na3 rfl f89.vec edgeV_row (getS ([rE 2 0 2, rE 3 2 3]) noEdge (by first | omega | (simp only [List.length_cons, List.length_nil]; omega))) rfl) rfl rfl rfl (rfl) rfl rfl ?_
  refine W.rdg (Any.rd (.dec (.eql rfl rfl) (decide_eq_true rfl)) _) rfl rfl rfl (rfl) rfl rfl ?_
  refine W.any (.pickT rfl rfl rfl) rfl rfl rfl ?_
  refine W.any (.move rfl) rfl rfl rfl ?_
  have f90 := (((((zq74.le (h11_2.trans h11_7)).ch h11_9 (fun h => (show g11_7 ≠ g9_7 from by have := zq74.lt; have := h11_2.size; omega) (Option.some.inj h))).le (h12_2.trans h12_7)).ch h12_9 (fun h => (show g12_7 ≠ g9_7 from by have := zq74.lt; have := h11_2.size; have := h11_7.size; have := h11_9.size; have := h12_2.size; omega) (Option.some.inj h))).le h13_16)
  refine W.rdg (.loadAll ag33 (by rfl) rfl f90) rfl rfl rfl (rfl) rfl rfl ?_
  have f91 := (((((zq72.le (h11_2.trans h11_7)).ch h11_9 (fun q hq => by cases hq; exact (fun he => by have := (zq72.row he).2; have := h11_2.size; omega))).le (h12_2.trans h12_7)).ch h12_9 (fun q hq => by cases hq; exact (fun he => by have := (zq72.row he).2; have := h11_2.size; have := h11_7.size; have := h11_9.size; have := h12_2.size; omega))).le h13_16)
  have f92 := (((((zq73.le (h11_2.trans h11_7)).ch h11_9 (fun q hq => by cases hq; exact (fun he => by have := (zq73.row he).2; have := h11_2.size; omega))).le (h12_2.trans h12_7)).ch h12_9 (fun q hq => by cases hq; exact (fun he => by have := (zq73.row he).2; have := h11_2.size; have := h11_7.size; have := h11_9.size; have := h12_2.size; omega))).le h13_16)
  refine W.efg rfl rfl rfl (rfl) rfl rfl ?_
  refine Ef.call go30 rfl rfl (ftext_ok w13_16 (hT.le L87) f91.vec f92.vec (by omega) (by omega) (by decide +kernel) (by decide) (by decide)) ?_
  rintro _ w13_61 ⟨rfl, h13_61⟩
  refine ⟨_, rfl, ?_⟩
  have L93 := L87.trans h13_61
  refine W.rdg (Any.rd (.eqlYes (a := textF 1 1) (b := ([49] : List UInt8)) rfl rfl (stx2)) _) rfl rfl rfl (rfl) rfl rfl ?_
  refine W.any (.pickT rfl rfl rfl) rfl rfl rfl ?_
  refine W.any (.move rfl) rfl rfl rfl ?_
  refine W.rdg (Any.rd (.move rfl) _) rfl rfl rfl (rfl) rfl rfl ?_
  refine W.rdg (Any.rd (.dec (.eql rfl rfl) (show _ = true from by first | decide | rfl)) _) rfl rfl rfl (rfl) rfl rfl ?_
  refine W.any (.pickT rfl rfl rfl) rfl rfl rfl ?_
  refine W.any (.move rfl) rfl rfl rfl ?_
  refine W.rdg (Any.rd (.move rfl) _) rfl rfl rfl (rfl) rfl rfl ?_
  refine W.rdg (Any.rd (.dec (.eql rfl rfl) (show _ = true from by first | decide | rfl)) _) rfl rfl rfl (rfl) rfl rfl ?_
  refine W.any (.pickT rfl rfl rfl) rfl rfl rfl ?_
  refine W.any (.move rfl) rfl rfl rfl ?_
  refine W.rdg (Any.rd (.move rfl) _) rfl rfl rfl (rfl) rfl rfl ?_
  refine W.rdg (Any.rd (.dec (.eql rfl rfl) (show _ = true from by first | decide | rfl)) _) rfl rfl rfl (rfl) rfl rfl ?_
  refine W.any (.pickT rfl rfl rfl) rfl rfl rfl ?_
  refine W.any (.assign rfl) rfl rfl rfl ?_
  refine W.nil ?_
  refine E.thenN ?_
  refine WC.ret ?_
  refine E.retG1 rfl rfl ?_
  exact ⟨rfl, L93⟩
end Go.Proofs.YtmkdeemjkcigkaaGreatDoor

namespace Go.Proofs.YtmkdeemjkcigkaaGreatDoor
open Go Go.Sx Go.Num Go.Gsp Go.Nsp Go.Msp Go.Rtp
set_option maxRecDepth 20000
set_option linter.unusedSimpArgs false
set_option linter.unusedVariables false
theorem few_T {n n2 : Nat} (h : (decide (n ≤ 12) && decide (n2 ≤ 20)) = true) : n ≤ 12 ∧ n2 ≤ 20 := by simpa using h
theorem bestR_len {g : List Gsp.Edge} {m : MF} {fr to a x : Int} (hm : GoodM m) : (bestR g m fr to a x).1.length ≤ 8 ∧ (digs (bestR g m fr to a x).2.1.n).length ≤ 100 ∧ (digs (bestR g m fr to a x).2.1.d).length ≤ 100 := by
  rcases bestR_errs (g := g) (fr := fr) (to := to) (a := a) (x := x) hm with h | h | h
  · obtain ⟨_, h2, h3, _⟩ := bestR_ok hm h
    have h1 := oddsR_len hm (bestR g m fr to a x).1 a x
    rw [← h3] at h1
    exact ⟨(wayG_len h2.way).2, h1⟩
  · rw [h]; simp only [digs_zero]; decide
  · rw [h]; simp only [digs_zero]; decide
end Go.Proofs.YtmkdeemjkcigkaaGreatDoor

namespace Go.Proofs.YtmkdeemjkcigkaaGreatDoor
open Go Go.Sx Go.Num Go.Gsp Go.Nsp Go.Msp Go.Rtp
set_option maxRecDepth 20000
set_option linter.unusedSimpArgs false
set_option linter.unusedVariables false
theorem len_of_zero {d : Nat} : (digs (lowF 0 1).n).length ≤ 1 ∧ (digs (lowF 0 1).d).length ≤ 1 := by
  rw [lowF_zero (by decide)]
  exact ⟨digs_len_one (by decide), digs_len_one (by decide)⟩
theorem cmp_pos {p q : Nat} (hok : okF ⟨p, q⟩) : 0 < cmpF (takF (⟨p, q⟩ : Fr)) (takF (⟨(lowF 0 1).n, (lowF 0 1).d⟩ : Fr)) ↔ p ≠ 0 := by
  have e : (⟨(lowF 0 1).n, (lowF 0 1).d⟩ : Fr) = ⟨0, 1⟩ := lowF_zero (by decide)
  rw [e, takF_id hok, show takF ⟨0, 1⟩ = ⟨0, 1⟩ from by decide, cmpF_pos]
  unfold ltF
  simp only [Nat.zero_mul, Nat.mul_one]
  omega
/-- What the order says, in its parts. -/
theorem ordB_parts {u v : Fnd} (h : ordB u v ≤ 0) : cmpF (takF v.odds) (takF u.odds) ≤ 0 ∧ (cmpF (takF v.odds) (takF u.odds) = 0 → u.sent ≤ v.sent) ∧ (cmpF (takF v.odds) (takF u.odds) = 0 → u.sent = v.sent → rowsC u.way v.way ≤ 0) := by
  unfold ordB at h
  simp only [orL] at h
  have hc : ∀ a b : Int, (cmpI a b ≤ 0 ↔ a ≤ b) ∧ (cmpI a b = 0 ↔ a = b) := fun a b => by unfold cmpI; split <;> (try split) <;> omega
  have hs := hc u.sent v.sent
  generalize cmpF (takF v.odds) (takF u.odds) = p at *
  generalize cmpI u.sent v.sent = q at *
  generalize rowsC u.way v.way = r at *
  split at h
  · omega
  · split at h
    · omega
    · split at h <;> omega
theorem rows_lt {u v : List Gsp.Edge} {k : Nat} (h : rowsC u v = rowsC (u.drop k) (v.drop k)) (h0 : rowsC u v ≤ 0) (h1 : k < u.length) (h2 : k < v.length) : (u.getD k noEdge).c ≤ (v.getD k noEdge).c ∧ ((u.getD k noEdge).c = (v.getD k noEdge).c → rowsC u v = rowsC (u.drop (k + 1)) (v.drop (k + 1))) := by
  rw [h, rowsC_at h1 h2] at h0 ⊢
  unfold cmpI at *
  split at h0 <;> (try split at h0) <;> (try split at h0) <;> refine ⟨by omega, fun he => ?_⟩ <;> first | omega | (rw [if_neg (by simp; omega)])
theorem rows_end {u v : List Gsp.Edge} {k : Nat} (h : rowsC u v = rowsC (u.drop k) (v.drop k)) (h0 : rowsC u v ≤ 0) (h1 : k ≤ u.length) (h2 : v.length ≤ k) : u.length ≤ k := by
  rcases Nat.lt_or_ge k u.length with q | q
  · rw [h, rowsC_long q h2] at h0; omega
  · exact q
theorem best_err {g : List Gsp.Edge} {m : MF} {fr to a x : Int} (hm : GoodM m) (h : (bestR g m fr to a x).2.2 ≠ 0) : (bestR g m fr to a x).1 = [] ∧ ((bestR g m fr to a x).2.2 = 1 ∨ ∀ w, ¬ (rightG g = true ∧ Cand g m fr to a x w)) := by
  rcases bestR_errs (g := g) (fr := fr) (to := to) (a := a) (x := x) hm with h1 | h1 | h1
  · exact absurd h1 h
  · rw [h1]; exact ⟨rfl, .inl rfl⟩
  · have hb : badR g fr to a x = false := by
      cases hb : badR g fr to a x
      · rfl
      · rw [bestR_bad hb] at h1; simp at h1
    exact ⟨by rw [h1], .inr fun w hw => (bestR_no hm hb h).2 w hw.2⟩
theorem best_all {g : List Gsp.Edge} {m : MF} {fr to a x : Int} (hm : GoodM m) (h : (bestR g m fr to a x).2.2 = 0) : rightG g = true ∧ Cand g m fr to a x (bestR g m fr to a x).1 ∧ (bestR g m fr to a x).2.1 = (oddsR m (bestR g m fr to a x).1 a x).1 ∧ ∀ w, Cand g m fr to a x w → ordB (fo m a x (bestR g m fr to a x).1) (fo m a x w) ≤ 0 := by
  obtain ⟨h1, h2⟩ := bestR_ok hm h
  exact ⟨(bad_T h1).1, h2⟩
/-- Is the other way one that may be told? -/
def GoesP (g : List Gsp.Edge) (ps : List Int) (fr to : Int) (o1 : Fr × Int × Int) (go : Bool) : Prop := go = true ↔ (o1.2.2 = 0 ∧ 0 < (rowsG g ps).length ∧ ((rowsG g ps).getD 0 noEdge).f = fr ∧ ((rowsG g ps).getD ((rowsG g ps).length - 1) noEdge).t = to ∧ 0 < (cmpF (takF (⟨o1.1.n, o1.1.d⟩ : Fr)) (takF (⟨(lowF 0 1).n, (lowF 0 1).d⟩ : Fr))) ∧ rightG g = true)
theorem goes_last {g : List Gsp.Edge} {ps : List Int} {fr to : Int} {o1 : Fr × Int × Int} (h1 : o1.2.2 = 0) (h2 : 0 < (rowsG g ps).length) (h3 : ((rowsG g ps).getD 0 noEdge).f = fr) (h4 : ((rowsG g ps).getD ((rowsG g ps).length - 1) noEdge).t = to) (h5 : 0 < (cmpF (takF (⟨o1.1.n, o1.1.d⟩ : Fr)) (takF (⟨(lowF 0 1).n, (lowF 0 1).d⟩ : Fr)))) : GoesP g ps fr to o1 (rightG g) := ⟨fun h => ⟨h1, h2, h3, h4, h5, h⟩, fun h => h.2.2.2.2.2⟩
theorem goes_cand {g : List Gsp.Edge} {m : MF} {ps : List Int} {fr to a x : Int} {o1 : Fr × Int × Int} (he : o1 = oddsR m (rowsG g ps) a x) (hok : o1.2.2 = 0 → okF o1.1) (h : o1.2.2 = 0 ∧ 0 < (rowsG g ps).length ∧ ((rowsG g ps).getD 0 noEdge).f = fr ∧ ((rowsG g ps).getD ((rowsG g ps).length - 1) noEdge).t = to ∧ 0 < (cmpF (takF (⟨o1.1.n, o1.1.d⟩ : Fr)) (takF (⟨(lowF 0 1).n, (lowF 0 1).d⟩ : Fr))) ∧ rightG g = true) : Cand g m fr to a x (rowsG g ps) := by
  obtain ⟨h1, h2, h3, h4, h5, h6⟩ := h
  refine ⟨fun hh => by rw [hh] at h2; exact absurd h2 (by decide), fun e he => rowsG_sub he, h3, h4, by rw [← he]; exact h1, ?_⟩
  rw [← he]
  exact (cmp_pos (hok h1)).1 h5
set_option maxHeartbeats 4000000 in
theorem RouteBest_ok (fr to a x : Int) {A3 : Option Addr} {n3 c3 : Nat} {ps : List Int} {A A2 : Option Addr} {n c n2 c2 : Nat} {g : List Gsp.Edge} {l : List Kn} (w : World) (hT : Tab w) (hV : Vec w edgeV 9 A n g) (hL : Vec w knV 3 A2 n2 l) (hgl : ∀ q ∈ l, I64n q.d) (hnc : n ≤ c) (hn : n ≤ 9223372036854775807) (hn2 : n2 ≤ 9223372036854775807) (hps : Vec w iv 1 A3 n3 ps) : Calls Tryz.prog 5 #[.slice A n c, .slice A2 n2 c2, .int .i64 (fr), .int .i64 (to), .int .i64 (a), .int .i64 (x), .slice A3 n3 c3] w fun r w' => r = .returned (.bool true) ∧ Le w w' := by
  have hl := hV.1; have hl2 := hL.1
  have hgm : GoodM (mindG g l) := mindG_good g l _ none_good
  have hl3 := hps.1
  have hz01 := len_of_zero (d := 0)
  refine enter Tryz.func5 rfl rfl ?_
  have L0 := Le.refl w
  refine WC.seq ?_
  refine WC.region ?_
  refine W.any (.assign rfl) rfl rfl rfl ?_
  refine W.nil ?_
  refine E.thenN ?_
  refine WC.seq ?_
  refine WC.region ?_
  refine W.ef rfl rfl rfl ?_
  refine Ef.call go7 rfl rfl (small38_ok w (hT.le L0)) ?_
  rintro _ w1_0 ⟨rfl, h1_0⟩
  refine ⟨_, rfl, ?_⟩
  have L1 := L0.trans h1_0
  refine W.any (.assign rfl) rfl rfl rfl ?_
  refine W.nil ?_
  refine E.thenN ?_
  refine WC.seq ?_
  refine WC.region ?_
  refine W.any (.move rfl) rfl rfl rfl ?_
  refine W.any (.move rfl) rfl rfl rfl ?_
  refine W.ef rfl rfl rfl ?_
  refine Ef.call go8 rfl rfl (few_ok w1_0) ?_
  rintro _ w2_2 ⟨rfl, h2_2⟩
  refine ⟨_, rfl, ?_⟩
  have L2 := L1.trans h2_2
  refine W.any (.assign rfl) rfl rfl rfl ?_
  refine W.nil ?_
  refine E.thenN ?_
  refine WC.seq ?_
  refine WC.region ?_
  refine W.any (.move rfl) rfl rfl rfl ?_
  refine W.any (.move rfl) rfl rfl rfl ?_
  refine W.ef rfl rfl rfl ?_
  refine Ef.call go9 rfl rfl (mind_ok w2_2 (hV.le L2) (hL.le L2) hgl (by omega) (by omega)) ?_
  rintro _ w3_2 ⟨gp3_2, F3_2, rfl, p3_2, h3_2⟩
  refine ⟨_, rfl, ?_⟩
  have L3 := L2.trans h3_2
  refine W.any (.assign rfl) rfl rfl rfl ?_
  refine W.nil ?_
  refine E.thenN ?_
  refine WC.seq ?_
  refine WC.seq ?_
  refine WC.region ?_
  refine W.any (.move rfl) rfl rfl rfl ?_
  refine W.any (.not rfl) rfl rfl rfl ?_
  by_cases q4_2 : (decide (n ≤ 12) && decide (n2 ≤ 20)) = true
  · refine W.any (.dec (.move rfl) (congrArg not (q4_2))) rfl rfl rfl ?_
    refine W.rdg (Any.rd (.move rfl) _) rfl rfl rfl (rfl) rfl rfl ?_
    refine W.rdg (.len Tryz.underlying24 rfl) rfl rfl rfl (rfl) rfl rfl ?_
    refine W.rdg (Any.rd (.gtr rfl rfl) _) rfl rfl rfl (rfl) rfl rfl ?_
    refine W.any (.pickF rfl rfl rfl) rfl rfl rfl ?_
    by_cases q4_7 : 9 < ((n3 : Nat) : Int)
    · refine W.any (.dec (.move rfl) (decide_eq_true q4_7)) rfl rfl rfl ?_
      refine W.skip rfl rfl rfl (rfl) rfl rfl ?_
      refine W.skip rfl rfl rfl (rfl) rfl rfl ?_
      refine W.any (.pickT rfl rfl rfl) rfl rfl rfl ?_
      refine W.nil ?_
      refine E.thenN ?_
      refine WC.condT rfl ?_
      refine WC.seq ?_
      refine WC.region ?_
      refine W.any (.move rfl) rfl rfl rfl ?_
      refine W.any (.move rfl) rfl rfl rfl ?_
      refine W.rdg (Any.rd (.move rfl) _) rfl rfl rfl (rfl) rfl rfl ?_
      refine W.rdg (Any.rd (.dec (.notNilP (by kernel_rfl) rfl) rfl) _) rfl rfl rfl (rfl) rfl rfl ?_
      refine W.any (.pickT rfl rfl rfl) rfl rfl rfl ?_
      refine W.any (.assign rfl) rfl rfl rfl ?_
      refine W.nil ?_
      refine E.thenN ?_
      refine WC.ret ?_
      refine E.thenR ?_
      refine E.retG1 rfl rfl ?_
      exact ⟨rfl, L3⟩
    · refine W.any (.dec (.move rfl) (decide_eq_false q4_7)) rfl rfl rfl ?_
      refine W.rdg (Any.rd (.move rfl) _) rfl rfl rfl (rfl) rfl rfl ?_
      refine W.rdg (Any.rd (.dec (.isNilP (by kernel_rfl) rfl) rfl) _) rfl rfl rfl (rfl) rfl rfl ?_
      refine W.any (.pickF rfl rfl rfl) rfl rfl rfl ?_
      refine W.nil ?_
      refine E.thenN ?_
      refine WC.condF rfl ?_
      obtain ⟨hf1, hf2⟩ := few_T (n := n) (n2 := n2) (by assumption)
      have hrl := rowsG_len (g := g) ps
      refine WC.skip ?_
      refine E.thenN ?_
      refine WC.seq ?_
      refine WC.region ?_
      refine W.any (.move rfl) rfl rfl rfl ?_
      refine W.any (.move rfl) rfl rfl rfl ?_
      refine W.any (.move rfl) rfl rfl rfl ?_
      refine W.any (.move rfl) rfl rfl rfl ?_
      refine W.any (.move rfl) rfl rfl rfl ?_
      refine W.any (.move rfl) rfl rfl rfl ?_
      obtain ⟨b1, heb1⟩ : ∃ z, z = bestR g (mindG g l) fr to a x := ⟨_, rfl⟩
      have hlb1 := bestR_len (g := g) (fr := fr) (to := to) (a := a) (x := x) hgm
      rw [← heb1] at hlb1
      refine W.ef rfl rfl rfl ?_
      refine Ef.call go11 rfl rfl ((by have k := rbest_ok (c := c) fr to a x w3_2 p3_2 (hV.le L3) (by omega); rw [← heb1] at k; exact k)) ?_
      rintro _ w6_6 ⟨Aw6_6, cw6_6, An6_6, cn6_6, Ad6_6, cd6_6, rfl, ow6_6, on6_6, od6_6, h6_6⟩
      refine ⟨_, rfl, ?_⟩
      have L4 := L3.trans h6_6
      refine W.any (.move rfl) rfl rfl rfl ?_
      refine W.any (.extract (v := .slice Aw6_6 b1.1.length cw6_6) rfl rfl) rfl rfl rfl ?_
      refine W.any (.extract (v := .agg #[.slice An6_6 ((digs b1.2.1.n).length) cn6_6, .slice Ad6_6 ((digs b1.2.1.d).length) cd6_6]) rfl rfl) rfl rfl rfl ?_
      refine W.any (.extract (v := .int .i64 (b1.2.2)) rfl rfl) rfl rfl rfl ?_
      refine W.ef rfl rfl rfl ?_
      refine Ef.allocA z33 ?_
      intro g6_11 w6_11 hg6_11 b6_11 h6_11
      have L5 := L4.trans h6_11
      have b6_11 : Blk w6_11 g6_11 33 #[.slice none 0 0, .slice none 0 0] := b6_11
      refine W.any (.assign rfl) rfl rfl rfl ?_
      refine W.ef0 rfl rfl ?_
      refine Ef.storeAll sz33 (by rfl) rfl rfl b6_11 (by rfl) (by simp [Value.oneCell']) ?_
      intro w6_13 b6_13 h6_13
      have b6_13 : Blk w6_13 g6_11 33 #[.slice An6_6 ((digs b1.2.1.n).length) cn6_6, .slice Ad6_6 ((digs b1.2.1.d).length) cd6_6] := b6_13
      have L6 : Le w w6_13 := L5.then_ h6_13 (fun q hq => by cases hq; exact Nat.le_trans L4.size hg6_11)
      refine W.any (.assign rfl) rfl rfl rfl ?_
      refine W.nil ?_
      refine E.thenN ?_
      refine WC.seq ?_
      refine WC.region ?_
      refine W.any (.move rfl) rfl rfl rfl ?_
      refine W.any (.move rfl) rfl rfl rfl ?_
      refine W.ef rfl rfl rfl ?_
      refine Ef.call go13 rfl rfl (rows_ok w6_13 (hV.le L6) (hps.le L6) (by omega) (by omega)) ?_
      rintro _ w7_2 ⟨Ar7_2, cr7_2, rfl, or7_2, h7_2⟩
      refine ⟨_, rfl, ?_⟩
      have L7 := L6.trans h7_2
      refine W.any (.assign rfl) rfl rfl rfl ?_
      refine W.nil ?_
      refine E.thenN ?_
      refine WC.seq ?_
      refine WC.region ?_
      refine W.ef rfl rfl rfl ?_
      refine Ef.call go23 rfl rfl (fof_ok 0 1 w7_2 (by omega) (by omega) (by omega)) ?_
      rintro _ w8_0 ⟨An8_0, cn8_0, Ad8_0, cd8_0, rfl, on8_0, od8_0, h8_0⟩
      refine ⟨_, rfl, ?_⟩
      have L8 := L7.trans h8_0
      refine W.any (.move rfl) rfl rfl rfl ?_
      refine W.any (.extract (v := .agg #[.slice An8_0 ((digs ((lowF 0 1).n)).length) cn8_0, .slice Ad8_0 ((digs ((lowF 0 1).d)).length) cd8_0]) rfl rfl) rfl rfl rfl ?_
      refine W.any (.extract (v := .bool true) rfl rfl) rfl rfl rfl ?_
      refine W.ef rfl rfl rfl ?_
      refine Ef.allocA z33 ?_
      intro g8_4 w8_4 hg8_4 b8_4 h8_4
      have L9 := L8.trans h8_4
      have b8_4 : Blk w8_4 g8_4 33 #[.slice none 0 0, .slice none 0 0] := b8_4
      refine W.ef0 rfl rfl ?_
      refine Ef.storeAll sz33 (by rfl) rfl rfl b8_4 (by rfl) (by simp [Value.oneCell']) ?_
      intro w8_5 b8_5 h8_5
      have b8_5 : Blk w8_5 g8_4 33 #[.slice An8_0 ((digs ((lowF 0 1).n)).length) cn8_0, .slice Ad8_0 ((digs ((lowF 0 1).d)).length) cd8_0] := b8_5
      have L10 : Le w w8_5 := L9.then_ h8_5 (fun q hq => by cases hq; exact Nat.le_trans L8.size hg8_4)
      refine W.any (.assign rfl) rfl rfl rfl ?_
      refine W.nil ?_
      refine E.thenN ?_
      refine WC.seq ?_
      refine WC.region ?_
      refine W.any (.move rfl) rfl rfl rfl ?_
      refine W.any (.move rfl) rfl rfl rfl ?_
      refine W.any (.move rfl) rfl rfl rfl ?_
      refine W.any (.move rfl) rfl rfl rfl ?_
      have f11 := ((((p3_2.le (h6_6.trans h6_11)).ch h6_13 (fun q hqq hF => by cases hqq; have := p3_2.lt hF; have := h6_6.size; have := hg6_11; omega)).le (h7_2.trans (h8_0.trans h8_4))).ch h8_5 (fun q hqq hF => by cases hqq; have := p3_2.lt hF; have := h6_6.size; have := h6_11.size; have := h6_13.size; have := h7_2.size; have := h8_0.size; have := hg8_4; omega))
      have f12 := ((or7_2.le (h8_0.trans h8_4)).ch h8_5 (fun q hq => by cases hq; exact (fun he => by have := (or7_2.row he).2; have := h8_0.size; omega)))
      obtain ⟨o1, heo1⟩ : ∃ z, z = oddsR (mindG g l) (rowsG g ps) a x := ⟨_, rfl⟩
      have hlo1 := oddsR_len hgm (rowsG g ps) a x
      rw [← heo1] at hlo1
      refine W.ef rfl rfl rfl ?_
      refine Ef.call go14 rfl rfl ((by have k := rodds_ok (c := cr7_2) a x w8_5 f11 f12.vec (by omega); rw [← heo1] at k; exact k)) ?_
      rintro _ w9_4 ⟨An9_4, cn9_4, Ad9_4, cd9_4, rfl, on9_4, od9_4, h9_4⟩
      refine ⟨_, rfl, ?_⟩
      have L13 := L10.trans h9_4
      have ho1k : o1.2.2 = 0 → okF o1.1 := fun h => by have := oddsR_ok (m := mindG g l) (xs := (rowsG g ps)) (a := a) (x := x); rw [← heo1] at this; exact this h
      have ho1k : o1.2.2 = 0 → okF o1.1 := fun h => by have := oddsR_ok (m := mindG g l) (xs := (rowsG g ps)) (a := a) (x := x); rw [← heo1] at this; exact this h
      refine W.any (.move rfl) rfl rfl rfl ?_
      refine W.any (.extract (v := .agg #[.slice An9_4 ((digs o1.1.n).length) cn9_4, .slice Ad9_4 ((digs o1.1.d).length) cd9_4]) rfl rfl) rfl rfl rfl ?_
      refine W.any (.extract (v := .int .i64 (o1.2.1)) rfl rfl) rfl rfl rfl ?_
      refine W.any (.extract (v := .int .i64 (o1.2.2)) rfl rfl) rfl rfl rfl ?_
      refine W.ef rfl rfl rfl ?_
      refine Ef.allocA z33 ?_
      intro g9_9 w9_9 hg9_9 b9_9 h9_9
      have L14 := L13.trans h9_9
      have b9_9 : Blk w9_9 g9_9 33 #[.slice none 0 0, .slice none 0 0] := b9_9
      refine W.ef0 rfl rfl ?_
      refine Ef.storeAll sz33 (by rfl) rfl rfl b9_9 (by rfl) (by simp [Value.oneCell']) ?_
      intro w9_10 b9_10 h9_10
      have b9_10 : Blk w9_10 g9_9 33 #[.slice An9_4 ((digs o1.1.n).length) cn9_4, .slice Ad9_4 ((digs o1.1.d).length) cd9_4] := b9_10
      have L15 : Le w w9_10 := L14.then_ h9_10 (fun q hq => by cases hq; exact Nat.le_trans L13.size hg9_9)
      refine W.any (.assign rfl) rfl rfl rfl ?_
      refine W.any (.assign rfl) rfl rfl rfl ?_
      refine W.nil ?_
      refine E.thenN ?_
      have f16 := ((f11.le (h9_4.trans h9_9)).ch h9_10 (fun q hqq hF => by cases hqq; have := f11.lt hF; have := h9_4.size; have := hg9_9; omega))
      have f17 := ((((((ow6_6.le h6_11).ch h6_13 (fun q hq => by cases hq; exact (fun he => by have := (ow6_6.row he).2; omega))).le (h7_2.trans (h8_0.trans h8_4))).ch h8_5 (fun q hq => by cases hq; exact (fun he => by have := (ow6_6.row he).2; have := h6_11.size; have := h6_13.size; have := h7_2.size; have := h8_0.size; omega))).le (h9_4.trans h9_9)).ch h9_10 (fun q hq => by cases hq; exact (fun he => by have := (ow6_6.row he).2; have := h6_11.size; have := h6_13.size; have := h7_2.size; have := h8_0.size; have := h8_4.size; have := h8_5.size; have := h9_4.size; omega)))
      have f18 := ((((b6_13.le (h7_2.trans (h8_0.trans h8_4))).ch h8_5 (fun h => (show g8_4 ≠ g6_11 from by have := b6_13.lt; have := h7_2.size; have := h8_0.size; omega) (Option.some.inj h))).le (h9_4.trans h9_9)).ch h9_10 (fun h => (show g9_9 ≠ g6_11 from by have := b6_13.lt; have := h7_2.size; have := h8_0.size; have := h8_4.size; have := h8_5.size; have := h9_4.size; omega) (Option.some.inj h)))
      have f19 := ((((((on6_6.le h6_11).ch h6_13 (fun q hq => by cases hq; exact (fun he => by have := (on6_6.row he).2; omega))).le (h7_2.trans (h8_0.trans h8_4))).ch h8_5 (fun q hq => by cases hq; exact (fun he => by have := (on6_6.row he).2; have := h6_11.size; have := h6_13.size; have := h7_2.size; have := h8_0.size; omega))).le (h9_4.trans h9_9)).ch h9_10 (fun q hq => by cases hq; exact (fun he => by have := (on6_6.row he).2; have := h6_11.size; have := h6_13.size; have := h7_2.size; have := h8_0.size; have := h8_4.size; have := h8_5.size; have := h9_4.size; omega)))
      have f20 := ((((((od6_6.le h6_11).ch h6_13 (fun q hq => by cases hq; exact (fun he => by have := (od6_6.row he).2; omega))).le (h7_2.trans (h8_0.trans h8_4))).ch h8_5 (fun q hq => by cases hq; exact (fun he => by have := (od6_6.row he).2; have := h6_11.size; have := h6_13.size; have := h7_2.size; have := h8_0.size; omega))).le (h9_4.trans h9_9)).ch h9_10 (fun q hq => by cases hq; exact (fun he => by have := (od6_6.row he).2; have := h6_11.size; have := h6_13.size; have := h7_2.size; have := h8_0.size; have := h8_4.size; have := h8_5.size; have := h9_4.size; omega)))
      have f21 := ((f12.le (h9_4.trans h9_9)).ch h9_10 (fun q hq => by cases hq; exact (fun he => by have := (f12.row he).2; have := h9_4.size; omega)))
      have f22 := ((b8_5.le (h9_4.trans h9_9)).ch h9_10 (fun h => (show g9_9 ≠ g8_4 from by have := b8_5.lt; have := h9_4.size; omega) (Option.some.inj h)))
      have f23 := ((((on8_0.le h8_4).ch h8_5 (fun q hq => by cases hq; exact (fun he => by have := (on8_0.row he).2; omega))).le (h9_4.trans h9_9)).ch h9_10 (fun q hq => by cases hq; exact (fun he => by have := (on8_0.row he).2; have := h8_4.size; have := h8_5.size; have := h9_4.size; omega)))
      have f24 := ((((od8_0.le h8_4).ch h8_5 (fun q hq => by cases hq; exact (fun he => by have := (od8_0.row he).2; omega))).le (h9_4.trans h9_9)).ch h9_10 (fun q hq => by cases hq; exact (fun he => by have := (od8_0.row he).2; have := h8_4.size; have := h8_5.size; have := h9_4.size; omega)))
      have f25 := ((on9_4.le h9_9).ch h9_10 (fun q hq => by cases hq; exact (fun he => by have := (on9_4.row he).2; omega)))
      have f26 := ((od9_4.le h9_9).ch h9_10 (fun q hq => by cases hq; exact (fun he => by have := (od9_4.row he).2; omega)))
      refine WC.cut (ι := Bool) (fun go => [(0, .slice A n c), (2, .int .i64 (fr)), (3, .int .i64 (to)), (4, .int .i64 (a)), (5, .int .i64 (x)), (15, .bool true), (17, .pointer (some ⟨gp3_2, 0, none⟩)), (18, .slice Aw6_6 b1.1.length cw6_6), (19, .pointer (some ⟨g6_11, 0, none⟩)), (20, .int .i64 (b1.2.2)), (21, .slice Ar7_2 ((rowsG g ps).length) cr7_2), (22, .pointer (some ⟨g8_4, 0, none⟩)), (24, .pointer (some ⟨g9_9, 0, none⟩)), (25, .int .i64 (o1.2.1)), (27, .bool (go))]) (fun go wc11 => (GoesP g ps fr to o1 go) ∧ Le w wc11 ∧ w9_10.heap.size ≤ wc11.heap.size ∧ MPool wc11 w2_2.heap.size gp3_2 F3_2 (mindG g l) ∧ OVec wc11 w3_2.heap.size 51 edgeV 9 Aw6_6 b1.1.length cw6_6 b1.1 ∧ Blk wc11 g6_11 33 #[.slice An6_6 ((digs b1.2.1.n).length) cn6_6, .slice Ad6_6 ((digs b1.2.1.d).length) cd6_6] ∧ OVec wc11 w3_2.heap.size 122 dv 1 An6_6 ((digs b1.2.1.n).length) cn6_6 (digs b1.2.1.n) ∧ OVec wc11 w3_2.heap.size 122 dv 1 Ad6_6 ((digs b1.2.1.d).length) cd6_6 (digs b1.2.1.d) ∧ OVec wc11 w6_13.heap.size 51 edgeV 9 Ar7_2 ((rowsG g ps).length) cr7_2 (rowsG g ps) ∧ Blk wc11 g8_4 33 #[.slice An8_0 ((digs ((lowF 0 1).n)).length) cn8_0, .slice Ad8_0 ((digs ((lowF 0 1).d)).length) cd8_0] ∧ OVec wc11 w7_2.heap.size 122 dv 1 An8_0 ((digs ((lowF 0 1).n)).length) cn8_0 (digs ((lowF 0 1).n)) ∧ OVec wc11 w7_2.heap.size 122 dv 1 Ad8_0 ((digs ((lowF 0 1).d)).length) cd8_0 (digs ((lowF 0 1).d)) ∧ Blk wc11 g9_9 33 #[.slice An9_4 ((digs o1.1.n).length) cn9_4, .slice Ad9_4 ((digs o1.1.d).length) cd9_4] ∧ OVec wc11 w8_5.heap.size 122 dv 1 An9_4 ((digs o1.1.n).length) cn9_4 (digs o1.1.n) ∧ OVec wc11 w8_5.heap.size 122 dv 1 Ad9_4 ((digs o1.1.d).length) cd9_4 (digs o1.1.d)) ?_ ?_
      · refine WC.region ?_
        refine W.any (.move rfl) rfl rfl rfl ?_
        refine W.any (.eql rfl rfl) rfl rfl rfl ?_
        by_cases q10_2 : o1.2.2 = 0
        · refine W.any (.dec (.move rfl) (decide_eq_true q10_2)) rfl rfl rfl ?_
          refine W.rdg (Any.rd (.move rfl) _) rfl rfl rfl (rfl) rfl rfl ?_
          refine W.rdg (.len Tryz.underlying22 rfl) rfl rfl rfl (rfl) rfl rfl ?_
          refine W.rdg (Any.rd (.gtr rfl rfl) _) rfl rfl rfl (rfl) rfl rfl ?_
          refine W.any (.pickT rfl rfl rfl) rfl rfl rfl ?_
          by_cases q10_7 : 0 < (((rowsG g ps).length : Nat) : Int)
          · refine W.any (.dec (.move rfl) (decide_eq_true q10_7)) rfl rfl rfl ?_
            refine W.rdg (Any.rd (.move rfl) _) rfl rfl rfl (rfl) rfl rfl ?_
            refine W.rdg (Any.rd (.idxS (0) Tryz.underlying22 sz51 rfl rfl (or7_2.vec.isSome edgeV_row (by omega)) (rfl) (by omega)) _) rfl rfl rfl (rfl) rfl rfl ?_
            refine W.rdg (Any.rd (.vfield fa51_0 (or7_2.vec.isSome edgeV_row (by omega)) rfl) _) rfl rfl rfl (rfl) rfl rfl ?_
            refine W.rdg (.vcell (j := 0) (o := 0) (v := .int .i64 (((rowsG g ps).getD 0 noEdge).f)) na3 rfl f21.vec edgeV_row (getS (rowsG g ps) noEdge (by first | omega | (simp only [List.length_cons, List.length_nil]; omega))) rfl) rfl rfl rfl (rfl) rfl rfl ?_
            refine W.rdg (Any.rd (.move rfl) _) rfl rfl rfl (rfl) rfl rfl ?_
            refine W.rdg (Any.rd (.eql rfl rfl) _) rfl rfl rfl (rfl) rfl rfl ?_
            refine W.any (.pickT rfl rfl rfl) rfl rfl rfl ?_
            by_cases q10_15 : (((rowsG g ps).getD 0 noEdge).f) = fr
            · refine W.any (.dec (.move rfl) (decide_eq_true q10_15)) rfl rfl rfl ?_
              refine W.rdg (Any.rd (.move rfl) _) rfl rfl rfl (rfl) rfl rfl ?_
              refine W.rdg (Any.rd (.move rfl) _) rfl rfl rfl (rfl) rfl rfl ?_
              refine W.rdg (.len Tryz.underlying22 rfl) rfl rfl rfl (rfl) rfl rfl ?_
              refine W.rdg (Any.rd (.sub rfl rfl (by omega)) _) rfl rfl rfl (rfl) rfl rfl ?_
              refine W.rdg (Any.rd (.idxS ((((rowsG g ps).length) - 1)) Tryz.underlying22 sz51 rfl rfl (or7_2.vec.isSome edgeV_row (by omega)) (by omega) (by omega)) _) rfl rfl rfl (rfl) rfl rfl ?_
              refine W.rdg (Any.rd (.vfield fa51_1 (or7_2.vec.isSome edgeV_row (by omega)) rfl) _) rfl rfl rfl (rfl) rfl rfl ?_
              refine W.rdg (.vcell (j := (((rowsG g ps).length) - 1)) (o := 1) (v := .int .i64 (((rowsG g ps).getD (((rowsG g ps).length) - 1) noEdge).t)) na3 rfl f21.vec edgeV_row (getS (rowsG g ps) noEdge (by first | omega | (simp only [List.length_cons, List.length_nil]; omega))) rfl) rfl rfl rfl (rfl) rfl rfl ?_
              refine W.rdg (Any.rd (.move rfl) _) rfl rfl rfl (rfl) rfl rfl ?_
              refine W.rdg (Any.rd (.eql rfl rfl) _) rfl rfl rfl (rfl) rfl rfl ?_
              refine W.any (.pickT rfl rfl rfl) rfl rfl rfl ?_
              by_cases q10_26 : (((rowsG g ps).getD (((rowsG g ps).length) - 1) noEdge).t) = to
              · refine W.any (.dec (.move rfl) (decide_eq_true q10_26)) rfl rfl rfl ?_
                refine W.rdg (.loadAll ag33 (by rfl) rfl b9_10) rfl rfl rfl (rfl) rfl rfl ?_
                refine W.rdg (.loadAll ag33 (by rfl) rfl f22) rfl rfl rfl (rfl) rfl rfl ?_
                refine W.efg rfl rfl rfl (rfl) rfl rfl ?_
                refine Ef.call go22 rfl rfl (fcmp_ok w9_10 f25.vec f26.vec (by omega) (by omega) f23.vec f24.vec (by omega) (by omega)) ?_
                rintro _ w10_29 ⟨rfl, h10_29⟩
                refine ⟨_, rfl, ?_⟩
                have L27 := L15.trans h10_29
                refine W.rdg (Any.rd (.gtr rfl rfl) _) rfl rfl rfl (rfl) rfl rfl ?_
                refine W.any (.pickT rfl rfl rfl) rfl rfl rfl ?_
                by_cases q10_32 : 0 < (cmpF (takF (⟨o1.1.n, o1.1.d⟩ : Fr)) (takF (⟨((lowF 0 1).n), ((lowF 0 1).d)⟩ : Fr)))
                · refine W.any (.dec (.move rfl) (decide_eq_true q10_32)) rfl rfl rfl ?_
                  refine W.rdg (Any.rd (.move rfl) _) rfl rfl rfl (rfl) rfl rfl ?_
                  refine W.efg rfl rfl rfl (rfl) rfl rfl ?_
                  refine Ef.call go24 rfl rfl (gright_ok w10_29 (hV.le L27) (by omega)) ?_
                  rintro _ w10_34 ⟨rfl, h10_34⟩
                  refine ⟨_, rfl, ?_⟩
                  have L28 := L27.trans h10_34
                  refine W.any (.pickT rfl rfl rfl) rfl rfl rfl ?_
                  refine W.any (.assign rfl) rfl rfl rfl ?_
                  refine W.nil ?_
                  have f29 := (f16.le (h10_29.trans h10_34))
                  have f30 := (f17.le (h10_29.trans h10_34))
                  have f31 := (f18.le (h10_29.trans h10_34))
                  have f32 := (f19.le (h10_29.trans h10_34))
                  have f33 := (f20.le (h10_29.trans h10_34))
                  have f34 := (f21.le (h10_29.trans h10_34))
                  have f35 := (f22.le (h10_29.trans h10_34))
                  have f36 := (f23.le (h10_29.trans h10_34))
                  have f37 := (f24.le (h10_29.trans h10_34))
                  have f38 := (b9_10.le (h10_29.trans h10_34))
                  have f39 := (f25.le (h10_29.trans h10_34))
                  have f40 := (f26.le (h10_29.trans h10_34))
                  refine E.meet (rightG g) (.cons rfl (.cons rfl (.cons rfl (.cons rfl (.cons rfl (.cons rfl (.cons rfl (.cons rfl (.cons rfl (.cons rfl (.cons rfl (.cons rfl (.cons rfl (.cons rfl (.cons rfl (.nil _)))))))))))))))) ?_
                  exact ⟨goes_last (by assumption) (by omega) (by assumption) (by assumption) (by assumption), L28, by have := h10_29.size; have := h10_34.size; omega, f29, f30, f31, f32, f33, f34, f35, f36, f37, f38, f39, f40⟩
                · refine W.any (.dec (.move rfl) (decide_eq_false q10_32)) rfl rfl rfl ?_
                  refine W.skip rfl rfl rfl (rfl) rfl rfl ?_
                  refine W.skip rfl rfl rfl (rfl) rfl rfl ?_
                  refine W.any (.pickF rfl rfl rfl) rfl rfl rfl ?_
                  refine W.any (.assign rfl) rfl rfl rfl ?_
                  refine W.nil ?_
                  have f41 := (f16.le h10_29)
                  have f42 := (f17.le h10_29)
                  have f43 := (f18.le h10_29)
                  have f44 := (f19.le h10_29)
                  have f45 := (f20.le h10_29)
                  have f46 := (f21.le h10_29)
                  have f47 := (f22.le h10_29)
                  have f48 := (f23.le h10_29)
                  have f49 := (f24.le h10_29)
                  have f50 := (b9_10.le h10_29)
                  have f51 := (f25.le h10_29)
                  have f52 := (f26.le h10_29)
                  refine E.meet false (.cons rfl (.cons rfl (.cons rfl (.cons rfl (.cons rfl (.cons rfl (.cons rfl (.cons rfl (.cons rfl (.cons rfl (.cons rfl (.cons rfl (.cons rfl (.cons rfl (.cons rfl (.nil _)))))))))))))))) ?_
                  exact ⟨(by unfold GoesP; simp only [Bool.false_eq_true, false_iff, true_iff, iff_true]; omega), L27, by have := h10_29.size; omega, f41, f42, f43, f44, f45, f46, f47, f48, f49, f50, f51, f52⟩
              · refine W.any (.dec (.move rfl) (decide_eq_false q10_26)) rfl rfl rfl ?_
                refine W.skip rfl rfl rfl (rfl) rfl rfl ?_
                refine W.skip rfl rfl rfl (rfl) rfl rfl ?_
                refine W.skip rfl rfl rfl (rfl) rfl rfl ?_
                refine W.skip rfl rfl rfl (rfl) rfl rfl ?_
                refine W.any (.pickF rfl rfl rfl) rfl rfl rfl ?_
                refine W.any (.move rfl) rfl rfl rfl ?_
                refine W.skip rfl rfl rfl (rfl) rfl rfl ?_
                refine W.skip rfl rfl rfl (rfl) rfl rfl ?_
                refine W.any (.pickF rfl rfl rfl) rfl rfl rfl ?_
                refine W.any (.assign rfl) rfl rfl rfl ?_
                refine W.nil ?_
                refine E.meet false (.cons rfl (.cons rfl (.cons rfl (.cons rfl (.cons rfl (.cons rfl (.cons rfl (.cons rfl (.cons rfl (.cons rfl (.cons rfl (.cons rfl (.cons rfl (.cons rfl (.cons rfl (.nil _)))))))))))))))) ?_
                exact ⟨(by unfold GoesP; simp only [Bool.false_eq_true, false_iff, true_iff, iff_true]; omega), L15, Nat.le_refl _, f16, f17, f18, f19, f20, f21, f22, f23, f24, b9_10, f25, f26⟩
            · refine W.any (.dec (.move rfl) (decide_eq_false q10_15)) rfl rfl rfl ?_
              refine W.skip rfl rfl rfl (rfl) rfl rfl ?_
              refine W.skip rfl rfl rfl (rfl) rfl rfl ?_
              refine W.skip rfl rfl rfl (rfl) rfl rfl ?_
              refine W.skip rfl rfl rfl (rfl) rfl rfl ?_
              refine W.skip rfl rfl rfl (rfl) rfl rfl ?_
              refine W.skip rfl rfl rfl (rfl) rfl rfl ?_
              refine W.skip rfl rfl rfl (rfl) rfl rfl ?_
              refine W.skip rfl rfl rfl (rfl) rfl rfl ?_
              refine W.skip rfl rfl rfl (rfl) rfl rfl ?_
              refine W.any (.pickF rfl rfl rfl) rfl rfl rfl ?_
              refine W.any (.move rfl) rfl rfl rfl ?_
              refine W.skip rfl rfl rfl (rfl) rfl rfl ?_
              refine W.skip rfl rfl rfl (rfl) rfl rfl ?_
              refine W.skip rfl rfl rfl (rfl) rfl rfl ?_
              refine W.skip rfl rfl rfl (rfl) rfl rfl ?_
              refine W.any (.pickF rfl rfl rfl) rfl rfl rfl ?_
              refine W.any (.move rfl) rfl rfl rfl ?_
              refine W.skip rfl rfl rfl (rfl) rfl rfl ?_
              refine W.skip rfl rfl rfl (rfl) rfl rfl ?_
              refine W.any (.pickF rfl rfl rfl) rfl rfl rfl ?_
              refine W.any (.assign rfl) rfl rfl rfl ?_
              refine W.nil ?_
              refine E.meet false (.cons rfl (.cons rfl (.cons rfl (.cons rfl (.cons rfl (.cons rfl (.cons rfl (.cons rfl (.cons rfl (.cons rfl (.cons rfl (.cons rfl (.cons rfl (.cons rfl (.cons rfl (.nil _)))))))))))))))) ?_
              exact ⟨(by unfold GoesP; simp only [Bool.false_eq_true, false_iff, true_iff, iff_true]; omega), L15, Nat.le_refl _, f16, f17, f18, f19, f20, f21, f22, f23, f24, b9_10, f25, f26⟩
          · refine W.any (.dec (.move rfl) (decide_eq_false q10_7)) rfl rfl rfl ?_
            refine W.skip rfl rfl rfl (rfl) rfl rfl ?_
            refine W.skip rfl rfl rfl (rfl) rfl rfl ?_
            refine W.skip rfl rfl rfl (rfl) rfl rfl ?_
            refine W.skip rfl rfl rfl (rfl) rfl rfl ?_
            refine W.skip rfl rfl rfl (rfl) rfl rfl ?_
            refine W.skip rfl rfl rfl (rfl) rfl rfl ?_
            refine W.any (.pickF rfl rfl rfl) rfl rfl rfl ?_
            refine W.any (.move rfl) rfl rfl rfl ?_
            refine W.skip rfl rfl rfl (rfl) rfl rfl ?_
            refine W.skip rfl rfl rfl (rfl) rfl rfl ?_
            refine W.skip rfl rfl rfl (rfl) rfl rfl ?_
            refine W.skip rfl rfl rfl (rfl) rfl rfl ?_
            refine W.skip rfl rfl rfl (rfl) rfl rfl ?_
            refine W.skip rfl rfl rfl (rfl) rfl rfl ?_
            refine W.skip rfl rfl rfl (rfl) rfl rfl ?_
            refine W.skip rfl rfl rfl (rfl) rfl rfl ?_
            refine W.skip rfl rfl rfl (rfl) rfl rfl ?_
            refine W.any (.pickF rfl rfl rfl) rfl rfl rfl ?_
            refine W.any (.move rfl) rfl rfl rfl ?_
            refine W.skip rfl rfl rfl (rfl) rfl rfl ?_
            refine W.skip rfl rfl rfl (rfl) rfl rfl ?_
            refine W.skip rfl rfl rfl (rfl) rfl rfl ?_
            refine W.skip rfl rfl rfl (rfl) rfl rfl ?_
            refine W.any (.pickF rfl rfl rfl) rfl rfl rfl ?_
            refine W.any (.move rfl) rfl rfl rfl ?_
            refine W.skip rfl rfl rfl (rfl) rfl rfl ?_
            refine W.skip rfl rfl rfl (rfl) rfl rfl ?_
            refine W.any (.pickF rfl rfl rfl) rfl rfl rfl ?_
            refine W.any (.assign rfl) rfl rfl rfl ?_
            refine W.nil ?_
            refine E.meet false (.cons rfl (.cons rfl (.cons rfl (.cons rfl (.cons rfl (.cons rfl (.cons rfl (.cons rfl (.cons rfl (.cons rfl (.cons rfl (.cons rfl (.cons rfl (.cons rfl (.cons rfl (.nil _)))))))))))))))) ?_
            exact ⟨(by unfold GoesP; simp only [Bool.false_eq_true, false_iff, true_iff, iff_true]; omega), L15, Nat.le_refl _, f16, f17, f18, f19, f20, f21, f22, f23, f24, b9_10, f25, f26⟩
        · refine W.any (.dec (.move rfl) (decide_eq_false q10_2)) rfl rfl rfl ?_
          refine W.skip rfl rfl rfl (rfl) rfl rfl ?_
          refine W.skip rfl rfl rfl (rfl) rfl rfl ?_
          refine W.skip rfl rfl rfl (rfl) rfl rfl ?_
          refine W.any (.pickF rfl rfl rfl) rfl rfl rfl ?_
          refine W.any (.move rfl) rfl rfl rfl ?_
          refine W.skip rfl rfl rfl (rfl) rfl rfl ?_
          refine W.skip rfl rfl rfl (rfl) rfl rfl ?_
          refine W.skip rfl rfl rfl (rfl) rfl rfl ?_
          refine W.skip rfl rfl rfl (rfl) rfl rfl ?_
          refine W.skip rfl rfl rfl (rfl) rfl rfl ?_
          refine W.skip rfl rfl rfl (rfl) rfl rfl ?_
          refine W.any (.pickF rfl rfl rfl) rfl rfl rfl ?_
          refine W.any (.move rfl) rfl rfl rfl ?_
          refine W.skip rfl rfl rfl (rfl) rfl rfl ?_
          refine W.skip rfl rfl rfl (rfl) rfl rfl ?_
          refine W.skip rfl rfl rfl (rfl) rfl rfl ?_
          refine W.skip rfl rfl rfl (rfl) rfl rfl ?_
          refine W.skip rfl rfl rfl (rfl) rfl rfl ?_
          refine W.skip rfl rfl rfl (rfl) rfl rfl ?_
          refine W.skip rfl rfl rfl (rfl) rfl rfl ?_
          refine W.skip rfl rfl rfl (rfl) rfl rfl ?_
          refine W.skip rfl rfl rfl (rfl) rfl rfl ?_
          refine W.any (.pickF rfl rfl rfl) rfl rfl rfl ?_
          refine W.any (.move rfl) rfl rfl rfl ?_
          refine W.skip rfl rfl rfl (rfl) rfl rfl ?_
          refine W.skip rfl rfl rfl (rfl) rfl rfl ?_
          refine W.skip rfl rfl rfl (rfl) rfl rfl ?_
          refine W.skip rfl rfl rfl (rfl) rfl rfl ?_
          refine W.any (.pickF rfl rfl rfl) rfl rfl rfl ?_
          refine W.any (.move rfl) rfl rfl rfl ?_
          refine W.skip rfl rfl rfl (rfl) rfl rfl ?_
          refine W.skip rfl rfl rfl (rfl) rfl rfl ?_
          refine W.any (.pickF rfl rfl rfl) rfl rfl rfl ?_
          refine W.any (.assign rfl) rfl rfl rfl ?_
          refine W.nil ?_
          refine E.meet false (.cons rfl (.cons rfl (.cons rfl (.cons rfl (.cons rfl (.cons rfl (.cons rfl (.cons rfl (.cons rfl (.cons rfl (.cons rfl (.cons rfl (.cons rfl (.cons rfl (.cons rfl (.nil _)))))))))))))))) ?_
          exact ⟨(by unfold GoesP; simp only [Bool.false_eq_true, false_iff, true_iff, iff_true]; omega), L15, Nat.le_refl _, f16, f17, f18, f19, f20, f21, f22, f23, f24, b9_10, f25, f26⟩
      · rintro go wc11 ⟨hgo, Lc1, sc1, m1_0, m1_1, m1_2, m1_3, m1_4, m1_5, m1_6, m1_7, m1_8, m1_9, m1_10, m1_11⟩
        have lc1_5 : w3_2.heap.size ≤ wc11.heap.size := by have := sc1; have := h6_6.size; have := h6_11.size; have := h6_13.size; have := h7_2.size; have := h8_0.size; have := h8_4.size; have := h8_5.size; have := h9_4.size; have := h9_9.size; have := h9_10.size; omega
        have lc1_6 : w3_2.heap.size ≤ wc11.heap.size := by have := sc1; have := h6_6.size; have := h6_11.size; have := h6_13.size; have := h7_2.size; have := h8_0.size; have := h8_4.size; have := h8_5.size; have := h9_4.size; have := h9_9.size; have := h9_10.size; omega
        have lc1_7 : w3_2.heap.size ≤ wc11.heap.size := by have := sc1; have := h6_6.size; have := h6_11.size; have := h6_13.size; have := h7_2.size; have := h8_0.size; have := h8_4.size; have := h8_5.size; have := h9_4.size; have := h9_9.size; have := h9_10.size; omega
        have lc1_9 : w6_13.heap.size ≤ wc11.heap.size := by have := sc1; have := h7_2.size; have := h8_0.size; have := h8_4.size; have := h8_5.size; have := h9_4.size; have := h9_9.size; have := h9_10.size; omega
        have lc1_10 : w7_2.heap.size ≤ wc11.heap.size := by have := sc1; have := h8_0.size; have := h8_4.size; have := h8_5.size; have := h9_4.size; have := h9_9.size; have := h9_10.size; omega
        have lc1_11 : w7_2.heap.size ≤ wc11.heap.size := by have := sc1; have := h8_0.size; have := h8_4.size; have := h8_5.size; have := h9_4.size; have := h9_9.size; have := h9_10.size; omega
        have lc1_13 : w8_5.heap.size ≤ wc11.heap.size := by have := sc1; have := h9_4.size; have := h9_9.size; have := h9_10.size; omega
        have lc1_14 : w8_5.heap.size ≤ wc11.heap.size := by have := sc1; have := h9_4.size; have := h9_9.size; have := h9_10.size; omega
        have hcand : go = true → Cand g (mindG g l) fr to a x (rowsG g ps) := fun h => goes_cand heo1 ho1k (hgo.1 h)
        refine WC.seq ?_
        refine WC.seq ?_
        refine WC.region ?_
        refine W.any (.move rfl) rfl rfl rfl ?_
        refine W.any (.neq rfl rfl) rfl rfl rfl ?_
        refine W.nil ?_
        refine E.thenN ?_
        by_cases c1 : b1.2.2 ≠ 0
        · refine WC.condY rfl (decide_eq_true c1) ?_
          have hbe := best_err (g := g) (fr := fr) (to := to) (a := a) (x := x) hgm (by rw [← heb1]; assumption)
          rw [← heb1] at hbe
          have hgf : b1.2.2 = 1 ∨ (!go) = true := hbe.2.imp id (fun h => by cases hg0 : go; rfl; exact absurd ⟨(hgo.1 hg0).2.2.2.2.2, hcand hg0⟩ (h _))
          refine WC.seq ?_
          refine WC.region ?_
          refine W.any (.move rfl) rfl rfl rfl ?_
          refine W.any (.move rfl) rfl rfl rfl ?_
          refine W.rdg (Any.rd (.move rfl) _) rfl rfl rfl (rfl) rfl rfl ?_
          refine W.rdg (.len Tryz.underlying22 rfl) rfl rfl rfl (rfl) rfl rfl ?_
          refine W.rdg (Any.rd (.dec (.eql rfl rfl) (decide_eq_true (by have := hbe.1; rw [this]; rfl))) _) rfl rfl rfl (rfl) rfl rfl ?_
          refine W.any (.pickT rfl rfl rfl) rfl rfl rfl ?_
          refine W.any (.move rfl) rfl rfl rfl ?_
          refine W.rdg (Any.rd (.move rfl) _) rfl rfl rfl (rfl) rfl rfl ?_
          refine W.rdg (Any.rd (.eql rfl rfl) _) rfl rfl rfl (rfl) rfl rfl ?_
          by_cases q12_9 : b1.2.2 = 1
          · refine W.rdg (Any.rd (.dec (.move rfl) (decide_eq_true q12_9)) _) rfl rfl rfl (rfl) rfl rfl ?_
            refine W.skip rfl rfl rfl (rfl) rfl rfl ?_
            refine W.skip rfl rfl rfl (rfl) rfl rfl ?_
            refine W.rdg (Any.rd (.pickT rfl rfl rfl) _) rfl rfl rfl (rfl) rfl rfl ?_
            refine W.any (.pickT rfl rfl rfl) rfl rfl rfl ?_
            refine W.any (.assign rfl) rfl rfl rfl ?_
            refine W.nil ?_
            refine E.thenN ?_
            refine WC.ret ?_
            refine E.thenR ?_
            refine E.retG1 rfl rfl ?_
            exact ⟨rfl, Lc1⟩
          · refine W.rdg (Any.rd (.dec (.move rfl) (decide_eq_false q12_9)) _) rfl rfl rfl (rfl) rfl rfl ?_
            refine W.rdg (Any.rd (.move rfl) _) rfl rfl rfl (rfl) rfl rfl ?_
            refine W.rdg (Any.rd (.not rfl) _) rfl rfl rfl (rfl) rfl rfl ?_
            refine W.rdg (Any.rd (.pickF rfl rfl rfl) _) rfl rfl rfl (rfl) rfl rfl ?_
            refine W.any (.pickT rfl rfl rfl) rfl rfl rfl ?_
            refine W.any (.assign rfl) rfl rfl rfl ?_
            refine W.nil ?_
            refine E.thenN ?_
            refine WC.ret ?_
            refine E.thenR ?_
            refine E.retG1 rfl rfl ?_
            exact ⟨congrArg (fun b => Ending.returned (Value.bool b)) (hgf.resolve_left (by omega)), Lc1⟩
        · refine WC.condN rfl (decide_eq_false c1) ?_
          have hb10 : b1.2.2 = 0 := by omega
          have hbo := best_all (g := g) (fr := fr) (to := to) (a := a) (x := x) hgm (by rw [← heb1]; exact hb10)
          rw [← heb1] at hbo
          obtain ⟨hrg, hbc, hod, hbb⟩ := hbo
          have hwl := wayG_len hbc.way
          refine WC.skip ?_
          refine E.thenN ?_
          refine WC.seq ?_
          refine WC.region ?_
          refine W.any (.move rfl) rfl rfl rfl ?_
          refine W.any (.move rfl) rfl rfl rfl ?_
          refine W.any (.move rfl) rfl rfl rfl ?_
          refine W.any (.move rfl) rfl rfl rfl ?_
          obtain ⟨o2, heo2⟩ : ∃ z, z = oddsR (mindG g l) b1.1 a x := ⟨_, rfl⟩
          have hlo2 := oddsR_len hgm b1.1 a x
          rw [← heo2] at hlo2
          refine W.ef rfl rfl rfl ?_
          refine Ef.call go14 rfl rfl ((by have k := rodds_ok (c := cw6_6) a x wc11 m1_0 m1_1.vec (by omega); rw [← heo2] at k; exact k)) ?_
          rintro _ w13_4 ⟨An13_4, cn13_4, Ad13_4, cd13_4, rfl, on13_4, od13_4, h13_4⟩
          refine ⟨_, rfl, ?_⟩
          have L53 := Lc1.trans h13_4
          have ho2 : o2.2.2 = 0 ∧ o2.1 = b1.2.1 := ⟨by rw [heo2]; exact hbc.ok, by rw [heo2]; exact hod.symm⟩
          have ho2k : okF b1.2.1 := by rw [← ho2.2, heo2]; exact oddsR_ok hbc.ok
          have hpos : 0 < (cmpF (takF (⟨b1.2.1.n, b1.2.1.d⟩ : Fr)) (takF (⟨(lowF 0 1).n, (lowF 0 1).d⟩ : Fr))) := (cmp_pos ho2k).2 (by have := hbc.pos; rw [← hod] at this; exact this)
          have ho2 : o2.2.2 = 0 ∧ o2.1 = b1.2.1 := ⟨by rw [heo2]; exact hbc.ok, by rw [heo2]; exact hod.symm⟩
          have ho2k : okF b1.2.1 := by rw [← ho2.2, heo2]; exact oddsR_ok hbc.ok
          have hpos : 0 < (cmpF (takF (⟨b1.2.1.n, b1.2.1.d⟩ : Fr)) (takF (⟨(lowF 0 1).n, (lowF 0 1).d⟩ : Fr))) := (cmp_pos ho2k).2 (by have := hbc.pos; rw [← hod] at this; exact this)
          refine W.any (.move rfl) rfl rfl rfl ?_
          refine W.any (.extract (v := .agg #[.slice An13_4 ((digs o2.1.n).length) cn13_4, .slice Ad13_4 ((digs o2.1.d).length) cd13_4]) rfl rfl) rfl rfl rfl ?_
          refine W.any (.extract (v := .int .i64 (o2.2.1)) rfl rfl) rfl rfl rfl ?_
          refine W.any (.extract (v := .int .i64 (o2.2.2)) rfl rfl) rfl rfl rfl ?_
          refine W.ef rfl rfl rfl ?_
          refine Ef.allocA z33 ?_
          intro g13_9 w13_9 hg13_9 b13_9 h13_9
          have L54 := L53.trans h13_9
          have b13_9 : Blk w13_9 g13_9 33 #[.slice none 0 0, .slice none 0 0] := b13_9
          refine W.ef0 rfl rfl ?_
          refine Ef.storeAll sz33 (by rfl) rfl rfl b13_9 (by rfl) (by simp [Value.oneCell']) ?_
          intro w13_10 b13_10 h13_10
          have b13_10 : Blk w13_10 g13_9 33 #[.slice An13_4 ((digs o2.1.n).length) cn13_4, .slice Ad13_4 ((digs o2.1.d).length) cd13_4] := b13_10
          have L55 : Le w w13_10 := L54.then_ h13_10 (fun q hq => by cases hq; exact Nat.le_trans L53.size hg13_9)
          refine W.any (.assign rfl) rfl rfl rfl ?_
          refine W.any (.assign rfl) rfl rfl rfl ?_
          refine W.nil ?_
          refine E.thenN ?_
          refine WC.seq ?_
          refine WC.seq ?_
          refine WC.region ?_
          refine W.any (.move rfl) rfl rfl rfl ?_
          refine W.any (.dec (.neq rfl rfl) (decide_eq_false (fun h => h ho2.1))) rfl rfl rfl ?_
          refine W.any (.move rfl) rfl rfl rfl ?_
          refine W.rdg (.loadAll ag33 (by rfl) rfl b13_10) rfl rfl rfl (rfl) rfl rfl ?_
          have f56 := ((m1_2.le (h13_4.trans h13_9)).ch h13_10 (fun h => (show g13_9 ≠ g6_11 from by have := m1_2.lt; have := h13_4.size; omega) (Option.some.inj h)))
          refine W.rdg (.loadAll ag33 (by rfl) rfl f56) rfl rfl rfl (rfl) rfl rfl ?_
          have f57 := ((on13_4.le h13_9).ch h13_10 (fun q hq => by cases hq; exact (fun he => by have := (on13_4.row he).2; omega)))
          have f58 := ((od13_4.le h13_9).ch h13_10 (fun q hq => by cases hq; exact (fun he => by have := (od13_4.row he).2; omega)))
          have f59 := ((m1_3.le (h13_4.trans h13_9)).ch h13_10 (fun q hq => by cases hq; exact (fun he => by have := (m1_3.row he).2; have := h13_4.size; omega)))
          have f60 := ((m1_4.le (h13_4.trans h13_9)).ch h13_10 (fun q hq => by cases hq; exact (fun he => by have := (m1_4.row he).2; have := h13_4.size; omega)))
          refine W.efg rfl rfl rfl (rfl) rfl rfl ?_
          refine Ef.call go17 rfl rfl ((by have q := samef_ok (cn1 := cn13_4) (cd1 := cd13_4) (cn2 := cn6_6) (cd2 := cd6_6) w13_10 f57.vec f58.vec (by omega) (by omega) f59.vec f60.vec (by omega) (by omega); rw [decide_eq_true (show (⟨o2.1.n, o2.1.d⟩ : Fr) = ⟨b1.2.1.n, b1.2.1.d⟩ by rw [ho2.2])] at q; exact q)) ?_
          rintro _ w14_5 ⟨rfl, h14_5⟩
          refine ⟨_, rfl, ?_⟩
          have L61 := L55.trans h14_5
          refine W.rdg (Any.rd (.not rfl) _) rfl rfl rfl (rfl) rfl rfl ?_
          refine W.any (.pickF rfl rfl rfl) rfl rfl rfl ?_
          refine W.any (.move rfl) rfl rfl rfl ?_
          refine W.rdg (Any.rd (.move rfl) _) rfl rfl rfl (rfl) rfl rfl ?_
          have f62 := (((m1_1.le (h13_4.trans h13_9)).ch h13_10 (fun q hq => by cases hq; exact (fun he => by have := (m1_1.row he).2; have := h13_4.size; omega))).le h14_5)
          refine W.efg rfl rfl rfl (rfl) rfl rfl ?_
          refine Ef.call go25 rfl rfl ((by have q := gway_ok (n := b1.1.length) (c := cw6_6) w14_5 f62.vec (by omega); rw [hbc.way] at q; exact q)) ?_
          rintro _ w14_10 ⟨rfl, h14_10⟩
          refine ⟨_, rfl, ?_⟩
          have L63 := L61.trans h14_10
          refine W.rdg (Any.rd (.not rfl) _) rfl rfl rfl (rfl) rfl rfl ?_
          refine W.any (.pickF rfl rfl rfl) rfl rfl rfl ?_
          refine W.any (.move rfl) rfl rfl rfl ?_
          refine W.rdg (Any.rd (.move rfl) _) rfl rfl rfl (rfl) rfl rfl ?_
          refine W.rdg (.len Tryz.underlying22 rfl) rfl rfl rfl (rfl) rfl rfl ?_
          refine W.rdg (Any.rd (.dec (.eql rfl rfl) (decide_eq_false (by omega))) _) rfl rfl rfl (rfl) rfl rfl ?_
          refine W.any (.pickF rfl rfl rfl) rfl rfl rfl ?_
          refine W.any (.move rfl) rfl rfl rfl ?_
          refine W.rdg (Any.rd (.move rfl) _) rfl rfl rfl (rfl) rfl rfl ?_
          refine W.rdg (Any.rd (.idxS (0) Tryz.underlying22 sz51 rfl rfl (ow6_6.vec.isSome edgeV_row (by omega)) (rfl) (by omega)) _) rfl rfl rfl (rfl) rfl rfl ?_
          refine W.rdg (Any.rd (.vfield fa51_0 (ow6_6.vec.isSome edgeV_row (by omega)) rfl) _) rfl rfl rfl (rfl) rfl rfl ?_
          have f64 := (f62.le h14_10)
          refine W.rdg (.vcell (j := 0) (o := 0) (v := .int .i64 ((b1.1.getD 0 noEdge).f)) na3 rfl f64.vec edgeV_row (getS b1.1 noEdge (by first | omega | (simp only [List.length_cons, List.length_nil]; omega))) rfl) rfl rfl rfl (rfl) rfl rfl ?_
          refine W.rdg (Any.rd (.move rfl) _) rfl rfl rfl (rfl) rfl rfl ?_
          refine W.rdg (Any.rd (.dec (.neq rfl rfl) (decide_eq_false (fun h => h hbc.fst))) _) rfl rfl rfl (rfl) rfl rfl ?_
          refine W.any (.pickF rfl rfl rfl) rfl rfl rfl ?_
          refine W.any (.move rfl) rfl rfl rfl ?_
          refine W.rdg (Any.rd (.move rfl) _) rfl rfl rfl (rfl) rfl rfl ?_
          refine W.rdg (Any.rd (.move rfl) _) rfl rfl rfl (rfl) rfl rfl ?_
          refine W.rdg (.len Tryz.underlying22 rfl) rfl rfl rfl (rfl) rfl rfl ?_
          refine W.rdg (Any.rd (.sub rfl rfl (by omega)) _) rfl rfl rfl (rfl) rfl rfl ?_
          refine W.rdg (Any.rd (.idxS ((b1.1.length - 1)) Tryz.underlying22 sz51 rfl rfl (ow6_6.vec.isSome edgeV_row (by omega)) (by omega) (by omega)) _) rfl rfl rfl (rfl) rfl rfl ?_
          refine W.rdg (Any.rd (.vfield fa51_1 (ow6_6.vec.isSome edgeV_row (by omega)) rfl) _) rfl rfl rfl (rfl) rfl rfl ?_
          refine W.rdg (.vcell (j := (b1.1.length - 1)) (o := 1) (v := .int .i64 ((b1.1.getD (b1.1.length - 1) noEdge).t)) na3 rfl f64.vec edgeV_row (getS b1.1 noEdge (by first | omega | (simp only [List.length_cons, List.length_nil]; omega))) rfl) rfl rfl rfl (rfl) rfl rfl ?_
          refine W.rdg (Any.rd (.move rfl) _) rfl rfl rfl (rfl) rfl rfl ?_
          refine W.rdg (Any.rd (.dec (.neq rfl rfl) (decide_eq_false (fun h => h hbc.lst))) _) rfl rfl rfl (rfl) rfl rfl ?_
          refine W.any (.pickF rfl rfl rfl) rfl rfl rfl ?_
          refine W.any (.move rfl) rfl rfl rfl ?_
          have f65 := (f56.le (h14_5.trans h14_10))
          refine W.rdg (.loadAll ag33 (by rfl) rfl f65) rfl rfl rfl (rfl) rfl rfl ?_
          have f66 := (((m1_6.le (h13_4.trans h13_9)).ch h13_10 (fun h => (show g13_9 ≠ g8_4 from by have := m1_6.lt; have := h13_4.size; omega) (Option.some.inj h))).le (h14_5.trans h14_10))
          refine W.rdg (.loadAll ag33 (by rfl) rfl f66) rfl rfl rfl (rfl) rfl rfl ?_
          have f67 := (f59.le (h14_5.trans h14_10))
          have f68 := (f60.le (h14_5.trans h14_10))
          have f69 := (((m1_7.le (h13_4.trans h13_9)).ch h13_10 (fun q hq => by cases hq; exact (fun he => by have := (m1_7.row he).2; have := h13_4.size; omega))).le (h14_5.trans h14_10))
          have f70 := (((m1_8.le (h13_4.trans h13_9)).ch h13_10 (fun q hq => by cases hq; exact (fun he => by have := (m1_8.row he).2; have := h13_4.size; omega))).le (h14_5.trans h14_10))
          refine W.efg rfl rfl rfl (rfl) rfl rfl ?_
          refine Ef.call go22 rfl rfl (fcmp_ok w14_10 f67.vec f68.vec (by omega) (by omega) f69.vec f70.vec (by omega) (by omega)) ?_
          rintro _ w14_40 ⟨rfl, h14_40⟩
          refine ⟨_, rfl, ?_⟩
          have L71 := L63.trans h14_40
          refine W.rdg (Any.rd (.dec (.leq rfl rfl) (decide_eq_false (by omega))) _) rfl rfl rfl (rfl) rfl rfl ?_
          refine W.any (.pickF rfl rfl rfl) rfl rfl rfl ?_
          refine W.nil ?_
          refine E.thenN ?_
          refine WC.condF rfl ?_
          refine WC.skip ?_
          refine E.thenN ?_
          refine WC.seq ?_
          refine WC.seq ?_
          refine WC.region ?_
          refine W.any (.assign rfl) rfl rfl rfl ?_
          refine W.nil ?_
          refine E.thenN ?_
          refine WC.block ?_
          have f72 := (f64.le h14_40)
          have f73 := (f65.le h14_40)
          have f74 := (f67.le h14_40)
          have f75 := (f68.le h14_40)
          have f76 := (((m1_5.le (h13_4.trans h13_9)).ch h13_10 (fun q hq => by cases hq; exact (fun he => by have := (m1_5.row he).2; have := h13_4.size; omega))).le (h14_5.trans (h14_10.trans h14_40)))
          have f77 := (((m1_9.le (h13_4.trans h13_9)).ch h13_10 (fun h => (show g13_9 ≠ g9_9 from by have := m1_9.lt; have := h13_4.size; omega) (Option.some.inj h))).le (h14_5.trans (h14_10.trans h14_40)))
          have f78 := (((m1_10.le (h13_4.trans h13_9)).ch h13_10 (fun q hq => by cases hq; exact (fun he => by have := (m1_10.row he).2; have := h13_4.size; omega))).le (h14_5.trans (h14_10.trans h14_40)))
          have f79 := (((m1_11.le (h13_4.trans h13_9)).ch h13_10 (fun q hq => by cases hq; exact (fun he => by have := (m1_11.row he).2; have := h13_4.size; omega))).le (h14_5.trans (h14_10.trans h14_40)))
          refine WC.loop (ι := Nat) (fun k => [(0, .slice A n c), (15, .bool true), (18, .slice Aw6_6 b1.1.length cw6_6), (19, .pointer (some ⟨g6_11, 0, none⟩)), (21, .slice Ar7_2 ((rowsG g ps).length) cr7_2), (24, .pointer (some ⟨g9_9, 0, none⟩)), (25, .int .i64 (o1.2.1)), (27, .bool (go)), (29, .int .i64 (o2.2.1)), (31, .int .i64 (((k : Nat) : Int)))]) (fun k wl0 => (k ≤ b1.1.length) ∧ Le w wl0 ∧ w14_40.heap.size ≤ wl0.heap.size ∧ OVec wl0 w3_2.heap.size 51 edgeV 9 Aw6_6 b1.1.length cw6_6 b1.1 ∧ Blk wl0 g6_11 33 #[.slice An6_6 ((digs b1.2.1.n).length) cn6_6, .slice Ad6_6 ((digs b1.2.1.d).length) cd6_6] ∧ OVec wl0 w3_2.heap.size 122 dv 1 An6_6 ((digs b1.2.1.n).length) cn6_6 (digs b1.2.1.n) ∧ OVec wl0 w3_2.heap.size 122 dv 1 Ad6_6 ((digs b1.2.1.d).length) cd6_6 (digs b1.2.1.d) ∧ OVec wl0 w6_13.heap.size 51 edgeV 9 Ar7_2 ((rowsG g ps).length) cr7_2 (rowsG g ps) ∧ Blk wl0 g9_9 33 #[.slice An9_4 ((digs o1.1.n).length) cn9_4, .slice Ad9_4 ((digs o1.1.d).length) cd9_4] ∧ OVec wl0 w8_5.heap.size 122 dv 1 An9_4 ((digs o1.1.n).length) cn9_4 (digs o1.1.n) ∧ OVec wl0 w8_5.heap.size 122 dv 1 Ad9_4 ((digs o1.1.d).length) cd9_4 (digs o1.1.d)) (fun k => b1.1.length - k) 0 ?_ ?_ ?_
          · exact .cons rfl (.cons rfl (.cons rfl (.cons rfl (.cons rfl (.cons rfl (.cons rfl (.cons rfl (.cons rfl (.cons rfl (.nil _))))))))))
          · exact ⟨Nat.zero_le _, L71, Nat.le_refl _, f72, f73, f74, f75, f76, f77, f78, f79⟩
          · rintro k wl0 ⟨hk, Ll0, zl0, f0_0, f0_1, f0_2, f0_3, f0_4, f0_5, f0_6, f0_7⟩
            have lb0_5 : w3_2.heap.size ≤ wl0.heap.size := Nat.le_trans lc1_7 (by have := h13_4.size; have := h13_9.size; have := h13_10.size; have := h14_5.size; have := h14_10.size; have := h14_40.size; omega)
            have lb0_6 : w3_2.heap.size ≤ wl0.heap.size := Nat.le_trans lc1_7 (by have := h13_4.size; have := h13_9.size; have := h13_10.size; have := h14_5.size; have := h14_10.size; have := h14_40.size; omega)
            have lb0_7 : w3_2.heap.size ≤ wl0.heap.size := Nat.le_trans lc1_7 (by have := h13_4.size; have := h13_9.size; have := h13_10.size; have := h14_5.size; have := h14_10.size; have := h14_40.size; omega)
            have lb0_9 : w6_13.heap.size ≤ wl0.heap.size := Nat.le_trans lc1_9 (by have := h13_4.size; have := h13_9.size; have := h13_10.size; have := h14_5.size; have := h14_10.size; have := h14_40.size; omega)
            have lb0_13 : w8_5.heap.size ≤ wl0.heap.size := Nat.le_trans lc1_14 (by have := h13_4.size; have := h13_9.size; have := h13_10.size; have := h14_5.size; have := h14_10.size; have := h14_40.size; omega)
            have lb0_14 : w8_5.heap.size ≤ wl0.heap.size := Nat.le_trans lc1_14 (by have := h13_4.size; have := h13_9.size; have := h13_10.size; have := h14_5.size; have := h14_10.size; have := h14_40.size; omega)
            refine WC.seq ?_
            refine WC.seq ?_
            refine WC.region ?_
            refine W.any (.move rfl) rfl rfl rfl ?_
            refine W.any (.move rfl) rfl rfl rfl ?_
            refine W.rd (.len Tryz.underlying22 rfl) rfl rfl rfl ?_
            refine W.any (.lss rfl rfl) rfl rfl rfl ?_
            refine W.nil ?_
            refine E.thenN ?_
            by_cases c3 : ((k : Nat) : Int) < ((b1.1.length : Nat) : Int)
            · refine WC.condY rfl (decide_eq_true c3) ?_
              refine WC.skip ?_
              refine E.thenN ?_
              refine WC.seq ?_
              refine WC.block ?_
              refine WC.seq ?_
              refine WC.drawT (fun o => (app o [0, 1, 2, 3, 4, 5, 6, 7, 8, 9, 10] (.br (app o [11, 12, 13, 14, 15, 16, 17] .nil) (app o [15, 11, 12, 13, 14, 16, 17] .nil)))) mixed (by kernel_rfl) ?_
              intro w19 d19
              have L80 := Ll0.trans d19
              refine GT.app ?_
              refine G.any rfl rfl (.move rfl) rfl rfl rfl ?_
              refine G.any rfl rfl (.move rfl) rfl rfl rfl ?_
              refine G.any rfl rfl (.move rfl) rfl rfl rfl ?_
              refine G.any rfl rfl (.idxS (k) Tryz.underlying22 sz51 rfl rfl (ow6_6.vec.isSome edgeV_row (by omega)) (rfl) (by omega)) rfl rfl rfl ?_
              refine G.any rfl rfl (.vfield fa51_2 (ow6_6.vec.isSome edgeV_row (by omega)) rfl) rfl rfl rfl ?_
              have f81 := (f0_0.le d19)
              refine G.rd rfl rfl (.vcell (j := k) (o := 2) (v := .int .i64 ((b1.1.getD k noEdge).c)) na3 rfl f81.vec edgeV_row (getS b1.1 noEdge (by first | omega | (simp only [List.length_cons, List.length_nil]; omega))) rfl) rfl rfl rfl ?_
              refine G.any rfl rfl (.move rfl) rfl rfl rfl ?_
              refine G.any rfl rfl (.move rfl) rfl rfl rfl ?_
              refine G.any rfl rfl (.idxS (k) Tryz.underlying22 sz51 rfl rfl (ow6_6.vec.isSome edgeV_row (by omega)) (rfl) (by omega)) rfl rfl rfl ?_
              refine G.any rfl rfl (.vfield fa51_0 (ow6_6.vec.isSome edgeV_row (by omega)) rfl) rfl rfl rfl ?_
              refine G.rd rfl rfl (.vcell (j := k) (o := 0) (v := .int .i64 ((b1.1.getD k noEdge).f)) na3 rfl f81.vec edgeV_row (getS b1.1 noEdge (by first | omega | (simp only [List.length_cons, List.length_nil]; omega))) rfl) rfl rfl rfl ?_
              refine G.nil ?_
              refine GT.br ?_ ?_
              · refine GT.last ?_
                refine G.ef rfl rfl rfl rfl rfl ?_
                refine Ef.call go26 rfl rfl ((by have q := find_ok (n := n) (c := c) ((b1.1.getD k noEdge).c) ((b1.1.getD k noEdge).f) w19 (hV.le L80) (by omega); rw [find_in hrg (hbc.sub _ (getD_in (z := noEdge) (show k < b1.1.length by omega)))] at q; exact q)) ?_
                rintro _ w19_11 ⟨rfl, h19_11⟩
                refine ⟨_, rfl, ?_⟩
                refine ⟨fun _ => h19_11, ?_⟩
                have L82 := L80.trans h19_11
                refine G.any rfl rfl (.move rfl) rfl rfl rfl ?_
                refine G.any rfl rfl (.extract (v := .agg (edgeV (b1.1.getD k noEdge)).toArray) rfl rfl) rfl rfl rfl ?_
                refine G.any rfl rfl (.extract (v := .bool true) rfl rfl) rfl rfl rfl ?_
                refine G.ef rfl rfl rfl rfl rfl ?_
                refine Ef.allocA z51 ?_
                intro g19_15 w19_15 hg19_15 b19_15 h19_15
                refine ⟨fun _ => h19_15, ?_⟩
                have L83 := L82.trans h19_15
                have b19_15 : Blk w19_15 g19_15 51 (edgeV noEdge).toArray := b19_15
                refine G.ef0 rfl rfl rfl rfl ?_
                refine Ef.storeAll sz51 (by rfl) rfl rfl b19_15 (by simp only [List.size_toArray, edgeV_row.len]) (edgeV_row.one (b1.1.getD k noEdge)) ?_
                intro w19_16 b19_16 h19_16
                refine ⟨fun h => absurd h (ne_true_of_eq_false (by kernel_rfl)), ?_⟩
                have b19_16 : Blk w19_16 g19_15 51 (edgeV (b1.1.getD k noEdge)).toArray := b19_16
                have L84 : Le w w19_16 := L83.then_ h19_16 (fun q hq => by cases hq; exact Nat.le_trans L82.size hg19_15)
                refine G.any rfl rfl (.assign rfl) rfl rfl rfl ?_
                refine G.nil ?_
                refine E.thenN ?_
                refine WC.seq ?_
                refine WC.draw [0, 1, 2, 3, 4, 5, 6, 7, 8, 9] mixed (by kernel_rfl) ?_
                intro w20 d20
                have L85 := L84.trans d20
                refine G.any rfl rfl (.move rfl) rfl rfl rfl ?_
                refine G.any rfl rfl (.not rfl) rfl rfl rfl ?_
                refine G.any rfl rfl (.move rfl) rfl rfl rfl ?_
                have f86 := (b19_16.le d20)
                refine G.rdg rfl rfl (.loadAll ag51 (by rfl) rfl f86) rfl rfl rfl (rfl) rfl rfl ?_
                refine G.anyg rfl rfl (.move rfl) rfl rfl rfl (rfl) rfl rfl ?_
                refine G.anyg rfl rfl (.move rfl) rfl rfl rfl (rfl) rfl rfl ?_
                refine G.anyg rfl rfl (.idxS (k) Tryz.underlying22 sz51 rfl rfl (ow6_6.vec.isSome edgeV_row (by omega)) (rfl) (by omega)) rfl rfl rfl (rfl) rfl rfl ?_
                have f87 := (((f81.le (h19_11.trans h19_15)).ch h19_16 (fun q hq => by cases hq; exact (fun he => by have := (f81.row he).2; have := h19_11.size; omega))).le d20)
                refine G.rdg rfl rfl (.vload ag51 rfl f87.vec edgeV_row (getS b1.1 noEdge (by first | omega | (simp only [List.length_cons, List.length_nil]; omega)))) rfl rfl rfl (rfl) rfl rfl ?_
                refine G.anyg rfl rfl (.dec (.neA eg51 rfl rfl (eqv_edge (d := 9997) _ _)) (show (!decide ((b1.1.getD k noEdge) = (b1.1.getD k noEdge))) = false from by simp)) rfl rfl rfl (rfl) rfl rfl ?_
                refine G.any rfl rfl (.pickF rfl rfl rfl) rfl rfl rfl ?_
                refine G.nil ?_
                refine E.thenN ?_
                refine WC.condF rfl ?_
                refine WC.skip ?_
                refine E.blkN ?_
                refine E.thenN ?_
                refine WC.region ?_
                refine W.any (.move rfl) rfl rfl rfl ?_
                refine W.any (.add rfl rfl (by omega)) rfl rfl rfl ?_
                refine W.any (.assign rfl) rfl rfl rfl ?_
                refine W.nil ?_
                have f88 := (((f0_1.le (d19.trans (h19_11.trans h19_15))).ch h19_16 (fun h => (show g19_15 ≠ g6_11 from by have := f0_1.lt; have := d19.size; have := h19_11.size; omega) (Option.some.inj h))).le d20)
                have f89 := (((f0_2.le (d19.trans (h19_11.trans h19_15))).ch h19_16 (fun q hq => by cases hq; exact (fun he => by have := (f0_2.row he).2; have := d19.size; have := h19_11.size; omega))).le d20)
                have f90 := (((f0_3.le (d19.trans (h19_11.trans h19_15))).ch h19_16 (fun q hq => by cases hq; exact (fun he => by have := (f0_3.row he).2; have := d19.size; have := h19_11.size; omega))).le d20)
                have f91 := (((f0_4.le (d19.trans (h19_11.trans h19_15))).ch h19_16 (fun q hq => by cases hq; exact (fun he => by have := (f0_4.row he).2; have := d19.size; have := h19_11.size; omega))).le d20)
                have f92 := (((f0_5.le (d19.trans (h19_11.trans h19_15))).ch h19_16 (fun h => (show g19_15 ≠ g9_9 from by have := f0_5.lt; have := d19.size; have := h19_11.size; omega) (Option.some.inj h))).le d20)
                have f93 := (((f0_6.le (d19.trans (h19_11.trans h19_15))).ch h19_16 (fun q hq => by cases hq; exact (fun he => by have := (f0_6.row he).2; have := d19.size; have := h19_11.size; omega))).le d20)
                have f94 := (((f0_7.le (d19.trans (h19_11.trans h19_15))).ch h19_16 (fun q hq => by cases hq; exact (fun he => by have := (f0_7.row he).2; have := d19.size; have := h19_11.size; omega))).le d20)
                refine E.again (k + 1) (.cons rfl (.cons rfl (.cons rfl (.cons rfl (.cons rfl (.cons rfl (.cons rfl (.cons rfl (.cons rfl (.cons rfl (.nil _))))))))))) ?_ ?_
                · exact ⟨by omega, L85, by have := zl0; have := d19.size; have := h19_11.size; have := h19_15.size; have := h19_16.size; have := d20.size; omega, f87, f88, f89, f90, f91, f92, f93, f94⟩
                · first | omega | (simp only []; omega)
              · refine GT.last ?_
                refine G.ef rfl rfl rfl rfl rfl ?_
                refine Ef.allocA z51 ?_
                intro g19_15_1 w19_15_1 hg19_15_1 b19_15_1 h19_15_1
                refine ⟨fun _ => h19_15_1, ?_⟩
                have L95 := L80.trans h19_15_1
                have b19_15_1 : Blk w19_15_1 g19_15_1 51 (edgeV noEdge).toArray := b19_15_1
                refine G.ef rfl rfl rfl rfl rfl ?_
                refine Ef.call go26 rfl rfl ((by have q := find_ok (n := n) (c := c) ((b1.1.getD k noEdge).c) ((b1.1.getD k noEdge).f) w19_15_1 (hV.le L95) (by omega); rw [find_in hrg (hbc.sub _ (getD_in (z := noEdge) (show k < b1.1.length by omega)))] at q; exact q)) ?_
                rintro _ w19_11_1 ⟨rfl, h19_11_1⟩
                refine ⟨_, rfl, ?_⟩
                refine ⟨fun _ => h19_11_1, ?_⟩
                have L96 := L95.trans h19_11_1
                refine G.any rfl rfl (.move rfl) rfl rfl rfl ?_
                refine G.any rfl rfl (.extract (v := .agg (edgeV (b1.1.getD k noEdge)).toArray) rfl rfl) rfl rfl rfl ?_
                refine G.any rfl rfl (.extract (v := .bool true) rfl rfl) rfl rfl rfl ?_
                have f97 := (b19_15_1.le h19_11_1)
                refine G.ef0 rfl rfl rfl rfl ?_
                refine Ef.storeAll sz51 (by rfl) rfl rfl f97 (by simp only [List.size_toArray, edgeV_row.len]) (edgeV_row.one (b1.1.getD k noEdge)) ?_
                intro w19_16_1 b19_16_1 h19_16_1
                refine ⟨fun h => absurd h (ne_true_of_eq_false (by kernel_rfl)), ?_⟩
                have b19_16_1 : Blk w19_16_1 g19_15_1 51 (edgeV (b1.1.getD k noEdge)).toArray := b19_16_1
                have L98 : Le w w19_16_1 := L96.then_ h19_16_1 (fun q hq => by cases hq; exact Nat.le_trans L80.size hg19_15_1)
                refine G.any rfl rfl (.assign rfl) rfl rfl rfl ?_
                refine G.nil ?_
                refine E.thenN ?_
                refine WC.seq ?_
                refine WC.draw [0, 1, 2, 3, 4, 5, 6, 7, 8, 9] mixed (by kernel_rfl) ?_
                intro w20 d20
                have L99 := L98.trans d20
                refine G.any rfl rfl (.move rfl) rfl rfl rfl ?_
                refine G.any rfl rfl (.not rfl) rfl rfl rfl ?_
                refine G.any rfl rfl (.move rfl) rfl rfl rfl ?_
                have f100 := (b19_16_1.le d20)
                refine G.rdg rfl rfl (.loadAll ag51 (by rfl) rfl f100) rfl rfl rfl (rfl) rfl rfl ?_
                refine G.anyg rfl rfl (.move rfl) rfl rfl rfl (rfl) rfl rfl ?_
                refine G.anyg rfl rfl (.move rfl) rfl rfl rfl (rfl) rfl rfl ?_
                refine G.anyg rfl rfl (.idxS (k) Tryz.underlying22 sz51 rfl rfl (ow6_6.vec.isSome edgeV_row (by omega)) (rfl) (by omega)) rfl rfl rfl (rfl) rfl rfl ?_
                have f101 := (((f81.le (h19_15_1.trans h19_11_1)).ch h19_16_1 (fun q hq => by cases hq; exact (fun he => by have := (f81.row he).2; omega))).le d20)
                refine G.rdg rfl rfl (.vload ag51 rfl f101.vec edgeV_row (getS b1.1 noEdge (by first | omega | (simp only [List.length_cons, List.length_nil]; omega)))) rfl rfl rfl (rfl) rfl rfl ?_
                refine G.anyg rfl rfl (.dec (.neA eg51 rfl rfl (eqv_edge (d := 9997) _ _)) (show (!decide ((b1.1.getD k noEdge) = (b1.1.getD k noEdge))) = false from by simp)) rfl rfl rfl (rfl) rfl rfl ?_
                refine G.any rfl rfl (.pickF rfl rfl rfl) rfl rfl rfl ?_
                refine G.nil ?_
                refine E.thenN ?_
                refine WC.condF rfl ?_
                refine WC.skip ?_
                refine E.blkN ?_
                refine E.thenN ?_
                refine WC.region ?_
                refine W.any (.move rfl) rfl rfl rfl ?_
                refine W.any (.add rfl rfl (by omega)) rfl rfl rfl ?_
                refine W.any (.assign rfl) rfl rfl rfl ?_
                refine W.nil ?_
                have f102 := (((f0_1.le (d19.trans (h19_15_1.trans h19_11_1))).ch h19_16_1 (fun h => (show g19_15_1 ≠ g6_11 from by have := f0_1.lt; have := d19.size; omega) (Option.some.inj h))).le d20)
                have f103 := (((f0_2.le (d19.trans (h19_15_1.trans h19_11_1))).ch h19_16_1 (fun q hq => by cases hq; exact (fun he => by have := (f0_2.row he).2; have := d19.size; omega))).le d20)
                have f104 := (((f0_3.le (d19.trans (h19_15_1.trans h19_11_1))).ch h19_16_1 (fun q hq => by cases hq; exact (fun he => by have := (f0_3.row he).2; have := d19.size; omega))).le d20)
                have f105 := (((f0_4.le (d19.trans (h19_15_1.trans h19_11_1))).ch h19_16_1 (fun q hq => by cases hq; exact (fun he => by have := (f0_4.row he).2; have := d19.size; omega))).le d20)
                have f106 := (((f0_5.le (d19.trans (h19_15_1.trans h19_11_1))).ch h19_16_1 (fun h => (show g19_15_1 ≠ g9_9 from by have := f0_5.lt; have := d19.size; omega) (Option.some.inj h))).le d20)
                have f107 := (((f0_6.le (d19.trans (h19_15_1.trans h19_11_1))).ch h19_16_1 (fun q hq => by cases hq; exact (fun he => by have := (f0_6.row he).2; have := d19.size; omega))).le d20)
                have f108 := (((f0_7.le (d19.trans (h19_15_1.trans h19_11_1))).ch h19_16_1 (fun q hq => by cases hq; exact (fun he => by have := (f0_7.row he).2; have := d19.size; omega))).le d20)
                refine E.again (k + 1) (.cons rfl (.cons rfl (.cons rfl (.cons rfl (.cons rfl (.cons rfl (.cons rfl (.cons rfl (.cons rfl (.cons rfl (.nil _))))))))))) ?_ ?_
                · exact ⟨by omega, L99, by have := zl0; have := d19.size; have := h19_15_1.size; have := h19_11_1.size; have := h19_16_1.size; have := d20.size; omega, f101, f102, f103, f104, f105, f106, f107, f108⟩
                · first | omega | (simp only []; omega)
            · refine WC.condN rfl (decide_eq_false c3) ?_
              refine WC.exit ?_
              refine E.thenX ?_
              refine E.thenX ?_
              refine E.blkH ?_
              refine E.thenN ?_
              refine WC.seq ?_
              refine WC.seq ?_
              refine WC.region ?_
              refine W.any (.move rfl) rfl rfl rfl ?_
              refine W.any (.not rfl) rfl rfl rfl ?_
              refine W.nil ?_
              refine E.thenN ?_
              by_cases c5 : go = true
              · refine WC.condN rfl (congrArg not (c5)) ?_
                have hgT : go = true := by assumption
                have hbp := ordB_parts (hbb _ (hcand hgT))
                have hbp' : (cmpF (takF (⟨o1.1.n, o1.1.d⟩ : Fr)) (takF (⟨b1.2.1.n, b1.2.1.d⟩ : Fr))) ≤ 0 ∧ ((cmpF (takF (⟨o1.1.n, o1.1.d⟩ : Fr)) (takF (⟨b1.2.1.n, b1.2.1.d⟩ : Fr))) = 0 → o2.2.1 ≤ o1.2.1) ∧ ((cmpF (takF (⟨o1.1.n, o1.1.d⟩ : Fr)) (takF (⟨b1.2.1.n, b1.2.1.d⟩ : Fr))) = 0 → o2.2.1 = o1.2.1 → rowsC b1.1 (rowsG g ps) ≤ 0) := by rw [heo1, heo2, hod]; exact hbp
                refine WC.skip ?_
                refine E.thenN ?_
                refine WC.seq ?_
                refine WC.region ?_
                refine W.rd (.loadAll ag33 (by rfl) rfl f0_5) rfl rfl rfl ?_
                refine W.rd (.loadAll ag33 (by rfl) rfl f0_1) rfl rfl rfl ?_
                refine W.ef rfl rfl rfl ?_
                refine Ef.call go22 rfl rfl (fcmp_ok wl0 f0_6.vec f0_7.vec (by omega) (by omega) f0_2.vec f0_3.vec (by omega) (by omega)) ?_
                rintro _ w24_2 ⟨rfl, h24_2⟩
                refine ⟨_, rfl, ?_⟩
                have L109 := Ll0.trans h24_2
                refine W.any (.assign rfl) rfl rfl rfl ?_
                refine W.nil ?_
                refine E.thenN ?_
                refine WC.seq ?_
                refine WC.seq ?_
                refine WC.region ?_
                refine W.any (.move rfl) rfl rfl rfl ?_
                refine W.any (.dec (.gtr rfl rfl) (decide_eq_false (by omega))) rfl rfl rfl ?_
                refine W.any (.move rfl) rfl rfl rfl ?_
                refine W.rdg (Any.rd (.move rfl) _) rfl rfl rfl (rfl) rfl rfl ?_
                refine W.rdg (Any.rd (.eql rfl rfl) _) rfl rfl rfl (rfl) rfl rfl ?_
                by_cases q25_5 : (cmpF (takF (⟨o1.1.n, o1.1.d⟩ : Fr)) (takF (⟨b1.2.1.n, b1.2.1.d⟩ : Fr))) = 0
                · refine W.rdg (Any.rd (.dec (.move rfl) (decide_eq_true q25_5)) _) rfl rfl rfl (rfl) rfl rfl ?_
                  refine W.rdg (Any.rd (.move rfl) _) rfl rfl rfl (rfl) rfl rfl ?_
                  refine W.rdg (Any.rd (.move rfl) _) rfl rfl rfl (rfl) rfl rfl ?_
                  refine W.rdg (Any.rd (.dec (.lss rfl rfl) (decide_eq_false (by have := hbp'.2.1 (by assumption); omega))) _) rfl rfl rfl (rfl) rfl rfl ?_
                  refine W.rdg (Any.rd (.pickT rfl rfl rfl) _) rfl rfl rfl (rfl) rfl rfl ?_
                  refine W.any (.pickF rfl rfl rfl) rfl rfl rfl ?_
                  refine W.nil ?_
                  refine E.thenN ?_
                  refine WC.condF rfl ?_
                  refine WC.skip ?_
                  refine E.thenN ?_
                  refine WC.seq ?_
                  refine WC.seq ?_
                  refine WC.region ?_
                  refine W.any (.move rfl) rfl rfl rfl ?_
                  refine W.any (.lss rfl rfl) rfl rfl rfl ?_
                  by_cases q27_2 : (cmpF (takF (⟨o1.1.n, o1.1.d⟩ : Fr)) (takF (⟨b1.2.1.n, b1.2.1.d⟩ : Fr))) < 0
                  · refine W.any (.dec (.move rfl) (decide_eq_true q27_2)) rfl rfl rfl ?_
                    refine W.skip rfl rfl rfl (rfl) rfl rfl ?_
                    refine W.skip rfl rfl rfl (rfl) rfl rfl ?_
                    refine W.skip rfl rfl rfl (rfl) rfl rfl ?_
                    refine W.any (.pickT rfl rfl rfl) rfl rfl rfl ?_
                    refine W.nil ?_
                    refine E.thenN ?_
                    refine WC.condT rfl ?_
                    refine WC.seq ?_
                    refine WC.region ?_
                    refine W.any (.move rfl) rfl rfl rfl ?_
                    refine W.any (.assign rfl) rfl rfl rfl ?_
                    refine W.nil ?_
                    refine E.thenN ?_
                    refine WC.ret ?_
                    refine E.thenR ?_
                    refine E.retG1 rfl rfl ?_
                    exact ⟨rfl, L109⟩
                  · refine W.any (.dec (.move rfl) (decide_eq_false q27_2)) rfl rfl rfl ?_
                    refine W.rdg (Any.rd (.move rfl) _) rfl rfl rfl (rfl) rfl rfl ?_
                    refine W.rdg (Any.rd (.move rfl) _) rfl rfl rfl (rfl) rfl rfl ?_
                    refine W.rdg (Any.rd (.gtr rfl rfl) _) rfl rfl rfl (rfl) rfl rfl ?_
                    refine W.any (.pickF rfl rfl rfl) rfl rfl rfl ?_
                    refine W.nil ?_
                    refine E.thenN ?_
                    by_cases c7 : o2.2.1 < o1.2.1
                    · refine WC.condY rfl (decide_eq_true c7) ?_
                      refine WC.seq ?_
                      refine WC.region ?_
                      refine W.any (.move rfl) rfl rfl rfl ?_
                      refine W.any (.assign rfl) rfl rfl rfl ?_
                      refine W.nil ?_
                      refine E.thenN ?_
                      refine WC.ret ?_
                      refine E.thenR ?_
                      refine E.retG1 rfl rfl ?_
                      exact ⟨rfl, L109⟩
                    · refine WC.condN rfl (decide_eq_false c7) ?_
                      have hrc := hbp'.2.2 (by omega) (by have := hbp'.2.1 (by omega); omega)
                      refine WC.skip ?_
                      refine E.thenN ?_
                      refine WC.seq ?_
                      refine WC.seq ?_
                      refine WC.region ?_
                      refine W.any (.assign rfl) rfl rfl rfl ?_
                      refine W.nil ?_
                      refine E.thenN ?_
                      refine WC.block ?_
                      have f110 := (f0_0.le h24_2)
                      have f111 := (f0_4.le h24_2)
                      refine WC.loop (ι := Nat) (fun j => [(15, .bool true), (18, .slice Aw6_6 b1.1.length cw6_6), (21, .slice Ar7_2 ((rowsG g ps).length) cr7_2), (35, .int .i64 (((j : Nat) : Int)))]) (fun j wl1 => (j ≤ b1.1.length ∧ j ≤ (rowsG g ps).length) ∧ (rowsC b1.1 (rowsG g ps) = rowsC (b1.1.drop j) ((rowsG g ps).drop j)) ∧ Le w wl1 ∧ w24_2.heap.size ≤ wl1.heap.size ∧ OVec wl1 w3_2.heap.size 51 edgeV 9 Aw6_6 b1.1.length cw6_6 b1.1 ∧ OVec wl1 w6_13.heap.size 51 edgeV 9 Ar7_2 ((rowsG g ps).length) cr7_2 (rowsG g ps)) (fun j => b1.1.length - j) 0 ?_ ?_ ?_
                      · exact .cons rfl (.cons rfl (.cons rfl (.cons rfl (.nil _))))
                      · exact ⟨⟨Nat.zero_le _, Nat.zero_le _⟩, rfl, L109, Nat.le_refl _, f110, f111⟩
                      · rintro j wl1 ⟨hkk, hrk, Ll1, zl1, f1_0, f1_1⟩
                        have lb1_5 : w3_2.heap.size ≤ wl1.heap.size := Nat.le_trans lb0_7 (by have := h24_2.size; omega)
                        have lb1_9 : w6_13.heap.size ≤ wl1.heap.size := Nat.le_trans lb0_9 (by have := h24_2.size; omega)
                        refine WC.seq ?_
                        refine WC.seq ?_
                        refine WC.region ?_
                        refine W.any (.move rfl) rfl rfl rfl ?_
                        refine W.any (.move rfl) rfl rfl rfl ?_
                        refine W.rd (.len Tryz.underlying22 rfl) rfl rfl rfl ?_
                        refine W.any (.lss rfl rfl) rfl rfl rfl ?_
                        by_cases q30_4 : ((j : Nat) : Int) < ((b1.1.length : Nat) : Int)
                        · refine W.any (.dec (.move rfl) (decide_eq_true q30_4)) rfl rfl rfl ?_
                          refine W.rdg (Any.rd (.move rfl) _) rfl rfl rfl (rfl) rfl rfl ?_
                          refine W.rdg (Any.rd (.move rfl) _) rfl rfl rfl (rfl) rfl rfl ?_
                          refine W.rdg (.len Tryz.underlying22 rfl) rfl rfl rfl (rfl) rfl rfl ?_
                          refine W.rdg (Any.rd (.lss rfl rfl) _) rfl rfl rfl (rfl) rfl rfl ?_
                          refine W.any (.pickT rfl rfl rfl) rfl rfl rfl ?_
                          refine W.nil ?_
                          refine E.thenN ?_
                          by_cases c8 : ((j : Nat) : Int) < (((rowsG g ps).length : Nat) : Int)
                          · refine WC.condY rfl (decide_eq_true c8) ?_
                            refine WC.skip ?_
                            refine E.thenN ?_
                            refine WC.seq ?_
                            refine WC.block ?_
                            refine WC.seq ?_
                            refine WC.draw [0, 1, 2, 3, 4, 5, 6, 7, 8, 9, 10] mixed (by kernel_rfl) ?_
                            intro w32 d32
                            have L112 := Ll1.trans d32
                            refine G.any rfl rfl (.move rfl) rfl rfl rfl ?_
                            refine G.any rfl rfl (.move rfl) rfl rfl rfl ?_
                            refine G.any rfl rfl (.idxS (j) Tryz.underlying22 sz51 rfl rfl (ow6_6.vec.isSome edgeV_row (by omega)) (rfl) (by omega)) rfl rfl rfl ?_
                            refine G.any rfl rfl (.vfield fa51_2 (ow6_6.vec.isSome edgeV_row (by omega)) rfl) rfl rfl rfl ?_
                            have f113 := (f1_0.le d32)
                            refine G.rd rfl rfl (.vcell (j := j) (o := 2) (v := .int .i64 ((b1.1.getD j noEdge).c)) na3 rfl f113.vec edgeV_row (getS b1.1 noEdge (by first | omega | (simp only [List.length_cons, List.length_nil]; omega))) rfl) rfl rfl rfl ?_
                            refine G.any rfl rfl (.move rfl) rfl rfl rfl ?_
                            refine G.any rfl rfl (.move rfl) rfl rfl rfl ?_
                            refine G.any rfl rfl (.idxS (j) Tryz.underlying22 sz51 rfl rfl (or7_2.vec.isSome edgeV_row (by omega)) (rfl) (by omega)) rfl rfl rfl ?_
                            refine G.any rfl rfl (.vfield fa51_2 (or7_2.vec.isSome edgeV_row (by omega)) rfl) rfl rfl rfl ?_
                            have f114 := (f1_1.le d32)
                            refine G.rd rfl rfl (.vcell (j := j) (o := 2) (v := .int .i64 (((rowsG g ps).getD j noEdge).c)) na3 rfl f114.vec edgeV_row (getS (rowsG g ps) noEdge (by first | omega | (simp only [List.length_cons, List.length_nil]; omega))) rfl) rfl rfl rfl ?_
                            refine G.any rfl rfl (.neq rfl rfl) rfl rfl rfl ?_
                            refine G.nil ?_
                            refine E.thenN ?_
                            by_cases c9 : ((b1.1.getD j noEdge).c) ≠ (((rowsG g ps).getD j noEdge).c)
                            · refine WC.condY rfl (decide_eq_true c9) ?_
                              refine WC.seq ?_
                              refine WC.draw [0, 1, 2, 3, 4, 5, 6, 7, 8, 9, 10, 11, 12, 13, 14] mixed (by kernel_rfl) ?_
                              intro w33 d33
                              have L115 := L112.trans d33
                              refine G.any rfl rfl (.move rfl) rfl rfl rfl ?_
                              refine G.any rfl rfl (.move rfl) rfl rfl rfl ?_
                              refine G.anyg rfl rfl (.move rfl) rfl rfl rfl (rfl) rfl rfl ?_
                              refine G.anyg rfl rfl (.move rfl) rfl rfl rfl (rfl) rfl rfl ?_
                              refine G.anyg rfl rfl (.idxS (j) Tryz.underlying22 sz51 rfl rfl (ow6_6.vec.isSome edgeV_row (by omega)) (rfl) (by omega)) rfl rfl rfl (rfl) rfl rfl ?_
                              refine G.anyg rfl rfl (.vfield fa51_2 (ow6_6.vec.isSome edgeV_row (by omega)) rfl) rfl rfl rfl (rfl) rfl rfl ?_
                              have f116 := (f113.le d33)
                              refine G.rdg rfl rfl (.vcell (j := j) (o := 2) (v := .int .i64 ((b1.1.getD j noEdge).c)) na3 rfl f116.vec edgeV_row (getS b1.1 noEdge (by first | omega | (simp only [List.length_cons, List.length_nil]; omega))) rfl) rfl rfl rfl (rfl) rfl rfl ?_
                              refine G.anyg rfl rfl (.move rfl) rfl rfl rfl (rfl) rfl rfl ?_
                              refine G.anyg rfl rfl (.move rfl) rfl rfl rfl (rfl) rfl rfl ?_
                              refine G.anyg rfl rfl (.idxS (j) Tryz.underlying22 sz51 rfl rfl (or7_2.vec.isSome edgeV_row (by omega)) (rfl) (by omega)) rfl rfl rfl (rfl) rfl rfl ?_
                              refine G.anyg rfl rfl (.vfield fa51_2 (or7_2.vec.isSome edgeV_row (by omega)) rfl) rfl rfl rfl (rfl) rfl rfl ?_
                              have f117 := (f114.le d33)
                              refine G.rdg rfl rfl (.vcell (j := j) (o := 2) (v := .int .i64 (((rowsG g ps).getD j noEdge).c)) na3 rfl f117.vec edgeV_row (getS (rowsG g ps) noEdge (by first | omega | (simp only [List.length_cons, List.length_nil]; omega))) rfl) rfl rfl rfl (rfl) rfl rfl ?_
                              refine G.anyg rfl rfl (.dec (.lss rfl rfl) (decide_eq_true (by have := (rows_lt hrk hrc (by omega) (by omega)).1; omega))) rfl rfl rfl (rfl) rfl rfl ?_
                              refine G.any rfl rfl (.pickT rfl rfl rfl) rfl rfl rfl ?_
                              refine G.any rfl rfl (.assign rfl) rfl rfl rfl ?_
                              refine G.nil ?_
                              refine E.thenN ?_
                              refine WC.ret ?_
                              refine E.blkR ?_
                              refine E.thenR ?_
                              refine E.thenR ?_
                              refine E.blkR ?_
                              refine E.thenR ?_
                              refine E.retG1 rfl rfl ?_
                              exact ⟨rfl, L115⟩
                            · refine WC.condN rfl (decide_eq_false c9) ?_
                              refine WC.skip ?_
                              refine E.blkN ?_
                              refine E.thenN ?_
                              refine WC.region ?_
                              refine W.any (.move rfl) rfl rfl rfl ?_
                              refine W.any (.add rfl rfl (by omega)) rfl rfl rfl ?_
                              refine W.any (.assign rfl) rfl rfl rfl ?_
                              refine W.nil ?_
                              refine E.again (j + 1) (.cons rfl (.cons rfl (.cons rfl (.cons rfl (.nil _))))) ?_ ?_
                              · exact ⟨by omega, (rows_lt hrk hrc (by omega) (by omega)).2 (by omega), L112, by have := zl1; have := d32.size; omega, f113, f114⟩
                              · first | omega | (simp only []; omega)
                          · refine WC.condN rfl (decide_eq_false c8) ?_
                            refine WC.exit ?_
                            refine E.thenX ?_
                            refine E.thenX ?_
                            refine E.blkH ?_
                            refine E.thenN ?_
                            refine WC.seq ?_
                            refine WC.region ?_
                            refine W.any (.move rfl) rfl rfl rfl ?_
                            refine W.any (.move rfl) rfl rfl rfl ?_
                            refine W.rdg (Any.rd (.move rfl) _) rfl rfl rfl (rfl) rfl rfl ?_
                            refine W.rdg (.len Tryz.underlying22 rfl) rfl rfl rfl (rfl) rfl rfl ?_
                            refine W.rdg (Any.rd (.move rfl) _) rfl rfl rfl (rfl) rfl rfl ?_
                            refine W.rdg (.len Tryz.underlying22 rfl) rfl rfl rfl (rfl) rfl rfl ?_
                            refine W.rdg (Any.rd (.dec (.leq rfl rfl) (decide_eq_true (by rcases Nat.lt_or_ge j b1.1.length with q | q; have := rows_end hrk hrc (by omega) (by omega); omega; omega))) _) rfl rfl rfl (rfl) rfl rfl ?_
                            refine W.any (.pickT rfl rfl rfl) rfl rfl rfl ?_
                            refine W.any (.assign rfl) rfl rfl rfl ?_
                            refine W.nil ?_
                            refine E.thenN ?_
                            refine WC.ret ?_
                            refine E.retG1 rfl rfl ?_
                            exact ⟨rfl, Ll1⟩
                        · refine W.any (.dec (.move rfl) (decide_eq_false q30_4)) rfl rfl rfl ?_
                          refine W.skip rfl rfl rfl (rfl) rfl rfl ?_
                          refine W.skip rfl rfl rfl (rfl) rfl rfl ?_
                          refine W.skip rfl rfl rfl (rfl) rfl rfl ?_
                          refine W.skip rfl rfl rfl (rfl) rfl rfl ?_
                          refine W.any (.pickF rfl rfl rfl) rfl rfl rfl ?_
                          refine W.nil ?_
                          refine E.thenN ?_
                          refine WC.condF rfl ?_
                          refine WC.exit ?_
                          refine E.thenX ?_
                          refine E.thenX ?_
                          refine E.blkH ?_
                          refine E.thenN ?_
                          refine WC.seq ?_
                          refine WC.region ?_
                          refine W.any (.move rfl) rfl rfl rfl ?_
                          refine W.any (.move rfl) rfl rfl rfl ?_
                          refine W.rdg (Any.rd (.move rfl) _) rfl rfl rfl (rfl) rfl rfl ?_
                          refine W.rdg (.len Tryz.underlying22 rfl) rfl rfl rfl (rfl) rfl rfl ?_
                          refine W.rdg (Any.rd (.move rfl) _) rfl rfl rfl (rfl) rfl rfl ?_
                          refine W.rdg (.len Tryz.underlying22 rfl) rfl rfl rfl (rfl) rfl rfl ?_
                          refine W.rdg (Any.rd (.dec (.leq rfl rfl) (decide_eq_true (by rcases Nat.lt_or_ge j b1.1.length with q | q; have := rows_end hrk hrc (by omega) (by omega); omega; omega))) _) rfl rfl rfl (rfl) rfl rfl ?_
                          refine W.any (.pickT rfl rfl rfl) rfl rfl rfl ?_
                          refine W.any (.assign rfl) rfl rfl rfl ?_
                          refine W.nil ?_
                          refine E.thenN ?_
                          refine WC.ret ?_
                          refine E.retG1 rfl rfl ?_
                          exact ⟨rfl, Ll1⟩
                · refine W.rdg (Any.rd (.dec (.move rfl) (decide_eq_false q25_5)) _) rfl rfl rfl (rfl) rfl rfl ?_
                  refine W.skip rfl rfl rfl (rfl) rfl rfl ?_
                  refine W.skip rfl rfl rfl (rfl) rfl rfl ?_
                  refine W.skip rfl rfl rfl (rfl) rfl rfl ?_
                  refine W.rdg (Any.rd (.pickF rfl rfl rfl) _) rfl rfl rfl (rfl) rfl rfl ?_
                  refine W.any (.pickF rfl rfl rfl) rfl rfl rfl ?_
                  refine W.nil ?_
                  refine E.thenN ?_
                  refine WC.condF rfl ?_
                  refine WC.skip ?_
                  refine E.thenN ?_
                  refine WC.seq ?_
                  refine WC.seq ?_
                  refine WC.region ?_
                  refine W.any (.move rfl) rfl rfl rfl ?_
                  refine W.any (.lss rfl rfl) rfl rfl rfl ?_
                  by_cases q27_2 : (cmpF (takF (⟨o1.1.n, o1.1.d⟩ : Fr)) (takF (⟨b1.2.1.n, b1.2.1.d⟩ : Fr))) < 0
                  · refine W.any (.dec (.move rfl) (decide_eq_true q27_2)) rfl rfl rfl ?_
                    refine W.skip rfl rfl rfl (rfl) rfl rfl ?_
                    refine W.skip rfl rfl rfl (rfl) rfl rfl ?_
                    refine W.skip rfl rfl rfl (rfl) rfl rfl ?_
                    refine W.any (.pickT rfl rfl rfl) rfl rfl rfl ?_
                    refine W.nil ?_
                    refine E.thenN ?_
                    refine WC.condT rfl ?_
                    refine WC.seq ?_
                    refine WC.region ?_
                    refine W.any (.move rfl) rfl rfl rfl ?_
                    refine W.any (.assign rfl) rfl rfl rfl ?_
                    refine W.nil ?_
                    refine E.thenN ?_
                    refine WC.ret ?_
                    refine E.thenR ?_
                    refine E.retG1 rfl rfl ?_
                    exact ⟨rfl, L109⟩
                  · refine W.any (.dec (.move rfl) (decide_eq_false q27_2)) rfl rfl rfl ?_
                    refine W.rdg (Any.rd (.move rfl) _) rfl rfl rfl (rfl) rfl rfl ?_
                    refine W.rdg (Any.rd (.move rfl) _) rfl rfl rfl (rfl) rfl rfl ?_
                    refine W.rdg (Any.rd (.gtr rfl rfl) _) rfl rfl rfl (rfl) rfl rfl ?_
                    refine W.any (.pickF rfl rfl rfl) rfl rfl rfl ?_
                    refine W.nil ?_
                    refine E.thenN ?_
                    by_cases c7 : o2.2.1 < o1.2.1
                    · refine WC.condY rfl (decide_eq_true c7) ?_
                      refine WC.seq ?_
                      refine WC.region ?_
                      refine W.any (.move rfl) rfl rfl rfl ?_
                      refine W.any (.assign rfl) rfl rfl rfl ?_
                      refine W.nil ?_
                      refine E.thenN ?_
                      refine WC.ret ?_
                      refine E.thenR ?_
                      refine E.retG1 rfl rfl ?_
                      exact ⟨rfl, L109⟩
                    · refine WC.condN rfl (decide_eq_false c7) ?_
                      have hrc := hbp'.2.2 (by omega) (by have := hbp'.2.1 (by omega); omega)
                      refine WC.skip ?_
                      refine E.thenN ?_
                      refine WC.seq ?_
                      refine WC.seq ?_
                      refine WC.region ?_
                      refine W.any (.assign rfl) rfl rfl rfl ?_
                      refine W.nil ?_
                      refine E.thenN ?_
                      refine WC.block ?_
                      have f118 := (f0_0.le h24_2)
                      have f119 := (f0_4.le h24_2)
                      refine WC.loop (ι := Nat) (fun j => [(15, .bool true), (18, .slice Aw6_6 b1.1.length cw6_6), (21, .slice Ar7_2 ((rowsG g ps).length) cr7_2), (35, .int .i64 (((j : Nat) : Int)))]) (fun j wl1 => (j ≤ b1.1.length ∧ j ≤ (rowsG g ps).length) ∧ (rowsC b1.1 (rowsG g ps) = rowsC (b1.1.drop j) ((rowsG g ps).drop j)) ∧ Le w wl1 ∧ w24_2.heap.size ≤ wl1.heap.size ∧ OVec wl1 w3_2.heap.size 51 edgeV 9 Aw6_6 b1.1.length cw6_6 b1.1 ∧ OVec wl1 w6_13.heap.size 51 edgeV 9 Ar7_2 ((rowsG g ps).length) cr7_2 (rowsG g ps)) (fun j => b1.1.length - j) 0 ?_ ?_ ?_
                      · exact .cons rfl (.cons rfl (.cons rfl (.cons rfl (.nil _))))
                      · exact ⟨⟨Nat.zero_le _, Nat.zero_le _⟩, rfl, L109, Nat.le_refl _, f118, f119⟩
                      · rintro j wl1 ⟨hkk, hrk, Ll1, zl1, f1_0, f1_1⟩
                        have lb1_5 : w3_2.heap.size ≤ wl1.heap.size := Nat.le_trans lb0_7 (by have := h24_2.size; omega)
                        have lb1_9 : w6_13.heap.size ≤ wl1.heap.size := Nat.le_trans lb0_9 (by have := h24_2.size; omega)
                        refine WC.seq ?_
                        refine WC.seq ?_
                        refine WC.region ?_
                        refine W.any (.move rfl) rfl rfl rfl ?_
                        refine W.any (.move rfl) rfl rfl rfl ?_
                        refine W.rd (.len Tryz.underlying22 rfl) rfl rfl rfl ?_
                        refine W.any (.lss rfl rfl) rfl rfl rfl ?_
                        by_cases q30_4 : ((j : Nat) : Int) < ((b1.1.length : Nat) : Int)
                        · refine W.any (.dec (.move rfl) (decide_eq_true q30_4)) rfl rfl rfl ?_
                          refine W.rdg (Any.rd (.move rfl) _) rfl rfl rfl (rfl) rfl rfl ?_
                          refine W.rdg (Any.rd (.move rfl) _) rfl rfl rfl (rfl) rfl rfl ?_
                          refine W.rdg (.len Tryz.underlying22 rfl) rfl rfl rfl (rfl) rfl rfl ?_
                          refine W.rdg (Any.rd (.lss rfl rfl) _) rfl rfl rfl (rfl) rfl rfl ?_
                          refine W.any (.pickT rfl rfl rfl) rfl rfl rfl ?_
                          refine W.nil ?_
                          refine E.thenN ?_
                          by_cases c8 : ((j : Nat) : Int) < (((rowsG g ps).length : Nat) : Int)
                          · refine WC.condY rfl (decide_eq_true c8) ?_
                            refine WC.skip ?_
                            refine E.thenN ?_
                            refine WC.seq ?_
                            refine WC.block ?_
                            refine WC.seq ?_
                            refine WC.draw [0, 1, 2, 3, 4, 5, 6, 7, 8, 9, 10] mixed (by kernel_rfl) ?_
                            intro w32 d32
                            have L120 := Ll1.trans d32
                            refine G.any rfl rfl (.move rfl) rfl rfl rfl ?_
                            refine G.any rfl rfl (.move rfl) rfl rfl rfl ?_
                            refine G.any rfl rfl (.idxS (j) Tryz.underlying22 sz51 rfl rfl (ow6_6.vec.isSome edgeV_row (by omega)) (rfl) (by omega)) rfl rfl rfl ?_
                            refine G.any rfl rfl (.vfield fa51_2 (ow6_6.vec.isSome edgeV_row (by omega)) rfl) rfl rfl rfl ?_
                            have f121 := (f1_0.le d32)
                            refine G.rd rfl rfl (.vcell (j := j) (o := 2) (v := .int .i64 ((b1.1.getD j noEdge).c)) na3 rfl f121.vec edgeV_row (getS b1.1 noEdge (by first | omega | (simp only [List.length_cons, List.length_nil]; omega))) rfl) rfl rfl rfl ?_
                            refine G.any rfl rfl (.move rfl) rfl rfl rfl ?_
                            refine G.any rfl rfl (.move rfl) rfl rfl rfl ?_
                            refine G.any rfl rfl (.idxS (j) Tryz.underlying22 sz51 rfl rfl (or7_2.vec.isSome edgeV_row (by omega)) (rfl) (by omega)) rfl rfl rfl ?_
                            refine G.any rfl rfl (.vfield fa51_2 (or7_2.vec.isSome edgeV_row (by omega)) rfl) rfl rfl rfl ?_
                            have f122 := (f1_1.le d32)
                            refine G.rd rfl rfl (.vcell (j := j) (o := 2) (v := .int .i64 (((rowsG g ps).getD j noEdge).c)) na3 rfl f122.vec edgeV_row (getS (rowsG g ps) noEdge (by first | omega | (simp only [List.length_cons, List.length_nil]; omega))) rfl) rfl rfl rfl ?_
                            refine G.any rfl rfl (.neq rfl rfl) rfl rfl rfl ?_
                            refine G.nil ?_
                            refine E.thenN ?_
                            by_cases c9 : ((b1.1.getD j noEdge).c) ≠ (((rowsG g ps).getD j noEdge).c)
                            · refine WC.condY rfl (decide_eq_true c9) ?_
                              refine WC.seq ?_
                              refine WC.draw [0, 1, 2, 3, 4, 5, 6, 7, 8, 9, 10, 11, 12, 13, 14] mixed (by kernel_rfl) ?_
                              intro w33 d33
                              have L123 := L120.trans d33
                              refine G.any rfl rfl (.move rfl) rfl rfl rfl ?_
                              refine G.any rfl rfl (.move rfl) rfl rfl rfl ?_
                              refine G.anyg rfl rfl (.move rfl) rfl rfl rfl (rfl) rfl rfl ?_
                              refine G.anyg rfl rfl (.move rfl) rfl rfl rfl (rfl) rfl rfl ?_
                              refine G.anyg rfl rfl (.idxS (j) Tryz.underlying22 sz51 rfl rfl (ow6_6.vec.isSome edgeV_row (by omega)) (rfl) (by omega)) rfl rfl rfl (rfl) rfl rfl ?_
                              refine G.anyg rfl rfl (.vfield fa51_2 (ow6_6.vec.isSome edgeV_row (by omega)) rfl) rfl rfl rfl (rfl) rfl rfl ?_
                              have f124 := (f121.le d33)
                              refine G.rdg rfl rfl (.vcell (j := j) (o := 2) (v := .int .i64 ((b1.1.getD j noEdge).c)) na3 rfl f124.vec edgeV_row (getS b1.1 noEdge (by first | omega | (simp only [List.length_cons, List.length_nil]; omega))) rfl) rfl rfl rfl (rfl) rfl rfl ?_
                              refine G.anyg rfl rfl (.move rfl) rfl rfl rfl (rfl) rfl rfl ?_
                              refine G.anyg rfl rfl (.move rfl) rfl rfl rfl (rfl) rfl rfl ?_
                              refine G.anyg rfl rfl (.idxS (j) Tryz.underlying22 sz51 rfl rfl (or7_2.vec.isSome edgeV_row (by omega)) (rfl) (by omega)) rfl rfl rfl (rfl) rfl rfl ?_
                              refine G.anyg rfl rfl (.vfield fa51_2 (or7_2.vec.isSome edgeV_row (by omega)) rfl) rfl rfl rfl (rfl) rfl rfl ?_
                              have f125 := (f122.le d33)
                              refine G.rdg rfl rfl (.vcell (j := j) (o := 2) (v := .int .i64 (((rowsG g ps).getD j noEdge).c)) na3 rfl f125.vec edgeV_row (getS (rowsG g ps) noEdge (by first | omega | (simp only [List.length_cons, List.length_nil]; omega))) rfl) rfl rfl rfl (rfl) rfl rfl ?_
                              refine G.anyg rfl rfl (.dec (.lss rfl rfl) (decide_eq_true (by have := (rows_lt hrk hrc (by omega) (by omega)).1; omega))) rfl rfl rfl (rfl) rfl rfl ?_
                              refine G.any rfl rfl (.pickT rfl rfl rfl) rfl rfl rfl ?_
                              refine G.any rfl rfl (.assign rfl) rfl rfl rfl ?_
                              refine G.nil ?_
                              refine E.thenN ?_
                              refine WC.ret ?_
                              refine E.blkR ?_
                              refine E.thenR ?_
                              refine E.thenR ?_
                              refine E.blkR ?_
                              refine E.thenR ?_
                              refine E.retG1 rfl rfl ?_
                              exact ⟨rfl, L123⟩
                            · refine WC.condN rfl (decide_eq_false c9) ?_
                              refine WC.skip ?_
                              refine E.blkN ?_
                              refine E.thenN ?_
                              refine WC.region ?_
                              refine W.any (.move rfl) rfl rfl rfl ?_
                              refine W.any (.add rfl rfl (by omega)) rfl rfl rfl ?_
                              refine W.any (.assign rfl) rfl rfl rfl ?_
                              refine W.nil ?_
                              refine E.again (j + 1) (.cons rfl (.cons rfl (.cons rfl (.cons rfl (.nil _))))) ?_ ?_
                              · exact ⟨by omega, (rows_lt hrk hrc (by omega) (by omega)).2 (by omega), L120, by have := zl1; have := d32.size; omega, f121, f122⟩
                              · first | omega | (simp only []; omega)
                          · refine WC.condN rfl (decide_eq_false c8) ?_
                            refine WC.exit ?_
                            refine E.thenX ?_
                            refine E.thenX ?_
                            refine E.blkH ?_
                            refine E.thenN ?_
                            refine WC.seq ?_
                            refine WC.region ?_
                            refine W.any (.move rfl) rfl rfl rfl ?_
                            refine W.any (.move rfl) rfl rfl rfl ?_
                            refine W.rdg (Any.rd (.move rfl) _) rfl rfl rfl (rfl) rfl rfl ?_
                            refine W.rdg (.len Tryz.underlying22 rfl) rfl rfl rfl (rfl) rfl rfl ?_
                            refine W.rdg (Any.rd (.move rfl) _) rfl rfl rfl (rfl) rfl rfl ?_
                            refine W.rdg (.len Tryz.underlying22 rfl) rfl rfl rfl (rfl) rfl rfl ?_
                            refine W.rdg (Any.rd (.dec (.leq rfl rfl) (decide_eq_true (by rcases Nat.lt_or_ge j b1.1.length with q | q; have := rows_end hrk hrc (by omega) (by omega); omega; omega))) _) rfl rfl rfl (rfl) rfl rfl ?_
                            refine W.any (.pickT rfl rfl rfl) rfl rfl rfl ?_
                            refine W.any (.assign rfl) rfl rfl rfl ?_
                            refine W.nil ?_
                            refine E.thenN ?_
                            refine WC.ret ?_
                            refine E.retG1 rfl rfl ?_
                            exact ⟨rfl, Ll1⟩
                        · refine W.any (.dec (.move rfl) (decide_eq_false q30_4)) rfl rfl rfl ?_
                          refine W.skip rfl rfl rfl (rfl) rfl rfl ?_
                          refine W.skip rfl rfl rfl (rfl) rfl rfl ?_
                          refine W.skip rfl rfl rfl (rfl) rfl rfl ?_
                          refine W.skip rfl rfl rfl (rfl) rfl rfl ?_
                          refine W.any (.pickF rfl rfl rfl) rfl rfl rfl ?_
                          refine W.nil ?_
                          refine E.thenN ?_
                          refine WC.condF rfl ?_
                          refine WC.exit ?_
                          refine E.thenX ?_
                          refine E.thenX ?_
                          refine E.blkH ?_
                          refine E.thenN ?_
                          refine WC.seq ?_
                          refine WC.region ?_
                          refine W.any (.move rfl) rfl rfl rfl ?_
                          refine W.any (.move rfl) rfl rfl rfl ?_
                          refine W.rdg (Any.rd (.move rfl) _) rfl rfl rfl (rfl) rfl rfl ?_
                          refine W.rdg (.len Tryz.underlying22 rfl) rfl rfl rfl (rfl) rfl rfl ?_
                          refine W.rdg (Any.rd (.move rfl) _) rfl rfl rfl (rfl) rfl rfl ?_
                          refine W.rdg (.len Tryz.underlying22 rfl) rfl rfl rfl (rfl) rfl rfl ?_
                          refine W.rdg (Any.rd (.dec (.leq rfl rfl) (decide_eq_true (by rcases Nat.lt_or_ge j b1.1.length with q | q; have := rows_end hrk hrc (by omega) (by omega); omega; omega))) _) rfl rfl rfl (rfl) rfl rfl ?_
                          refine W.any (.pickT rfl rfl rfl) rfl rfl rfl ?_
                          refine W.any (.assign rfl) rfl rfl rfl ?_
                          refine W.nil ?_
                          refine E.thenN ?_
                          refine WC.ret ?_
                          refine E.retG1 rfl rfl ?_
                          exact ⟨rfl, Ll1⟩
              · refine WC.condY rfl (congrArg not ((Bool.eq_false_iff.2 c5))) ?_
                refine WC.seq ?_
                refine WC.region ?_
                refine W.any (.move rfl) rfl rfl rfl ?_
                refine W.any (.assign rfl) rfl rfl rfl ?_
                refine W.nil ?_
                refine E.thenN ?_
                refine WC.ret ?_
                refine E.thenR ?_
                refine E.retG1 rfl rfl ?_
                exact ⟨rfl, Ll0⟩
  · refine W.any (.dec (.move rfl) (congrArg not ((Bool.eq_false_iff.2 q4_2)))) rfl rfl rfl ?_
    refine W.skip rfl rfl rfl (rfl) rfl rfl ?_
    refine W.skip rfl rfl rfl (rfl) rfl rfl ?_
    refine W.skip rfl rfl rfl (rfl) rfl rfl ?_
    refine W.any (.pickT rfl rfl rfl) rfl rfl rfl ?_
    refine W.any (.move rfl) rfl rfl rfl ?_
    refine W.skip rfl rfl rfl (rfl) rfl rfl ?_
    refine W.skip rfl rfl rfl (rfl) rfl rfl ?_
    refine W.any (.pickT rfl rfl rfl) rfl rfl rfl ?_
    refine W.nil ?_
    refine E.thenN ?_
    refine WC.condT rfl ?_
    refine WC.seq ?_
    refine WC.region ?_
    refine W.any (.move rfl) rfl rfl rfl ?_
    refine W.any (.move rfl) rfl rfl rfl ?_
    refine W.rdg (Any.rd (.move rfl) _) rfl rfl rfl (rfl) rfl rfl ?_
    refine W.rdg (Any.rd (.dec (.notNilP (by kernel_rfl) rfl) rfl) _) rfl rfl rfl (rfl) rfl rfl ?_
    refine W.any (.pickT rfl rfl rfl) rfl rfl rfl ?_
    refine W.any (.assign rfl) rfl rfl rfl ?_
    refine W.nil ?_
    refine E.thenN ?_
    refine WC.ret ?_
    refine E.thenR ?_
    refine E.retG1 rfl rfl ?_
    exact ⟨rfl, L3⟩
end Go.Proofs.YtmkdeemjkcigkaaGreatDoor

