/- RouteTells: for every input the law answers true and leaves its arguments as they were. -/
import Derived.Test.YtmkdeemjkcigkaaGreatDoorRouteTellsR
import Derived.Shelf.Strconv.Itoa3
import Derived.Lib.ItoaLen
import Derived.Lib.AppendIntMem
set_option linter.unusedVariables false
set_option linter.unusedSimpArgs false
set_option maxRecDepth 20000
namespace Go.Proofs
open Go.Shelf
def Tryz.laysM171_ren : Go.Shelf.Ren := ⟨fun | 171 => 108 | 243 => 133 | 246 => 147 | 283 => 154 | 284 => 155 | 285 => 156 | 286 => 157 | 129 => 162 | 317 => 161 | 318 => 163 | 319 => 164 | 320 => 165 | 337 => 166 | 338 => 167 | n => n, fun | 3 => 3 | 9 => 9 | 2 => 2 | 4 => 4 | 171 => 176 | 0 => 0 | 53 => 57 | 37 => 154 | 5 => 5 | 173 => 179 | 212 => 186 | 51 => 122 | 20 => 20 | 213 => 187 | 46 => 134 | 232 => 190 | 233 => 191 | n => n, fun | 17 => 2 | 18 => 4 | 19 => 5 | n => n⟩
theorem Tryz.laysM171 : Go.Proofs.LaysM.n171 Tryz.prog Tryz.laysM171_ren := {
  mixed := by kernel_rfl
  f129 := Tryz.func162.trans (congrArg some (by kernel_rfl))
  f171 := Tryz.func108.trans (congrArg some (by kernel_rfl))
  f243 := Tryz.func133.trans (congrArg some (by kernel_rfl))
  f246 := Tryz.func147.trans (congrArg some (by kernel_rfl))
  f283 := Tryz.func154.trans (congrArg some (by kernel_rfl))
  f284 := Tryz.func155.trans (congrArg some (by kernel_rfl))
  f285 := Tryz.func156.trans (congrArg some (by kernel_rfl))
  f286 := Tryz.func157.trans (congrArg some (by kernel_rfl))
  f317 := Tryz.func161.trans (congrArg some (by kernel_rfl))
  f318 := Tryz.func163.trans (congrArg some (by kernel_rfl))
  f319 := Tryz.func164.trans (congrArg some (by kernel_rfl))
  f320 := Tryz.func165.trans (congrArg some (by kernel_rfl))
  f337 := Tryz.func166.trans (congrArg some (by kernel_rfl))
  f338 := Tryz.func167.trans (congrArg some (by kernel_rfl))
  t0 := Tryz.underlying0
  a0 := Tryz.isAgg0
  z0 := Tryz.sizeOf0
  v0 := Tryz.zeroValue0
  t2 := Tryz.underlying2
  a2 := Tryz.isAgg2
  z2 := Tryz.sizeOf2
  v2 := Tryz.zeroValue2
  t3 := Tryz.underlying3
  a3 := Tryz.isAgg3
  z3 := Tryz.sizeOf3
  v3 := Tryz.zeroValue3
  t4 := Tryz.underlying4
  a4 := Tryz.isAgg4
  z4 := Tryz.sizeOf4
  v4 := Tryz.zeroValue4
  t5 := Tryz.underlying5
  a5 := Tryz.isAgg5
  z5 := Tryz.sizeOf5
  v5 := Tryz.zeroValue5
  t9 := Tryz.underlying9
  a9 := Tryz.isAgg9
  z9 := Tryz.sizeOf9
  v9 := Tryz.zeroValue9
  t20 := Tryz.underlying20
  a20 := Tryz.isAgg20
  z20 := Tryz.sizeOf20
  v20 := Tryz.zeroValue20
  t37 := Tryz.underlying154
  a37 := Tryz.isAgg154
  z37 := Tryz.sizeOf154
  v37 := Tryz.zeroValue154
  t46 := Tryz.underlying134
  a46 := Tryz.isAgg134
  z46 := Tryz.sizeOf134
  v46 := Tryz.zeroValue134
  t51 := Tryz.underlying122
  a51 := Tryz.isAgg122
  z51 := Tryz.sizeOf122
  v51 := Tryz.zeroValue122
  t53 := Tryz.underlying57
  a53 := Tryz.isAgg57
  z53 := Tryz.sizeOf57
  v53 := Tryz.zeroValue57
  t171 := Tryz.underlying176
  a171 := Tryz.isAgg176
  z171 := Tryz.sizeOf176
  v171 := Tryz.zeroValue176
  t173 := Tryz.underlying179
  a173 := Tryz.isAgg179
  z173 := Tryz.sizeOf179
  v173 := Tryz.zeroValue179
  t212 := Tryz.underlying186
  a212 := Tryz.isAgg186
  z212 := Tryz.sizeOf186
  v212 := Tryz.zeroValue186
  t213 := Tryz.underlying187
  a213 := Tryz.isAgg187
  z213 := Tryz.sizeOf187
  t232 := Tryz.underlying190
  a232 := Tryz.isAgg190
  z232 := Tryz.sizeOf190
  v232 := Tryz.zeroValue190
  t233 := Tryz.underlying191
  a233 := Tryz.isAgg191
  z233 := Tryz.sizeOf191
  v233 := Tryz.zeroValue191
  g17 := by kernel_rfl
  g18 := by kernel_rfl
  g19 := by kernel_rfl
  i0 := by kernel_rfl
  i2 := by kernel_rfl
  i3 := by kernel_rfl
  i4 := by kernel_rfl
  i5 := by kernel_rfl
  i9 := by kernel_rfl
  i20 := by kernel_rfl
  i37 := by kernel_rfl
  i46 := by kernel_rfl
  i51 := by kernel_rfl
  i53 := by kernel_rfl
  i171 := by kernel_rfl
  i173 := by kernel_rfl
  i212 := by kernel_rfl
  i232 := by kernel_rfl
  i233 := by kernel_rfl
  m17 := by kernel_rfl
  m18 := by kernel_rfl
  m19 := by kernel_rfl }
end Go.Proofs
namespace Go.Proofs.YtmkdeemjkcigkaaGreatDoor
open Go Go.Sx Go.Nsp
def Tab (w : World) : Prop := Lib.TabIs Tryz.prog w "internal/strconv.uint64pow10" .u64 Lib.pow10Tab
theorem Tab.le {w w' : World} (h : Tab w) (hl : Le w w') : Tab w' := Lib.tabBelow_of_tabIs h w' hl
theorem itoa_len {p : Nat} (h : p < 1000000000) : (Lib.itoa ((p : Nat) : Int)).length ≤ 21 := Lib.itoa_length_le _ (by omega) (by omega)
theorem itoa_ok (p : Nat) (w : World) (hT : Tab w) (h0 : 0 ≤ p) (h1 : p < 1000000000) : Calls Tryz.prog 108 #[.int .i64 ((p : Nat) : Int)] w fun r w' => r = .returned (.string ⟨(Lib.itoa ((p : Nat) : Int)).toArray⟩) ∧ Le w w' :=
  (Any.strconv_Itoa Tryz.laysM171 ((p : Nat) : Int) (by omega) (by omega) w hT).mono (by
    rintro _ w' ⟨rfl, k, os, rfl⟩
    exact ⟨rfl, Lib.below_grow _ w (Nat.le_refl _) k os⟩)
def textF (p q : Nat) : List UInt8 := if q = 1 then Lib.itoa ((p : Nat) : Int) else Lib.itoa ((p : Nat) : Int) ++ ([47] : List UInt8) ++ Lib.itoa ((q : Nat) : Int)
theorem digs_lots : digs 1000000000 = [1000000000] := by rw [digs_pos (by decide), show 1000000000 / B = 0 from rfl, digs_zero]; rfl
theorem ntext_ok {A : Option Addr} {n c p : Nat} (w : World) (hT : Tab w) (hV : Vec w dv 1 A n (digs p)) (hn : n ≤ 10000) (hp1 : p < 1000000000) : Calls Tryz.prog 70 #[.slice A n c] w fun r w' => r = .returned (.string ⟨(Lib.itoa ((p : Nat) : Int)).toArray⟩) ∧ Le w w' := by
 have hl := hV.1
 refine enter Tryz.func70 rfl rfl ?_
 have L0 := Le.refl w
 refine WC.sr (W.run 1 rfl (W.nx (WC.sr (W.run 1 rfl ?_))))
 refine W.cl go97 rfl rfl (ntaken_ok w (hV.le L0) (by omega)) ?_
 rintro _ w1_1 ⟨rfl, h1_1⟩
 have L1 := L0.trans h1_1
 refine W.run 1 rfl (W.nx (WC.sr (W.run 1 rfl (W.nx (WC.block ?_)))))
 refine WC.loop (ι := Nat) (fun k => [(0, .slice A n c), (3, .string ⟨([] : List UInt8).toArray⟩)]) (fun k wl0 => Le w wl0 ∧ w1_1.heap.size ≤ wl0.heap.size) (fun k => k) 0 ?_ ?_ ?_
 ·exact .cons rfl (.cons rfl (.nil _))
 ·exact ⟨L1, Nat.le_refl _⟩
 rintro k wl0 ⟨Ll0, zl0⟩
 refine WC.block (WC.sr (W.run 1 rfl (W.ef rfl rfl rfl ?_)))
 refine Ef.buildSliceV (len := 1) [_] Tryz.underlying31 el122 rfl (by simp [Value.cells]) rfl (by decide) (by decide) ?_
 intro g3_1 w3_1 hg3_1 b3_1 h3_1
 have L2 := Ll0.trans h3_1
 have b3_1 : Blk w3_1 g3_1 122 (([1000000000]).map dv).flatten.toArray := b3_1
 have o3_1 : OVec w3_1 wl0.heap.size 122 dv 1 (some ⟨g3_1, 0, none⟩) 1 1 ([1000000000]) := b3_1.ovec hg3_1 dv_row rfl rfl (by decide)
 have o3 := o3_1.cast (m' := 1) (ys := (digs 1000000000)) (rfl) (digs_lots.symm)
 refine W.cl go102 rfl rfl (ndivmod_ok w3_1 (hV.le L2) o3.vec (by omega) (by omega) (by omega)) ?_
 rintro _ w3_2 ⟨Aq3_2, cq3_2, Ar3_2, cr3_2, rfl, oq3_2, or3_2, h3_2⟩
 have L4 := L2.trans h3_2
 refine W.run 7 rfl (W.nx (WC.sr (W.run 1 rfl ?_)))
 refine W.cl go107 rfl rfl (nint_ok w3_2 or3_2.vec (by omega)) ?_
 rintro _ w4_1 ⟨rfl, h4_1⟩
 have L5 := L4.trans h4_1
 refine W.run 5 rfl (W.nx (WC.sr (W.run 1 rfl ?_)))
 refine W.cl go108 rfl rfl (itoa_ok (p % 1000000000) w4_1 (hT.le L5) (by omega) (by omega)) ?_
 rintro _ w5_1 ⟨rfl, h5_1⟩
 have L6 := L5.trans h5_1
 refine W.run 1 rfl (W.nx (WC.seq (WC.sr (W.run 1 rfl ?_))))
 refine W.r (.len Tryz.underlying31 rfl) ?_
 refine W.run 1 rfl (W.nx ?_)
 refine WC.condY rfl (decide_eq_true (by rw [Nat.div_eq_of_lt hp1, digs_zero]; rfl)) ?_
 refine WC.sr (W.run 2 rfl ?_)
 refine W.a (.addStr (a := Lib.itoa (((p % 1000000000) : Nat) : Int)) (b := ([] : List UInt8)) rfl rfl (Nat.le_trans (itoa_len (by omega)) (by decide)) (by decide)) ?_
 refine W.run 1 rfl (W.nx (WC.ret (E.thenR (E.blkR (E.thenR (E.blkR ?_))))))
 refine E.retG1 rfl rfl ?_
 exact ⟨congrArg (fun v => Ending.returned (Value.string ⟨List.toArray v⟩)) (by simp [show p % 1000000000 = p from Nat.mod_eq_of_lt hp1]), L6⟩

theorem ftext_ok {An Ad : Option Addr} {nn cn nd cd p q : Nat} (w : World) (hT : Tab w) (hn : Vec w dv 1 An nn (digs p)) (hd : Vec w dv 1 Ad nd (digs q)) (bn : nn ≤ 10000) (bd : nd ≤ 10000) (hok : okB p q = true) (hp1 : p < 1000000000) (hq1 : q < 1000000000) : Calls Tryz.prog 30 #[.agg #[.slice An nn cn, .slice Ad nd cd]] w fun r w' => r = .returned (.string ⟨(textF p q).toArray⟩) ∧ Le w w' := by
 have hln := hn.1; have hld := hd.1
 have h1l := digs_len_one (d := 1) (by decide)
 refine enter Tryz.func30 rfl rfl ?_
 have L0 := Le.refl w
 refine WC.sr (W.ef rfl rfl rfl ?_)
 refine Ef.boxA rfl ?_
 intro g0_0 w0_0 hg0_0 b0_0 h0_0
 have L1 := L0.trans h0_0
 have b0_0 : Blk w0_0 g0_0 33 #[.slice An nn cn, .slice Ad nd cd] := b0_0
 refine W.run 1 rfl (W.nx (WC.sr ?_))
 refine W.r (.loadAll ag33 (by rfl) rfl b0_0) ?_
 refine W.cl go68 rfl rfl (ftaken_yes w0_0 (hn.le L1) (hd.le L1) (by omega) (by omega) hok) ?_
 rintro _ w1_1 ⟨rfl, h1_1⟩
 have L2 := L1.trans h1_1
 have f3 := (b0_0.le h1_1)
 refine W.ef0 rfl rfl ?_
 refine Ef.storeAll sz33 (by rfl) rfl rfl f3 (by rfl) (by simp [Value.oneCell']) ?_
 intro w1_2 b1_2 h1_2
 have b1_2 : Blk w1_2 g0_0 33 #[.slice An nn cn, .slice Ad nd cd] := b1_2
 have L4 := L2.then_ h1_2 (fun q hq => by cases hq; exact Nat.le_trans L0.size hg0_0)
 refine W.nx (WC.seq (WC.seq ?_))
 refine WC.draw [0, 1, 2, 3, 4] mixed (by kernel_rfl) ?_
 intro w2 d2
 have L5 := L4.trans d2
 refine G.a rfl (.field0 fa33_1 rfl) ?_
 have f6 := (b1_2.le d2)
 refine G.r rfl (.loadB (v := .slice Ad nd cd) na31 rfl f6 rfl) ?_
 refine G.ef rfl rfl rfl rfl rfl ?_
 refine Ef.call go69 rfl rfl (fone_ok w2) ?_
 rintro _ w2_2 ⟨Ad2_2, cd2_2, rfl, o2_2, h2_2⟩
 refine ⟨_, rfl, ?_⟩
 refine ⟨fun _ => h2_2, ?_⟩
 have L7 := L5.trans h2_2
 refine G.ef rfl rfl rfl rfl rfl ?_
 refine Ef.call go58 rfl rfl (ncmp_ok w2_2 (hd.le L7) o2_2.vec (by omega) (by omega)) ?_
 rintro _ w2_3 ⟨rfl, h2_3⟩
 refine ⟨_, rfl, ?_⟩
 refine ⟨fun _ => h2_3, ?_⟩
 have L8 := L7.trans h2_3
 refine G.run 1 rfl (G.nil (E.thenN ?_))
 by_cases c0 : (cmpN q 1) = 0
 ·refine WC.condY rfl (decide_eq_true c0) ?_
  refine WC.sr ?_
  refine W.a (.field0 fa33_0 rfl) ?_
  have f9 := (f6.le (h2_2.trans h2_3))
  refine W.r (.loadB (v := .slice An nn cn) na31 rfl f9 rfl) ?_
  refine W.cl go70 rfl rfl (ntext_ok w2_3 (hT.le L8) (hn.le L8) (by omega) (by omega)) ?_
  rintro _ w3_2 ⟨rfl, h3_2⟩
  have L10 := L8.trans h3_2
  refine W.run 1 rfl (W.nx (WC.ret (E.thenR ?_)))
  refine E.retG1 rfl rfl ?_
  exact ⟨congrArg (fun v => Ending.returned (Value.string ⟨List.toArray v⟩)) (by unfold textF; first | rw [if_pos (cmpN_eq.1 (by assumption))] | rw [if_neg (fun h => absurd (cmpN_eq.2 h) (by assumption))]), L10⟩
 refine WC.condN rfl (decide_eq_false c0) ?_
 refine WC.sn (WC.seq ?_)
 refine WC.draw [0, 1, 4, 5, 2, 3, 6, 7, 8] mixed (by kernel_rfl) ?_
 intro w4 d4
 have L11 := L8.trans d4
 refine G.a rfl (.field0 fa33_0 rfl) ?_
 have f12 := (f6.le (h2_2.trans (h2_3.trans d4)))
 refine G.r rfl (.loadB (v := .slice An nn cn) na31 rfl f12 rfl) ?_
 refine G.a rfl (.field0 fa33_1 rfl) ?_
 refine G.r rfl (.loadB (v := .slice Ad nd cd) na31 rfl f12 rfl) ?_
 refine G.ef rfl rfl rfl rfl rfl ?_
 refine Ef.call go70 rfl rfl (ntext_ok w4 (hT.le L11) (hn.le L11) (by omega) (by omega)) ?_
 rintro _ w4_2 ⟨rfl, h4_2⟩
 refine ⟨_, rfl, ?_⟩
 refine ⟨fun _ => h4_2, ?_⟩
 have L13 := L11.trans h4_2
 refine G.a rfl (.addStr (a := Lib.itoa ((p : Nat) : Int)) (b := ([47] : List UInt8)) rfl rfl (Nat.le_trans (itoa_len (by omega)) (by decide)) (by decide)) ?_
 refine G.ef rfl rfl rfl rfl rfl ?_
 refine Ef.call go70 rfl rfl (ntext_ok w4_2 (hT.le L13) (hd.le L13) (by omega) (by omega)) ?_
 rintro _ w4_6 ⟨rfl, h4_6⟩
 refine ⟨_, rfl, ?_⟩
 refine ⟨fun _ => h4_6, ?_⟩
 have L14 := L13.trans h4_6
 refine G.a rfl (.addStr (a := (Lib.itoa ((p : Nat) : Int)) ++ ([47] : List UInt8)) (b := Lib.itoa ((q : Nat) : Int)) rfl rfl (by have := itoa_len (p := p) (by omega); simp only [List.length_append, List.length_cons, List.length_nil]; omega) (Nat.le_trans (itoa_len (by omega)) (by decide))) ?_
 refine G.run 1 rfl (G.nil (E.thenN (WC.ret ?_)))
 refine E.retG1 rfl rfl ?_
 exact ⟨congrArg (fun v => Ending.returned (Value.string ⟨List.toArray v⟩)) (by unfold textF; first | rw [if_pos (cmpN_eq.1 (by assumption))] | rw [if_neg (fun h => absurd (cmpN_eq.2 h) (by assumption))]), L14⟩
end Go.Proofs.YtmkdeemjkcigkaaGreatDoor

namespace Go.Proofs.YtmkdeemjkcigkaaGreatDoor
open Go Go.Sx Go.Num Go.Gsp Go.Nsp Go.Msp Go.Rtp
set_option maxRecDepth 20000
def rE (c f t : Int) : Gsp.Edge := ⟨f, t, c, 1000, ⟨1, 0, 5, 1, 1000⟩⟩
def rG : List Gsp.Edge := [rE 0 0 1, rE 1 1 3, rE 2 0 2, rE 3 2 3]
def rM0 : MF := fun _ => none
def rM1 : MF := (noteR rM0 [rE 0 0 1, rE 1 1 3] 100 50 1).1
def rM2 : MF := (noteR rM1 [rE 2 0 2, rE 3 2 3] 100 50 (-1)).1
def rM3 : MF := (noteR rM2 [rE 2 0 2, rE 3 2 3] 100 50 0).1
theorem sm1 : bestR rG rM0 0 3 100 50 = ([rE 0 0 1, rE 1 1 3], ⟨810900, 1002001⟩, 0) := by decide +kernel
theorem sn1 : (noteR rM0 [rE 0 0 1, rE 1 1 3] 100 50 1).2 = 0 := by decide +kernel
theorem sm2 : bestR rG rM1 0 3 100 50 = ([rE 2 0 2, rE 3 2 3], ⟨810900, 1002001⟩, 0) := by decide +kernel
theorem sn2 : (noteR rM1 [rE 2 0 2, rE 3 2 3] 100 50 (-1)).2 = 0 := by decide +kernel
theorem sm3 : bestR rG rM2 0 3 100 50 = ([rE 2 0 2, rE 3 2 3], ⟨1, 1⟩, 0) := by decide +kernel
theorem sn3 : (noteR rM2 [rE 2 0 2, rE 3 2 3] 100 50 0).2 = 0 := by decide +kernel
theorem sm4 : bestR rG rM3 0 3 100 50 = ([], ⟨0, 0⟩, 19) := by decide +kernel
theorem sm5 : bestR rG rM3 0 0 100 50 = ([], ⟨0, 0⟩, 1) := by decide +kernel
theorem stx1 : textF 810900 1002001 = [56, 49, 48, 57, 48, 48, 47, 49, 48, 48, 50, 48, 48, 49] := by simp [textF, Lib.itoa, Lib.decDigits]
theorem stx2 : textF 1 1 = [49] := by simp [textF, Lib.itoa, Lib.decDigits]
set_option maxHeartbeats 4000000 in
theorem small38_ok (w : World) (hT : Tab w) : Calls Tryz.prog 7 #[] w fun r w' => r = .returned (.bool true) ∧ Le w w' := by
 have hq1 := digs_len_one (d := 810900) (by decide); have hq2 := digs_len_one (d := 1002001) (by decide); have hq3 := digs_len_one (d := 1) (by decide)
 refine enter Tryz.func7 rfl rfl ?_
 have L0 := Le.refl w
 refine WC.sr (W.run 1 rfl (W.nx (WC.sr ?_)))
 refine W.cl go28 rfl rfl (rledge_ok 0 0 1 w) ?_
 rintro _ w1_0 ⟨rfl, h1_0⟩
 have L1 := L0.trans h1_0
 refine W.cl go28 rfl rfl (rledge_ok 1 1 3 w1_0) ?_
 rintro _ w1_1 ⟨rfl, h1_1⟩
 have L2 := L1.trans h1_1
 refine W.cl go28 rfl rfl (rledge_ok 2 0 2 w1_1) ?_
 rintro _ w1_2 ⟨rfl, h1_2⟩
 have L3 := L2.trans h1_2
 refine W.cl go28 rfl rfl (rledge_ok 3 2 3 w1_2) ?_
 rintro _ w1_3 ⟨rfl, h1_3⟩
 have L4 := L3.trans h1_3
 refine W.ef rfl rfl rfl ?_
 refine Ef.buildSliceV (len := 4) [_, _, _, _] Tryz.underlying22 el51 rfl (by simp [Value.cells, edgeV_row.len]) rfl (by decide) (by decide) ?_
 intro g1_4 w1_4 hg1_4 b1_4 h1_4
 have L5 := L4.trans h1_4
 have b1_4 : Blk w1_4 g1_4 51 (([(rE 0 0 1), (rE 1 1 3), (rE 2 0 2), (rE 3 2 3)]).map edgeV).flatten.toArray := b1_4
 have o1_4 : OVec w1_4 w1_3.heap.size 51 edgeV 9 (some ⟨g1_4, 0, none⟩) 4 4 ([(rE 0 0 1), (rE 1 1 3), (rE 2 0 2), (rE 3 2 3)]) := b1_4.ovec hg1_4 edgeV_row rfl rfl (by decide)
 have o6 := o1_4.cast (m' := 4) (ys := rG) (rfl) (rfl)
 refine W.run 1 rfl (W.nx (WC.sr ?_))
 refine W.cl go29 rfl rfl (new_mind w1_4) ?_
 rintro _ w2_0 ⟨gp2_0, F2_0, rfl, p2_0, h2_0⟩
 have L7 := L5.trans h2_0
 refine W.run 1 rfl (W.nx (WC.seq (WC.sr (W.run 1 rfl ?_))))
 refine W.a (.dec (.isNilP (by kernel_rfl) rfl) rfl) ?_
 refine W.nx (WC.condF rfl (WC.sn (WC.sr (W.run 2 rfl ?_))))
 have f8 := (o6.le h2_0)
 refine W.cl go11 rfl rfl ((by have k := rbest_ok (c := 4) 0 3 100 50 w2_0 (m := rM0) (g := rG) p2_0 f8.vec (by decide); rw [sm1] at k; exact k)) ?_
 rintro _ w5_2 ⟨Aw5_2, cw5_2, An5_2, cn5_2, Ad5_2, cd5_2, rfl, ow5_2, on5_2, od5_2, h5_2⟩
 have L9 := L7.trans h5_2
 have ow5_2 := ow5_2.cast (m' := 2) rfl rfl
 refine W.run 1 rfl ?_
 refine W.a (.extract (v := .slice Aw5_2 2 cw5_2) rfl rfl) ?_
 refine W.a (.extract (v := .agg #[.slice An5_2 ((digs 810900).length) cn5_2, .slice Ad5_2 ((digs 1002001).length) cd5_2]) rfl rfl) ?_
 refine W.a (.extract (v := .int .i64 (0)) rfl rfl) ?_
 refine W.ef rfl rfl rfl ?_
 refine Ef.allocA z33 ?_
 intro g5_7 w5_7 hg5_7 b5_7 h5_7
 have L10 := L9.trans h5_7
 have b5_7 : Blk w5_7 g5_7 33 #[.slice none 0 0, .slice none 0 0] := b5_7
 refine W.run 1 rfl ?_
 refine W.ef0 rfl rfl ?_
 refine Ef.storeAll sz33 (by rfl) rfl rfl b5_7 (by rfl) (by simp [Value.oneCell']) ?_
 intro w5_9 b5_9 h5_9
 have b5_9 : Blk w5_9 g5_7 33 #[.slice An5_2 ((digs 810900).length) cn5_2, .slice Ad5_2 ((digs 1002001).length) cd5_2] := b5_9
 have L11 := L10.then_ h5_9 (fun q hq => by cases hq; exact Nat.le_trans L9.size hg5_7)
 refine W.run 1 rfl (W.nx (WC.sr (W.run 2 rfl ?_)))
 have f12 := ((p2_0.le (h5_2.trans h5_7)).ch h5_9 (fun q hqq hF => by cases hqq; have := p2_0.lt hF; have := h5_2.size; have := hg5_7; omega))
 have f13 := ((ow5_2.le h5_7).ch h5_9 (fun q hq => by cases hq; exact (fun he => by have := (ow5_2.row he).2; omega)))
 have hva6_2 := apart_vec f13 (show ∀ g, rowOf Aw5_2 cw5_2 = some g → ¬ F2_0 g from (fun g hg hF => by have := p2_0.lt hF;  have := (f13.row hg).1; omega))
 refine W.cl go18 rfl rfl ((by have k := rnote_ok (m := rM0) (c := cw5_2) 100 50 1 w5_9 f12 f13.vec (by decide) hva6_2; rw [sn1] at k; exact k)) ?_
 rintro _ w6_2 ⟨rfl, p6_2, g6_2, h6_2⟩
 have L14 := L11.chP_then h6_2 (fun i hi => Nat.le_trans L5.size (f12.old hi))
 have f15 := ((f8.le (h5_2.trans h5_7)).ch h5_9 (fun q hq => by cases hq; exact (fun he => by have := (f8.row he).2; have := h5_2.size; omega)))
 have f16 := ((on5_2.le h5_7).ch h5_9 (fun q hq => by cases hq; exact (fun he => by have := (on5_2.row he).2; omega)))
 have f17 := ((od5_2.le h5_7).ch h5_9 (fun q hq => by cases hq; exact (fun he => by have := (od5_2.row he).2; omega)))
 have zq18n := (show ∀ g, rowOf (some ⟨g1_4, 0, none⟩) 4 = some g → ¬ F2_0 g from (fun g hg hF => by have := f12.old hF;  have := (o1_4.row hg).2; omega))
 have zq18 := f15.chP h6_2 zq18n
 have zq18g : ∀ g, rowOf (some ⟨g1_4, 0, none⟩) 4 = some g → ¬ F2_0 g := fun g hg hF => (g6_2 _ hF).elim (zq18n g hg) (fun hz => by have := (f15.row hg).2; omega)
 have zq19n := (show ∀ g, rowOf Aw5_2 cw5_2 = some g → ¬ F2_0 g from (fun g hg hF => by have := p2_0.lt hF;  have := (f13.row hg).1; omega))
 have zq19 := f13.chP h6_2 zq19n
 have zq19g : ∀ g, rowOf Aw5_2 cw5_2 = some g → ¬ F2_0 g := fun g hg hF => (g6_2 _ hF).elim (zq19n g hg) (fun hz => by have := (f13.row hg).2; omega)
 have zq20n := (show ∀ g, rowOf An5_2 cn5_2 = some g → ¬ F2_0 g from (fun g hg hF => by have := p2_0.lt hF;  have := (f16.row hg).1; omega))
 have zq20 := f16.chP h6_2 zq20n
 have zq20g : ∀ g, rowOf An5_2 cn5_2 = some g → ¬ F2_0 g := fun g hg hF => (g6_2 _ hF).elim (zq20n g hg) (fun hz => by have := (f16.row hg).2; omega)
 have zq21n := (show ∀ g, rowOf Ad5_2 cd5_2 = some g → ¬ F2_0 g from (fun g hg hF => by have := p2_0.lt hF;  have := (f17.row hg).1; omega))
 have zq21 := f17.chP h6_2 zq21n
 have zq21g : ∀ g, rowOf Ad5_2 cd5_2 = some g → ¬ F2_0 g := fun g hg hF => (g6_2 _ hF).elim (zq21n g hg) (fun hz => by have := (f17.row hg).2; omega)
 have zq22n := (show ¬ F2_0 g5_7 from (fun hF => by have := p2_0.lt hF; have := h5_2.size; have := hg5_7; omega))
 have zq22 := b5_9.chP h6_2 zq22n
 have zq22g : ¬ F2_0 g5_7 := fun hF => (g6_2 _ hF).elim zq22n (fun hz => by have := b5_9.lt; omega)
 refine W.run 1 rfl (W.nx (WC.sr (W.run 2 rfl ?_)))
 refine W.cl go11 rfl rfl ((by have k := rbest_ok (c := 4) 0 3 100 50 w6_2 (m := rM1) (g := rG) p6_2 zq18.vec (by decide); rw [sm2] at k; exact k)) ?_
 rintro _ w7_2 ⟨Aw7_2, cw7_2, An7_2, cn7_2, Ad7_2, cd7_2, rfl, ow7_2, on7_2, od7_2, h7_2⟩
 have L23 := L14.trans h7_2
 have ow7_2 := ow7_2.cast (m' := 2) rfl rfl
 refine W.run 1 rfl ?_
 refine W.a (.extract (v := .slice Aw7_2 2 cw7_2) rfl rfl) ?_
 refine W.a (.extract (v := .agg #[.slice An7_2 ((digs 810900).length) cn7_2, .slice Ad7_2 ((digs 1002001).length) cd7_2]) rfl rfl) ?_
 refine W.a (.extract (v := .int .i64 (0)) rfl rfl) ?_
 refine W.ef rfl rfl rfl ?_
 refine Ef.allocA z33 ?_
 intro g7_7 w7_7 hg7_7 b7_7 h7_7
 have L24 := L23.trans h7_7
 have b7_7 : Blk w7_7 g7_7 33 #[.slice none 0 0, .slice none 0 0] := b7_7
 refine W.run 1 rfl ?_
 refine W.ef0 rfl rfl ?_
 refine Ef.storeAll sz33 (by rfl) rfl rfl b7_7 (by rfl) (by simp [Value.oneCell']) ?_
 intro w7_9 b7_9 h7_9
 have L25 := L24.then_ h7_9 (fun q hq => by cases hq; exact Nat.le_trans L23.size hg7_7)
 refine W.run 1 rfl (W.nx (WC.sr (W.run 2 rfl ?_)))
 have f26 := ((p6_2.le (h7_2.trans h7_7)).ch h7_9 (fun q hqq hF => by cases hqq; have := p6_2.lt hF; have := h7_2.size; have := hg7_7; omega))
 have f27 := ((ow7_2.le h7_7).ch h7_9 (fun q hq => by cases hq; exact (fun he => by have := (ow7_2.row he).2; omega)))
 have hva8_2 := apart_vec f27 (show ∀ g, rowOf Aw7_2 cw7_2 = some g → ¬ F2_0 g from (fun g hg hF => by have := p6_2.lt hF;  have := (f27.row hg).1; omega))
 refine W.cl go18 rfl rfl ((by have k := rnote_ok (m := rM1) (c := cw7_2) 100 50 (-1) w7_9 f26 f27.vec (by decide) hva8_2; rw [sn2] at k; exact k)) ?_
 rintro _ w8_2 ⟨rfl, p8_2, g8_2, h8_2⟩
 have L28 := L25.chP_then h8_2 (fun i hi => Nat.le_trans L5.size (f26.old hi))
 have f29 := ((zq18.le (h7_2.trans h7_7)).ch h7_9 (fun q hq => by cases hq; exact (fun he => by have := (zq18.row he).2; have := h7_2.size; omega)))
 have f30 := ((zq19.le (h7_2.trans h7_7)).ch h7_9 (fun q hq => by cases hq; exact (fun he => by have := (zq19.row he).2; have := h7_2.size; omega)))
 have f31 := ((zq20.le (h7_2.trans h7_7)).ch h7_9 (fun q hq => by cases hq; exact (fun he => by have := (zq20.row he).2; have := h7_2.size; omega)))
 have f32 := ((zq21.le (h7_2.trans h7_7)).ch h7_9 (fun q hq => by cases hq; exact (fun he => by have := (zq21.row he).2; have := h7_2.size; omega)))
 have f33 := ((zq22.le (h7_2.trans h7_7)).ch h7_9 (fun h => (show g7_7 ≠ g5_7 from by have := zq22.lt; have := h7_2.size; omega) (Option.some.inj h)))
 have zq36n := (show ∀ g, rowOf (some ⟨g1_4, 0, none⟩) 4 = some g → ¬ F2_0 g from zq18g)
 have zq36 := f29.chP h8_2 zq36n
 have zq36g : ∀ g, rowOf (some ⟨g1_4, 0, none⟩) 4 = some g → ¬ F2_0 g := fun g hg hF => (g8_2 _ hF).elim (zq36n g hg) (fun hz => by have := (f29.row hg).2; omega)
 have zq37n := (show ∀ g, rowOf Aw5_2 cw5_2 = some g → ¬ F2_0 g from zq19g)
 have zq37 := f30.chP h8_2 zq37n
 have zq37g : ∀ g, rowOf Aw5_2 cw5_2 = some g → ¬ F2_0 g := fun g hg hF => (g8_2 _ hF).elim (zq37n g hg) (fun hz => by have := (f30.row hg).2; omega)
 have zq38n := (show ∀ g, rowOf An5_2 cn5_2 = some g → ¬ F2_0 g from zq20g)
 have zq38 := f31.chP h8_2 zq38n
 have zq38g : ∀ g, rowOf An5_2 cn5_2 = some g → ¬ F2_0 g := fun g hg hF => (g8_2 _ hF).elim (zq38n g hg) (fun hz => by have := (f31.row hg).2; omega)
 have zq39n := (show ∀ g, rowOf Ad5_2 cd5_2 = some g → ¬ F2_0 g from zq21g)
 have zq39 := f32.chP h8_2 zq39n
 have zq39g : ∀ g, rowOf Ad5_2 cd5_2 = some g → ¬ F2_0 g := fun g hg hF => (g8_2 _ hF).elim (zq39n g hg) (fun hz => by have := (f32.row hg).2; omega)
 have zq40n := (show ¬ F2_0 g5_7 from zq22g)
 have zq40 := f33.chP h8_2 zq40n
 have zq40g : ¬ F2_0 g5_7 := fun hF => (g8_2 _ hF).elim zq40n (fun hz => by have := f33.lt; omega)
 have zq41n := (show ∀ g, rowOf Aw7_2 cw7_2 = some g → ¬ F2_0 g from (fun g hg hF => by have := p6_2.lt hF;  have := (f27.row hg).1; omega))
 have zq41 := f27.chP h8_2 zq41n
 have zq41g : ∀ g, rowOf Aw7_2 cw7_2 = some g → ¬ F2_0 g := fun g hg hF => (g8_2 _ hF).elim (zq41n g hg) (fun hz => by have := (f27.row hg).2; omega)
 refine W.run 1 rfl (W.nx (WC.sr (W.run 2 rfl ?_)))
 refine W.cl go11 rfl rfl ((by have k := rbest_ok (c := 4) 0 3 100 50 w8_2 (m := rM2) (g := rG) p8_2 zq36.vec (by decide); rw [sm3] at k; exact k)) ?_
 rintro _ w9_2 ⟨Aw9_2, cw9_2, An9_2, cn9_2, Ad9_2, cd9_2, rfl, ow9_2, on9_2, od9_2, h9_2⟩
 have L45 := L28.trans h9_2
 have ow9_2 := ow9_2.cast (m' := 2) rfl rfl
 refine W.run 1 rfl ?_
 refine W.a (.extract (v := .slice Aw9_2 2 cw9_2) rfl rfl) ?_
 refine W.a (.extract (v := .agg #[.slice An9_2 ((digs 1).length) cn9_2, .slice Ad9_2 ((digs 1).length) cd9_2]) rfl rfl) ?_
 refine W.a (.extract (v := .int .i64 (0)) rfl rfl) ?_
 refine W.ef rfl rfl rfl ?_
 refine Ef.allocA z33 ?_
 intro g9_7 w9_7 hg9_7 b9_7 h9_7
 have L46 := L45.trans h9_7
 have b9_7 : Blk w9_7 g9_7 33 #[.slice none 0 0, .slice none 0 0] := b9_7
 refine W.run 1 rfl ?_
 refine W.ef0 rfl rfl ?_
 refine Ef.storeAll sz33 (by rfl) rfl rfl b9_7 (by rfl) (by simp [Value.oneCell']) ?_
 intro w9_9 b9_9 h9_9
 have b9_9 : Blk w9_9 g9_7 33 #[.slice An9_2 ((digs 1).length) cn9_2, .slice Ad9_2 ((digs 1).length) cd9_2] := b9_9
 have L47 := L46.then_ h9_9 (fun q hq => by cases hq; exact Nat.le_trans L45.size hg9_7)
 refine W.run 1 rfl (W.nx (WC.sr (W.run 2 rfl ?_)))
 have f48 := ((p8_2.le (h9_2.trans h9_7)).ch h9_9 (fun q hqq hF => by cases hqq; have := p8_2.lt hF; have := h9_2.size; have := hg9_7; omega))
 have f49 := ((ow9_2.le h9_7).ch h9_9 (fun q hq => by cases hq; exact (fun he => by have := (ow9_2.row he).2; omega)))
 have hva10_2 := apart_vec f49 (show ∀ g, rowOf Aw9_2 cw9_2 = some g → ¬ F2_0 g from (fun g hg hF => by have := p8_2.lt hF;  have := (f49.row hg).1; omega))
 refine W.cl go18 rfl rfl ((by have k := rnote_ok (m := rM2) (c := cw9_2) 100 50 0 w9_9 f48 f49.vec (by decide) hva10_2; rw [sn3] at k; exact k)) ?_
 rintro _ w10_2 ⟨rfl, p10_2, g10_2, h10_2⟩
 have L50 := L47.chP_then h10_2 (fun i hi => Nat.le_trans L5.size (f48.old hi))
 have f51 := ((zq36.le (h9_2.trans h9_7)).ch h9_9 (fun q hq => by cases hq; exact (fun he => by have := (zq36.row he).2; have := h9_2.size; omega)))
 have f52 := ((zq37.le (h9_2.trans h9_7)).ch h9_9 (fun q hq => by cases hq; exact (fun he => by have := (zq37.row he).2; have := h9_2.size; omega)))
 have f53 := ((zq38.le (h9_2.trans h9_7)).ch h9_9 (fun q hq => by cases hq; exact (fun he => by have := (zq38.row he).2; have := h9_2.size; omega)))
 have f54 := ((zq39.le (h9_2.trans h9_7)).ch h9_9 (fun q hq => by cases hq; exact (fun he => by have := (zq39.row he).2; have := h9_2.size; omega)))
 have f55 := ((zq40.le (h9_2.trans h9_7)).ch h9_9 (fun h => (show g9_7 ≠ g5_7 from by have := zq40.lt; have := h9_2.size; omega) (Option.some.inj h)))
 have f56 := ((zq41.le (h9_2.trans h9_7)).ch h9_9 (fun q hq => by cases hq; exact (fun he => by have := (zq41.row he).2; have := h9_2.size; omega)))
 have f60 := ((on9_2.le h9_7).ch h9_9 (fun q hq => by cases hq; exact (fun he => by have := (on9_2.row he).2; omega)))
 have f61 := ((od9_2.le h9_7).ch h9_9 (fun q hq => by cases hq; exact (fun he => by have := (od9_2.row he).2; omega)))
 have zq62n := (show ∀ g, rowOf (some ⟨g1_4, 0, none⟩) 4 = some g → ¬ F2_0 g from zq36g)
 have zq62 := f51.chP h10_2 zq62n
 have zq63n := (show ∀ g, rowOf Aw5_2 cw5_2 = some g → ¬ F2_0 g from zq37g)
 have zq63 := f52.chP h10_2 zq63n
 have zq64n := (show ∀ g, rowOf An5_2 cn5_2 = some g → ¬ F2_0 g from zq38g)
 have zq64 := f53.chP h10_2 zq64n
 have zq65n := (show ∀ g, rowOf Ad5_2 cd5_2 = some g → ¬ F2_0 g from zq39g)
 have zq65 := f54.chP h10_2 zq65n
 have zq66n := (show ¬ F2_0 g5_7 from zq40g)
 have zq66 := f55.chP h10_2 zq66n
 have zq67n := (show ∀ g, rowOf Aw7_2 cw7_2 = some g → ¬ F2_0 g from zq41g)
 have zq67 := f56.chP h10_2 zq67n
 have zq71n := (show ∀ g, rowOf Aw9_2 cw9_2 = some g → ¬ F2_0 g from (fun g hg hF => by have := p8_2.lt hF;  have := (f49.row hg).1; omega))
 have zq71 := f49.chP h10_2 zq71n
 have zq72n := (show ∀ g, rowOf An9_2 cn9_2 = some g → ¬ F2_0 g from (fun g hg hF => by have := p8_2.lt hF;  have := (f60.row hg).1; omega))
 have zq72 := f60.chP h10_2 zq72n
 have zq73n := (show ∀ g, rowOf Ad9_2 cd9_2 = some g → ¬ F2_0 g from (fun g hg hF => by have := p8_2.lt hF;  have := (f61.row hg).1; omega))
 have zq73 := f61.chP h10_2 zq73n
 have zq74n := (show ¬ F2_0 g9_7 from (fun hF => by have := p8_2.lt hF; have := h9_2.size; have := hg9_7; omega))
 have zq74 := b9_9.chP h10_2 zq74n
 refine W.run 1 rfl (W.nx (WC.sr (W.run 2 rfl ?_)))
 refine W.cl go11 rfl rfl ((by have k := rbest_ok (c := 4) 0 3 100 50 w10_2 (m := rM3) (g := rG) p10_2 zq62.vec (by decide); rw [sm4] at k; exact k)) ?_
 rintro _ w11_2 ⟨Aw11_2, cw11_2, An11_2, cn11_2, Ad11_2, cd11_2, rfl, ow11_2, on11_2, od11_2, h11_2⟩
 have L75 := L50.trans h11_2
 have ow11_2 := ow11_2.cast (m' := 0) rfl rfl
 refine W.run 1 rfl ?_
 refine W.a (.extract (v := .slice Aw11_2 0 cw11_2) rfl rfl) ?_
 refine W.a (.extract (v := .agg #[.slice An11_2 ((digs 0).length) cn11_2, .slice Ad11_2 ((digs 0).length) cd11_2]) rfl rfl) ?_
 refine W.a (.extract (v := .int .i64 (19)) rfl rfl) ?_
 refine W.ef rfl rfl rfl ?_
 refine Ef.allocA z33 ?_
 intro g11_7 w11_7 hg11_7 b11_7 h11_7
 have L76 := L75.trans h11_7
 have b11_7 : Blk w11_7 g11_7 33 #[.slice none 0 0, .slice none 0 0] := b11_7
 refine W.run 1 rfl ?_
 refine W.ef0 rfl rfl ?_
 refine Ef.storeAll sz33 (by rfl) rfl rfl b11_7 (by rfl) (by simp [Value.oneCell']) ?_
 intro w11_9 b11_9 h11_9
 have L77 := L76.then_ h11_9 (fun q hq => by cases hq; exact Nat.le_trans L75.size hg11_7)
 refine W.run 1 rfl (W.nx (WC.sr (W.run 2 rfl ?_)))
 have f78 := ((p10_2.le (h11_2.trans h11_7)).ch h11_9 (fun q hqq hF => by cases hqq; have := p10_2.lt hF; have := h11_2.size; have := hg11_7; omega))
 have f79 := ((zq62.le (h11_2.trans h11_7)).ch h11_9 (fun q hq => by cases hq; exact (fun he => by have := (zq62.row he).2; have := h11_2.size; omega)))
 refine W.cl go11 rfl rfl ((by have k := rbest_ok (c := 4) 0 0 100 50 w11_9 (m := rM3) (g := rG) f78 f79.vec (by decide); rw [sm5] at k; exact k)) ?_
 rintro _ w12_2 ⟨Aw12_2, cw12_2, An12_2, cn12_2, Ad12_2, cd12_2, rfl, ow12_2, on12_2, od12_2, h12_2⟩
 have L80 := L77.trans h12_2
 have ow12_2 := ow12_2.cast (m' := 0) rfl rfl
 refine W.run 1 rfl ?_
 refine W.a (.extract (v := .slice Aw12_2 0 cw12_2) rfl rfl) ?_
 refine W.a (.extract (v := .agg #[.slice An12_2 ((digs 0).length) cn12_2, .slice Ad12_2 ((digs 0).length) cd12_2]) rfl rfl) ?_
 refine W.a (.extract (v := .int .i64 (1)) rfl rfl) ?_
 refine W.ef rfl rfl rfl ?_
 refine Ef.allocA z33 ?_
 intro g12_7 w12_7 hg12_7 b12_7 h12_7
 have L81 := L80.trans h12_7
 have b12_7 : Blk w12_7 g12_7 33 #[.slice none 0 0, .slice none 0 0] := b12_7
 refine W.run 1 rfl ?_
 refine W.ef0 rfl rfl ?_
 refine Ef.storeAll sz33 (by rfl) rfl rfl b12_7 (by rfl) (by simp [Value.oneCell']) ?_
 intro w12_9 b12_9 h12_9
 have L82 := L81.then_ h12_9 (fun q hq => by cases hq; exact Nat.le_trans L80.size hg12_7)
 refine W.run 1 rfl (W.nx (WC.sr (W.run 1 rfl ?_)))
 refine W.a (.dec (.eql rfl rfl) (show _ = true from by first | decide | rfl)) ?_
 refine W.run 2 rfl ?_
 refine W.g (.len Tryz.underlying22 rfl) ?_
 refine W.g (Any.rd (.dec (.eql rfl rfl) (show _ = true from by first | decide | rfl)) _) ?_
 refine W.run 3 rfl ?_
 refine W.g (Any.rd (.idxS (0) Tryz.underlying22 sz51 rfl rfl (ow5_2.vec.isSome edgeV_row (by omega)) (rfl) (by omega)) _) ?_
 refine W.g (Any.rd (.vfield fa51_2 (ow5_2.vec.isSome edgeV_row (by omega)) rfl) _) ?_
 have f83 := ((((zq63.le (h11_2.trans h11_7)).ch h11_9 (fun q hq => by cases hq; exact (fun he => by have := (zq63.row he).2; have := h11_2.size; omega))).le (h12_2.trans h12_7)).ch h12_9 (fun q hq => by cases hq; exact (fun he => by have := (zq63.row he).2; have := h11_2.size; have := h11_7.size; have := h11_9.size; have := h12_2.size; omega)))
 refine W.g (.vcell (j := 0) (o := 2) (v := .int .i64 ((([rE 0 0 1, rE 1 1 3]).getD 0 noEdge).c)) na3 rfl f83.vec edgeV_row (getS ([rE 0 0 1, rE 1 1 3]) noEdge (by first | omega | (simp only [List.length_cons, List.length_nil]; omega))) rfl) ?_
 refine W.g (Any.rd (.dec (.eql rfl rfl) (decide_eq_true rfl)) _) ?_
 refine W.run 2 rfl ?_
 have f84 := ((((zq66.le (h11_2.trans h11_7)).ch h11_9 (fun h => (show g11_7 ≠ g5_7 from by have := zq66.lt; have := h11_2.size; omega) (Option.some.inj h))).le (h12_2.trans h12_7)).ch h12_9 (fun h => (show g12_7 ≠ g5_7 from by have := zq66.lt; have := h11_2.size; have := h11_7.size; have := h11_9.size; have := h12_2.size; omega) (Option.some.inj h)))
 refine W.g (.loadAll ag33 (by rfl) rfl f84) ?_
 have f85 := ((((zq64.le (h11_2.trans h11_7)).ch h11_9 (fun q hq => by cases hq; exact (fun he => by have := (zq64.row he).2; have := h11_2.size; omega))).le (h12_2.trans h12_7)).ch h12_9 (fun q hq => by cases hq; exact (fun he => by have := (zq64.row he).2; have := h11_2.size; have := h11_7.size; have := h11_9.size; have := h12_2.size; omega)))
 have f86 := ((((zq65.le (h11_2.trans h11_7)).ch h11_9 (fun q hq => by cases hq; exact (fun he => by have := (zq65.row he).2; have := h11_2.size; omega))).le (h12_2.trans h12_7)).ch h12_9 (fun q hq => by cases hq; exact (fun he => by have := (zq65.row he).2; have := h11_2.size; have := h11_7.size; have := h11_9.size; have := h12_2.size; omega)))
 refine W.efg rfl rfl rfl (rfl) rfl rfl ?_
 refine Ef.call go30 rfl rfl (ftext_ok w12_9 (hT.le L82) f85.vec f86.vec (by omega) (by omega) (by decide +kernel) (by decide) (by decide)) ?_
 rintro _ w13_16 ⟨rfl, h13_16⟩
 refine ⟨_, rfl, ?_⟩
 have L87 := L82.trans h13_16
 refine W.g (Any.rd (.eqlYes (a := textF 810900 1002001) (b := ([56, 49, 48, 57, 48, 48, 47, 49, 48, 48, 50, 48, 48, 49] : List UInt8)) rfl rfl (stx1)) _) ?_
 refine W.run 3 rfl ?_
 refine W.g (Any.rd (.dec (.eql rfl rfl) (show _ = true from by first | decide | rfl)) _) ?_
 refine W.run 3 rfl ?_
 refine W.g (Any.rd (.dec (.eql rfl rfl) (show _ = true from by first | decide | rfl)) _) ?_
 refine W.run 3 rfl ?_
 refine W.g (.len Tryz.underlying22 rfl) ?_
 refine W.g (Any.rd (.dec (.eql rfl rfl) (show _ = true from by first | decide | rfl)) _) ?_
 refine W.run 3 rfl ?_
 refine W.g (Any.rd (.idxS (0) Tryz.underlying22 sz51 rfl rfl (ow7_2.vec.isSome edgeV_row (by omega)) (rfl) (by omega)) _) ?_
 refine W.g (Any.rd (.vfield fa51_2 (ow7_2.vec.isSome edgeV_row (by omega)) rfl) _) ?_
 have f88 := (((((zq67.le (h11_2.trans h11_7)).ch h11_9 (fun q hq => by cases hq; exact (fun he => by have := (zq67.row he).2; have := h11_2.size; omega))).le (h12_2.trans h12_7)).ch h12_9 (fun q hq => by cases hq; exact (fun he => by have := (zq67.row he).2; have := h11_2.size; have := h11_7.size; have := h11_9.size; have := h12_2.size; omega))).le h13_16)
 refine W.g (.vcell (j := 0) (o := 2) (v := .int .i64 ((([rE 2 0 2, rE 3 2 3]).getD 0 noEdge).c)) na3 rfl f88.vec edgeV_row (getS ([rE 2 0 2, rE 3 2 3]) noEdge (by first | omega | (simp only [List.length_cons, List.length_nil]; omega))) rfl) ?_
 refine W.g (Any.rd (.dec (.eql rfl rfl) (decide_eq_true rfl)) _) ?_
 refine W.run 3 rfl ?_
 refine W.g (Any.rd (.dec (.eql rfl rfl) (show _ = true from by first | decide | rfl)) _) ?_
 refine W.run 3 rfl ?_
 refine W.g (Any.rd (.dec (.eql rfl rfl) (show _ = true from by first | decide | rfl)) _) ?_
 refine W.run 3 rfl ?_
 refine W.g (.len Tryz.underlying22 rfl) ?_
 refine W.g (Any.rd (.dec (.eql rfl rfl) (show _ = true from by first | decide | rfl)) _) ?_
 refine W.run 3 rfl ?_
 refine W.g (Any.rd (.idxS (0) Tryz.underlying22 sz51 rfl rfl (ow9_2.vec.isSome edgeV_row (by omega)) (rfl) (by omega)) _) ?_
 refine W.g (Any.rd (.vfield fa51_2 (ow9_2.vec.isSome edgeV_row (by omega)) rfl) _) ?_
 have f89 := (((((zq71.le (h11_2.trans h11_7)).ch h11_9 (fun q hq => by cases hq; exact (fun he => by have := (zq71.row he).2; have := h11_2.size; omega))).le (h12_2.trans h12_7)).ch h12_9 (fun q hq => by cases hq; exact (fun he => by have := (zq71.row he).2; have := h11_2.size; have := h11_7.size; have := h11_9.size; have := h12_2.size; omega))).le h13_16)
 refine W.g (.vcell (j := 0) (o := 2) (v := .int .i64 ((([rE 2 0 2, rE 3 2 3]).getD 0 noEdge).c)) na3 rfl f89.vec edgeV_row (getS ([rE 2 0 2, rE 3 2 3]) noEdge (by first | omega | (simp only [List.length_cons, List.length_nil]; omega))) rfl) ?_
 refine W.g (Any.rd (.dec (.eql rfl rfl) (decide_eq_true rfl)) _) ?_
 refine W.run 2 rfl ?_
 have f90 := (((((zq74.le (h11_2.trans h11_7)).ch h11_9 (fun h => (show g11_7 ≠ g9_7 from by have := zq74.lt; have := h11_2.size; omega) (Option.some.inj h))).le (h12_2.trans h12_7)).ch h12_9 (fun h => (show g12_7 ≠ g9_7 from by have := zq74.lt; have := h11_2.size; have := h11_7.size; have := h11_9.size; have := h12_2.size; omega) (Option.some.inj h))).le h13_16)
 refine W.g (.loadAll ag33 (by rfl) rfl f90) ?_
 have f91 := (((((zq72.le (h11_2.trans h11_7)).ch h11_9 (fun q hq => by cases hq; exact (fun he => by have := (zq72.row he).2; have := h11_2.size; omega))).le (h12_2.trans h12_7)).ch h12_9 (fun q hq => by cases hq; exact (fun he => by have := (zq72.row he).2; have := h11_2.size; have := h11_7.size; have := h11_9.size; have := h12_2.size; omega))).le h13_16)
 have f92 := (((((zq73.le (h11_2.trans h11_7)).ch h11_9 (fun q hq => by cases hq; exact (fun he => by have := (zq73.row he).2; have := h11_2.size; omega))).le (h12_2.trans h12_7)).ch h12_9 (fun q hq => by cases hq; exact (fun he => by have := (zq73.row he).2; have := h11_2.size; have := h11_7.size; have := h11_9.size; have := h12_2.size; omega))).le h13_16)
 refine W.efg rfl rfl rfl (rfl) rfl rfl ?_
 refine Ef.call go30 rfl rfl (ftext_ok w13_16 (hT.le L87) f91.vec f92.vec (by omega) (by omega) (by decide +kernel) (by decide) (by decide)) ?_
 rintro _ w13_61 ⟨rfl, h13_61⟩
 refine ⟨_, rfl, ?_⟩
 have L93 := L87.trans h13_61
 refine W.g (Any.rd (.eqlYes (a := textF 1 1) (b := ([49] : List UInt8)) rfl rfl (stx2)) _) ?_
 refine W.run 3 rfl ?_
 refine W.g (Any.rd (.dec (.eql rfl rfl) (show _ = true from by first | decide | rfl)) _) ?_
 refine W.run 3 rfl ?_
 refine W.g (Any.rd (.dec (.eql rfl rfl) (show _ = true from by first | decide | rfl)) _) ?_
 refine W.run 3 rfl ?_
 refine W.g (Any.rd (.dec (.eql rfl rfl) (show _ = true from by first | decide | rfl)) _) ?_
 refine W.run 2 rfl (W.nx (WC.ret ?_))
 refine E.retG1 rfl rfl ?_
 exact ⟨rfl, L93⟩
end Go.Proofs.YtmkdeemjkcigkaaGreatDoor

namespace Go.Proofs.YtmkdeemjkcigkaaGreatDoor
open Go Go.Sx Go.Num Go.Gsp Go.Nsp Go.Msp Go.Rtp
set_option maxRecDepth 20000
theorem few_T {n n2 : Nat} (h : (decide (n ≤ 12) && decide (n2 ≤ 20)) = true) : n ≤ 12 ∧ n2 ≤ 20 := by simpa using h
theorem bestR_len {g : List Gsp.Edge} {m : MF} {fr to a x : Int} (hm : GoodM m) : (bestR g m fr to a x).1.length ≤ 8 ∧ (digs (bestR g m fr to a x).2.1.n).length ≤ 100 ∧ (digs (bestR g m fr to a x).2.1.d).length ≤ 100 := by
  rcases bestR_errs (g := g) (fr := fr) (to := to) (a := a) (x := x) hm with h | h | h
  · obtain ⟨_, h2, h3, _⟩ := bestR_ok hm h
    have h1 := oddsR_len hm (bestR g m fr to a x).1 a x
    rw [← h3] at h1
    exact ⟨(wayG_len h2.way).2, h1⟩
  · rw [h]; simp only [digs_zero]; decide
  · rw [h]; simp only [digs_zero]; decide
end Go.Proofs.YtmkdeemjkcigkaaGreatDoor

namespace Go.Proofs.YtmkdeemjkcigkaaGreatDoor
open Go Go.Sx Go.Num Go.Gsp Go.Nsp Go.Msp Go.Rtp
set_option maxRecDepth 20000
theorem len_of_zero {d : Nat} : (digs (lowF 0 1).n).length ≤ 1 ∧ (digs (lowF 0 1).d).length ≤ 1 := by
  rw [lowF_zero (by decide)]
  exact ⟨digs_len_one (by decide), digs_len_one (by decide)⟩
theorem cmp_pos {p q : Nat} (hok : okF ⟨p, q⟩) : 0 < cmpF (takF (⟨p, q⟩ : Fr)) (takF (⟨(lowF 0 1).n, (lowF 0 1).d⟩ : Fr)) ↔ p ≠ 0 := by
  have e : (⟨(lowF 0 1).n, (lowF 0 1).d⟩ : Fr) = ⟨0, 1⟩ := lowF_zero (by decide)
  rw [e, takF_id hok, show takF ⟨0, 1⟩ = ⟨0, 1⟩ from by decide, cmpF_pos]
  unfold ltF
  simp only [Nat.zero_mul, Nat.mul_one]
  omega
end Go.Proofs.YtmkdeemjkcigkaaGreatDoor

namespace Go.Proofs.YtmkdeemjkcigkaaGreatDoor
open Go Go.Sx Go.Num Go.Gsp Go.Nsp Go.Msp Go.Rtp
set_option maxRecDepth 20000
set_option maxHeartbeats 4000000
def FndV (b : FB) (Aw : Option Addr) (cw : Nat) (An : Option Addr) (cn : Nat) (Ad : Option Addr) (cd : Nat) : Value := .agg #[.slice Aw b.1.way.length cw, .slice An (digs b.1.odds.n).length cn, .slice Ad (digs b.1.odds.d).length cd, .int .i64 b.1.sent, .bool b.2]
def FndC (w : World) (bs : Nat) (b : FB) (Aw : Option Addr) (cw : Nat) (An : Option Addr) (cn : Nat) (Ad : Option Addr) (cd : Nat) : Prop :=
  OVec w bs 51 edgeV 9 Aw b.1.way.length cw b.1.way ∧ OVec w bs 122 dv 1 An (digs b.1.odds.n).length cn (digs b.1.odds.n) ∧ OVec w bs 122 dv 1 Ad (digs b.1.odds.d).length cd (digs b.1.odds.d) ∧ b.1.way.length ≤ 8 ∧ (digs b.1.odds.n).length ≤ 100 ∧ (digs b.1.odds.d).length ≤ 100
def FndAt (w : World) (bs : Nat) (b : FB) (r : Ending) : Prop := ∃ Aw cw An cn Ad cd, r = .returned (FndV b Aw cw An cn Ad cd) ∧ FndC w bs b Aw cw An cn Ad cd
theorem rlook_end {g : List Gsp.Edge} {m : MF} {to a x : Int} {k : Nat} {way : List Gsp.Edge} {b : FB} (h : endT way = to) (h1 : takeQ m a x way b) : rlook g m to a x (k + 1) way b = (fo m a x way, true) := by unfold rlook; rw [if_pos h, if_pos h1]
theorem rlook_old {g : List Gsp.Edge} {m : MF} {to a x : Int} {k : Nat} {way : List Gsp.Edge} {b : FB} (h : endT way = to) (h1 : ¬ takeQ m a x way b) : rlook g m to a x (k + 1) way b = b := by unfold rlook; rw [if_pos h, if_neg h1]
theorem rlook_go {g : List Gsp.Edge} {m : MF} {to a x : Int} {k : Nat} {way : List Gsp.Edge} {b : FB} (h : ¬ endT way = to) : rlook g m to a x (k + 1) way b = g.foldl (rstep (rlook g m to a x k) way) b := by rw [rlook, if_neg h]
theorem rfold_next {α : Type} {f : FB → α → FB} {b : FB} {l : List α} {z : α} {k : Nat} (hk : k < l.length) : (l.take (k + 1)).foldl f b = f ((l.take k).foldl f b) (l.getD k z) := by
  rw [List.take_add_one, List.foldl_append]
  simp [List.getD, hk]
theorem r38look_step {bs base gp ng cg : Nat} {F : Nat → Prop} {s : MF × Nat} {Ag : Option Addr} {g : List Gsp.Edge} {to a x : Int} {k : Nat} {A : Option Addr} {n c : Nat} {way : List Gsp.Edge} {b : FB} {Aw An Ad : Option Addr} {cw cn cd : Nat} (w : World) (hP : RMPool w base gp F s) (hN : s.2 ≤ 100000) (hg : Vec w edgeV 9 Ag ng g) (hng : ng ≤ 1000000) (ih : ∀ (way' : List Gsp.Edge) {A' : Option Addr} {n' c' : Nat} (b' : FB) {Aw' An' Ad' : Option Addr} {cw' cn' cd' : Nat} (w1 : World), Le w w1 → OVec w1 bs 51 edgeV 9 A' n' c' way' → n' + k = 9 → 1 ≤ k → FndC w1 bs b' Aw' cw' An' cn' Ad' cd' → Calls Tryz.prog 43 #[.slice Ag ng cg, .pointer (some ⟨gp, 0, none⟩), .slice A' n' c', .int .i64 to, .int .i64 a, .int .i64 x, FndV b' Aw' cw' An' cn' Ad' cd'] w1 fun r w2 => FndAt w2 bs (rlook g s.1 to a x k way' b') r ∧ Le w1 w2) (hbs0 : bs ≤ w.heap.size) (hW : OVec w bs 51 edgeV 9 A n c way) (hnk : n + k = 8) (hn1 : 1 ≤ n) (hB : FndC w bs b Aw cw An cn Ad cd) : Calls Tryz.prog 43 #[.slice Ag ng cg, .pointer (some ⟨gp, 0, none⟩), .slice A n c, .int .i64 (to), .int .i64 (a), .int .i64 (x), .agg #[.slice Aw b.1.way.length cw, .slice An ((digs b.1.odds.n).length) cn, .slice Ad ((digs b.1.odds.d).length) cd, .int .i64 (b.1.sent), .bool (b.2)]] w fun r w' => FndAt w' bs (rlook g s.1 to a x (k + 1) way b) r ∧ Le w w' := by
 obtain ⟨hBw, hBn, hBd, hBl⟩ := hB
 have hgm := hP.good
 have hol := oddsR_len hgm way a x
 have hwl := hW.vec.1
 have hgl := hg.1
 have hz01 := len_of_zero (d := 0)
 refine enter Tryz.func43 rfl rfl ?_
 have L0 := Le.refl w
 refine WC.sr (W.ef rfl rfl rfl ?_)
 refine Ef.boxA rfl ?_
 intro g0_0 w0_0 hg0_0 b0_0 h0_0
 have L1 := L0.trans h0_0
 have b0_0 : Blk w0_0 g0_0 78 #[.slice Aw b.1.way.length cw, .slice An ((digs b.1.odds.n).length) cn, .slice Ad ((digs b.1.odds.d).length) cd, .int .i64 (b.1.sent), .bool (b.2)] := b0_0
 refine W.ef rfl rfl rfl ?_
 refine Ef.allocA z78 ?_
 intro g0_1 w0_1 hg0_1 b0_1 h0_1
 have L2 := L1.trans h0_1
 have b0_1 : Blk w0_1 g0_1 78 #[.slice none 0 0, .slice none 0 0, .slice none 0 0, .int .i64 (0), .bool false] := b0_1
 refine W.nx (WC.sr (W.run 2 rfl ?_))
 refine W.r (.len Tryz.underlying22 rfl) ?_
 refine W.a (.sub rfl rfl (by omega)) ?_
 refine W.a (.idxS ((n - 1)) Tryz.underlying22 sz51 rfl rfl (hW.vec.isSome edgeV_row (by omega)) (by omega) (by omega)) ?_
 refine W.a (.vfield fa51_1 (hW.vec.isSome edgeV_row (by omega)) rfl) ?_
 have f3 := (hW.le (h0_0.trans h0_1))
 refine W.r (.vcell (j := (n - 1)) (o := 1) (v := .int .i64 ((way.getD (n - 1) noEdge).t)) na3 rfl f3.vec edgeV_row (getS way noEdge (by omega)) rfl) ?_
 refine W.run 1 rfl (W.nx (WC.seq (WC.sr (W.run 3 rfl (W.nx ?_)))))
 by_cases c0 : ((way.getD (n - 1) noEdge).t) = to
 ·refine WC.condY rfl (decide_eq_true c0) ?_
  refine WC.sr (W.run 4 rfl ?_)
  have f4 := (hP.le (h0_0.trans h0_1))
  refine W.cl go15 rfl rfl (r38odds_ok (c := c) a x w0_1 f4 f3.vec (by omega) (by omega)) ?_
  rintro _ w3_4 ⟨An3_4, cn3_4, Ad3_4, cd3_4, rfl, on3_4, od3_4, h3_4⟩
  have L5 := L2.trans h3_4
  refine W.run 1 rfl ?_
  refine W.a (.extract (v := .agg #[.slice An3_4 ((digs ((oddsR s.1 way a x).1.n)).length) cn3_4, .slice Ad3_4 ((digs ((oddsR s.1 way a x).1.d)).length) cd3_4]) rfl rfl) ?_
  refine W.run 2 rfl (W.ef rfl rfl rfl ?_)
  refine Ef.allocA z33 ?_
  intro g3_9 w3_9 hg3_9 b3_9 h3_9
  have L6 := L5.trans h3_9
  have b3_9 : Blk w3_9 g3_9 33 #[.slice none 0 0, .slice none 0 0] := b3_9
  refine W.ef0 rfl rfl ?_
  refine Ef.storeAll sz33 (by rfl) rfl rfl b3_9 (by rfl) (by simp [Value.oneCell']) ?_
  intro w3_10 b3_10 h3_10
  have b3_10 : Blk w3_10 g3_9 33 #[.slice An3_4 ((digs ((oddsR s.1 way a x).1.n)).length) cn3_4, .slice Ad3_4 ((digs ((oddsR s.1 way a x).1.d)).length) cd3_4] := b3_10
  have L7 := L6.then_ h3_10 (fun q hq => by cases hq; exact Nat.le_trans L5.size hg3_9)
  refine W.run 2 rfl (W.nx (WC.sr ?_))
  refine W.cl go48 rfl rfl (rfof_ok 0 1 w3_10 (by omega) (by omega) (by omega)) ?_
  rintro _ w4_0 ⟨An4_0, cn4_0, Ad4_0, cd4_0, rfl, on4_0, od4_0, h4_0⟩
  have L8 := L7.trans h4_0
  refine W.run 1 rfl ?_
  refine W.a (.extract (v := .agg #[.slice An4_0 ((digs ((lowF 0 1).n)).length) cn4_0, .slice Ad4_0 ((digs ((lowF 0 1).d)).length) cd4_0]) rfl rfl) ?_
  refine W.run 1 rfl (W.ef rfl rfl rfl ?_)
  refine Ef.allocA z33 ?_
  intro g4_4 w4_4 hg4_4 b4_4 h4_4
  have L9 := L8.trans h4_4
  have b4_4 : Blk w4_4 g4_4 33 #[.slice none 0 0, .slice none 0 0] := b4_4
  refine W.ef0 rfl rfl ?_
  refine Ef.storeAll sz33 (by rfl) rfl rfl b4_4 (by rfl) (by simp [Value.oneCell']) ?_
  intro w4_5 b4_5 h4_5
  have b4_5 : Blk w4_5 g4_4 33 #[.slice An4_0 ((digs ((lowF 0 1).n)).length) cn4_0, .slice Ad4_0 ((digs ((lowF 0 1).d)).length) cd4_0] := b4_5
  have L10 := L9.then_ h4_5 (fun q hq => by cases hq; exact Nat.le_trans L8.size hg4_4)
  refine W.run 1 rfl (W.nx (WC.sr (W.run 1 rfl ?_)))
  have f11 := ((b3_10.le (h4_0.trans h4_4)).ch h4_5 (fun h => (show g4_4 ≠ g3_9 from by have := b3_10.lt; have := h4_0.size; omega) (Option.some.inj h)))
  refine W.r (.loadAll ag33 (by rfl) rfl f11) ?_
  refine W.run 1 rfl ?_
  refine W.a (.buildP [.slice A n c, .slice An3_4 ((digs ((oddsR s.1 way a x).1.n)).length) cn3_4, .slice Ad3_4 ((digs ((oddsR s.1 way a x).1.d)).length) cd3_4, .int .i64 ((oddsR s.1 way a x).2.1), .bool true] pl78 z78 rfl rfl) ?_
  refine W.ef rfl rfl rfl ?_
  refine Ef.allocA z78 ?_
  intro g5_4 w5_4 hg5_4 b5_4 h5_4
  have L12 := L10.trans h5_4
  have b5_4 : Blk w5_4 g5_4 78 #[.slice none 0 0, .slice none 0 0, .slice none 0 0, .int .i64 (0), .bool false] := b5_4
  refine W.ef0 rfl rfl ?_
  refine Ef.storeAll sz78 (by rfl) rfl rfl b5_4 (by rfl) (by simp [Value.oneCell']) ?_
  intro w5_5 b5_5 h5_5
  have b5_5 : Blk w5_5 g5_4 78 #[.slice A n c, .slice An3_4 ((digs ((oddsR s.1 way a x).1.n)).length) cn3_4, .slice Ad3_4 ((digs ((oddsR s.1 way a x).1.d)).length) cd3_4, .int .i64 ((oddsR s.1 way a x).2.1), .bool true] := b5_5
  have L13 := L12.then_ h5_5 (fun q hq => by cases hq; exact Nat.le_trans L10.size hg5_4)
  refine W.nx (WC.seq (WC.sr (W.run 2 rfl ?_)))
  by_cases q6_2 : ((oddsR s.1 way a x).2.2) = 0
  ·refine W.dt q6_2 rfl rfl ?_
   have f14 := ((f11.le h5_4).ch h5_5 (fun h => (show g5_4 ≠ g3_9 from by have := f11.lt; omega) (Option.some.inj h)))
   refine W.g (.loadAll ag33 (by rfl) rfl f14) ?_
   have f15 := ((b4_5.le h5_4).ch h5_5 (fun h => (show g5_4 ≠ g4_4 from by have := b4_5.lt; omega) (Option.some.inj h)))
   refine W.g (.loadAll ag33 (by rfl) rfl f15) ?_
   have f16 := ((((((on3_4.le h3_9).ch h3_10 (fun q hq => by cases hq; exact (fun he => by have := (on3_4.row he).2; omega))).le (h4_0.trans h4_4)).ch h4_5 (fun q hq => by cases hq; exact (fun he => by have := (on3_4.row he).2; have := h3_9.size; have := h3_10.size; have := h4_0.size; omega))).le h5_4).ch h5_5 (fun q hq => by cases hq; exact (fun he => by have := (on3_4.row he).2; have := h3_9.size; have := h3_10.size; have := h4_0.size; have := h4_4.size; have := h4_5.size; omega)))
   have f17 := ((((((od3_4.le h3_9).ch h3_10 (fun q hq => by cases hq; exact (fun he => by have := (od3_4.row he).2; omega))).le (h4_0.trans h4_4)).ch h4_5 (fun q hq => by cases hq; exact (fun he => by have := (od3_4.row he).2; have := h3_9.size; have := h3_10.size; have := h4_0.size; omega))).le h5_4).ch h5_5 (fun q hq => by cases hq; exact (fun he => by have := (od3_4.row he).2; have := h3_9.size; have := h3_10.size; have := h4_0.size; have := h4_4.size; have := h4_5.size; omega)))
   have f18 := ((((on4_0.le h4_4).ch h4_5 (fun q hq => by cases hq; exact (fun he => by have := (on4_0.row he).2; omega))).le h5_4).ch h5_5 (fun q hq => by cases hq; exact (fun he => by have := (on4_0.row he).2; have := h4_4.size; have := h4_5.size; omega)))
   have f19 := ((((od4_0.le h4_4).ch h4_5 (fun q hq => by cases hq; exact (fun he => by have := (od4_0.row he).2; omega))).le h5_4).ch h5_5 (fun q hq => by cases hq; exact (fun he => by have := (od4_0.row he).2; have := h4_4.size; have := h4_5.size; omega)))
   refine W.efg rfl rfl rfl (rfl) rfl rfl ?_
   refine Ef.call go82 rfl rfl (rfcmp_ok w5_5 f16.vec f17.vec (by omega) (by omega) f16.cap.1 f17.cap.1 f18.vec f19.vec (by omega) (by omega) f18.cap.1 f19.cap.1) ?_
   rintro _ w6_5 ⟨rfl, h6_5⟩
   refine ⟨_, rfl, ?_⟩
   have L20 := L13.trans h6_5
   refine W.run 2 rfl ?_
   by_cases q6_8 : 0 < (cmpF (takF (⟨((oddsR s.1 way a x).1.n), ((oddsR s.1 way a x).1.d)⟩ : Fr)) (takF (⟨((lowF 0 1).n), ((lowF 0 1).d)⟩ : Fr)))
   ·refine W.dt q6_8 rfl rfl ?_
    have f21 := (b5_5.le h6_5)
    refine W.g (.loadAll ag78 (by rfl) rfl f21) ?_
    have f22 := (((((((b0_0.le (h0_1.trans (h3_4.trans h3_9))).ch h3_10 (fun h => (show g3_9 ≠ g0_0 from by have := b0_0.lt; have := h0_1.size; have := h3_4.size; omega) (Option.some.inj h))).le (h4_0.trans h4_4)).ch h4_5 (fun h => (show g4_4 ≠ g0_0 from by have := b0_0.lt; have := h0_1.size; have := h3_4.size; have := h3_9.size; have := h3_10.size; have := h4_0.size; omega) (Option.some.inj h))).le h5_4).ch h5_5 (fun h => (show g5_4 ≠ g0_0 from by have := b0_0.lt; have := h0_1.size; have := h3_4.size; have := h3_9.size; have := h3_10.size; have := h4_0.size; have := h4_4.size; have := h4_5.size; omega) (Option.some.inj h))).le h6_5)
    refine W.g (.loadAll ag78 (by rfl) rfl f22) ?_
    have f23 := (((((((f3.le (h3_4.trans h3_9)).ch h3_10 (fun q hq => by cases hq; exact (fun he => by have := (f3.row he).2; have := h3_4.size; omega))).le (h4_0.trans h4_4)).ch h4_5 (fun q hq => by cases hq; exact (fun he => by have := (f3.row he).2; have := h3_4.size; have := h3_9.size; have := h3_10.size; have := h4_0.size; omega))).le h5_4).ch h5_5 (fun q hq => by cases hq; exact (fun he => by have := (f3.row he).2; have := h3_4.size; have := h3_9.size; have := h3_10.size; have := h4_0.size; have := h4_4.size; have := h4_5.size; omega))).le h6_5)
    have f24 := (f16.le h6_5)
    have f25 := (f17.le h6_5)
    have f26 := (((((((hBw.le (h0_0.trans (h0_1.trans (h3_4.trans h3_9)))).ch h3_10 (fun q hq => by cases hq; exact (fun he => by have := (hBw.row he).2; have := h0_0.size; have := h0_1.size; have := h3_4.size; omega))).le (h4_0.trans h4_4)).ch h4_5 (fun q hq => by cases hq; exact (fun he => by have := (hBw.row he).2; have := h0_0.size; have := h0_1.size; have := h3_4.size; have := h3_9.size; have := h3_10.size; have := h4_0.size; omega))).le h5_4).ch h5_5 (fun q hq => by cases hq; exact (fun he => by have := (hBw.row he).2; have := h0_0.size; have := h0_1.size; have := h3_4.size; have := h3_9.size; have := h3_10.size; have := h4_0.size; have := h4_4.size; have := h4_5.size; omega))).le h6_5)
    have f27 := (((((((hBn.le (h0_0.trans (h0_1.trans (h3_4.trans h3_9)))).ch h3_10 (fun q hq => by cases hq; exact (fun he => by have := (hBn.row he).2; have := h0_0.size; have := h0_1.size; have := h3_4.size; omega))).le (h4_0.trans h4_4)).ch h4_5 (fun q hq => by cases hq; exact (fun he => by have := (hBn.row he).2; have := h0_0.size; have := h0_1.size; have := h3_4.size; have := h3_9.size; have := h3_10.size; have := h4_0.size; omega))).le h5_4).ch h5_5 (fun q hq => by cases hq; exact (fun he => by have := (hBn.row he).2; have := h0_0.size; have := h0_1.size; have := h3_4.size; have := h3_9.size; have := h3_10.size; have := h4_0.size; have := h4_4.size; have := h4_5.size; omega))).le h6_5)
    have f28 := (((((((hBd.le (h0_0.trans (h0_1.trans (h3_4.trans h3_9)))).ch h3_10 (fun q hq => by cases hq; exact (fun he => by have := (hBd.row he).2; have := h0_0.size; have := h0_1.size; have := h3_4.size; omega))).le (h4_0.trans h4_4)).ch h4_5 (fun q hq => by cases hq; exact (fun he => by have := (hBd.row he).2; have := h0_0.size; have := h0_1.size; have := h3_4.size; have := h3_9.size; have := h3_10.size; have := h4_0.size; omega))).le h5_4).ch h5_5 (fun q hq => by cases hq; exact (fun he => by have := (hBd.row he).2; have := h0_0.size; have := h0_1.size; have := h3_4.size; have := h3_9.size; have := h3_10.size; have := h4_0.size; have := h4_4.size; have := h4_5.size; omega))).le h6_5)
    refine W.efg rfl rfl rfl (rfl) rfl rfl ?_
    refine Ef.call go83 rfl rfl (r38better_ok (z1 := true) (z2 := b.2) w6_5 f23.vec f24.vec f25.vec (by omega) (by omega) (by omega) f24.cap.1 f25.cap.1 f26.vec f27.vec f28.vec (by omega) (by omega) (by omega) f27.cap.1 f28.cap.1) ?_
    rintro _ w6_11 ⟨rfl, h6_11⟩
    refine ⟨_, rfl, ?_⟩
    have L29 := L20.trans h6_11
    refine W.run 1 rfl (W.nx ?_)
    by_cases c1 : (betQ (⟨way, ⟨((oddsR s.1 way a x).1.n), ((oddsR s.1 way a x).1.d)⟩, (oddsR s.1 way a x).2.1⟩ : Fnd) ((⟨b.1.way, ⟨b.1.odds.n, b.1.odds.d⟩, b.1.sent⟩ : Fnd), b.2)) = true
    ·refine WC.condY rfl (c1) ?_
     refine WC.sr ?_
     have f30 := (f21.le h6_11)
     refine W.r (.loadAll ag78 (by rfl) rfl f30) ?_
     have f31 := (((((((b0_1.le (h3_4.trans h3_9)).ch h3_10 (fun h => (show g3_9 ≠ g0_1 from by have := b0_1.lt; have := h3_4.size; omega) (Option.some.inj h))).le (h4_0.trans h4_4)).ch h4_5 (fun h => (show g4_4 ≠ g0_1 from by have := b0_1.lt; have := h3_4.size; have := h3_9.size; have := h3_10.size; have := h4_0.size; omega) (Option.some.inj h))).le h5_4).ch h5_5 (fun h => (show g5_4 ≠ g0_1 from by have := b0_1.lt; have := h3_4.size; have := h3_9.size; have := h3_10.size; have := h4_0.size; have := h4_4.size; have := h4_5.size; omega) (Option.some.inj h))).le (h6_5.trans h6_11))
     refine W.ef0 rfl rfl ?_
     refine Ef.storeAll sz78 (by rfl) rfl rfl f31 (by rfl) (by simp [Value.oneCell']) ?_
     intro w7_1 b7_1 h7_1
     have b7_1 : Blk w7_1 g0_1 78 #[.slice A n c, .slice An3_4 ((digs ((oddsR s.1 way a x).1.n)).length) cn3_4, .slice Ad3_4 ((digs ((oddsR s.1 way a x).1.d)).length) cd3_4, .int .i64 ((oddsR s.1 way a x).2.1), .bool true] := b7_1
     have L32 := L29.then_ h7_1 (fun q hq => by cases hq; exact Nat.le_trans L1.size hg0_1)
     refine W.nx (WC.ret (E.thenR (E.thenR ?_)))
     have f33 := ((f23.le h6_11).ch h7_1 (fun q hq => by cases hq; exact (fun he => by have := (hW.row he).2; have := h0_0.size; omega)))
     have f34 := ((f24.le h6_11).ch h7_1 (fun q hq => by cases hq; exact (fun he => by have := (f24.row he).1; have := b0_1.lt; omega)))
     have f35 := ((f25.le h6_11).ch h7_1 (fun q hq => by cases hq; exact (fun he => by have := (f25.row he).1; have := b0_1.lt; omega)))
     refine E.retG1 rfl (resA rfl b7_1 ag78 (by rfl)) ?_
     have hlk : rlook g s.1 to a x (k + 1) way b = (fo s.1 a x way, true) := rlook_end (by rw [← hwl] at c0; exact c0 : endT way = to) (⟨by assumption, (cmp_pos (oddsR_ok (by assumption))).1 (by assumption), by assumption⟩ : takeQ s.1 a x way b)
     rw [hlk]
     subst hwl
     exact ⟨⟨_, _, _, _, _, _, rfl, f33, (f34.mono (Nat.le_trans hbs0 L2.size)), (f35.mono (Nat.le_trans hbs0 L2.size)), (show way.length ≤ 8 by omega), hol.1, hol.2⟩, L32⟩
    refine WC.condN rfl ((Bool.eq_false_iff.2 c1)) ?_
    refine WC.sn (WC.sr ?_)
    have f36 := (f22.le h6_11)
    refine W.r (.loadAll ag78 (by rfl) rfl f36) ?_
    have f37 := (((((((b0_1.le (h3_4.trans h3_9)).ch h3_10 (fun h => (show g3_9 ≠ g0_1 from by have := b0_1.lt; have := h3_4.size; omega) (Option.some.inj h))).le (h4_0.trans h4_4)).ch h4_5 (fun h => (show g4_4 ≠ g0_1 from by have := b0_1.lt; have := h3_4.size; have := h3_9.size; have := h3_10.size; have := h4_0.size; omega) (Option.some.inj h))).le h5_4).ch h5_5 (fun h => (show g5_4 ≠ g0_1 from by have := b0_1.lt; have := h3_4.size; have := h3_9.size; have := h3_10.size; have := h4_0.size; have := h4_4.size; have := h4_5.size; omega) (Option.some.inj h))).le (h6_5.trans h6_11))
    refine W.ef0 rfl rfl ?_
    refine Ef.storeAll sz78 (by rfl) rfl rfl f37 (by rfl) (by simp [Value.oneCell']) ?_
    intro w8_1 b8_1 h8_1
    have b8_1 : Blk w8_1 g0_1 78 #[.slice Aw b.1.way.length cw, .slice An ((digs b.1.odds.n).length) cn, .slice Ad ((digs b.1.odds.d).length) cd, .int .i64 (b.1.sent), .bool (b.2)] := b8_1
    have L38 := L29.then_ h8_1 (fun q hq => by cases hq; exact Nat.le_trans L1.size hg0_1)
    refine W.nx (WC.ret (E.thenR ?_))
    have f39 := ((f26.le h6_11).ch h8_1 (fun q hq => by cases hq; exact (fun he => by have := (hBw.row he).2; have := h0_0.size; omega)))
    have f40 := ((f27.le h6_11).ch h8_1 (fun q hq => by cases hq; exact (fun he => by have := (hBn.row he).2; have := h0_0.size; omega)))
    have f41 := ((f28.le h6_11).ch h8_1 (fun q hq => by cases hq; exact (fun he => by have := (hBd.row he).2; have := h0_0.size; omega)))
    refine E.retG1 rfl (resA rfl b8_1 ag78 (by rfl)) ?_
    have hlk : rlook g s.1 to a x (k + 1) way b = b := rlook_old (by rw [← hwl] at c0; exact c0 : endT way = to) (fun ht => by first | exact absurd ht.1 (by assumption) | exact absurd ((cmp_pos (oddsR_ok ht.1)).2 ht.2.1) (by assumption) | exact absurd ht.2.2 (by assumption))
    rw [hlk]
    exact ⟨⟨_, _, _, _, _, _, rfl, f39, f40, f41, hBl⟩, L38⟩
   refine W.df q6_8 rfl rfl (W.run 4 rfl (W.nx (WC.condF rfl (WC.sn (WC.sr ?_)))))
   have f42 := (((((((b0_0.le (h0_1.trans (h3_4.trans h3_9))).ch h3_10 (fun h => (show g3_9 ≠ g0_0 from by have := b0_0.lt; have := h0_1.size; have := h3_4.size; omega) (Option.some.inj h))).le (h4_0.trans h4_4)).ch h4_5 (fun h => (show g4_4 ≠ g0_0 from by have := b0_0.lt; have := h0_1.size; have := h3_4.size; have := h3_9.size; have := h3_10.size; have := h4_0.size; omega) (Option.some.inj h))).le h5_4).ch h5_5 (fun h => (show g5_4 ≠ g0_0 from by have := b0_0.lt; have := h0_1.size; have := h3_4.size; have := h3_9.size; have := h3_10.size; have := h4_0.size; have := h4_4.size; have := h4_5.size; omega) (Option.some.inj h))).le h6_5)
   refine W.r (.loadAll ag78 (by rfl) rfl f42) ?_
   have f43 := (((((((b0_1.le (h3_4.trans h3_9)).ch h3_10 (fun h => (show g3_9 ≠ g0_1 from by have := b0_1.lt; have := h3_4.size; omega) (Option.some.inj h))).le (h4_0.trans h4_4)).ch h4_5 (fun h => (show g4_4 ≠ g0_1 from by have := b0_1.lt; have := h3_4.size; have := h3_9.size; have := h3_10.size; have := h4_0.size; omega) (Option.some.inj h))).le h5_4).ch h5_5 (fun h => (show g5_4 ≠ g0_1 from by have := b0_1.lt; have := h3_4.size; have := h3_9.size; have := h3_10.size; have := h4_0.size; have := h4_4.size; have := h4_5.size; omega) (Option.some.inj h))).le h6_5)
   refine W.ef0 rfl rfl ?_
   refine Ef.storeAll sz78 (by rfl) rfl rfl f43 (by rfl) (by simp [Value.oneCell']) ?_
   intro w8_1_1 b8_1_1 h8_1_1
   have b8_1_1 : Blk w8_1_1 g0_1 78 #[.slice Aw b.1.way.length cw, .slice An ((digs b.1.odds.n).length) cn, .slice Ad ((digs b.1.odds.d).length) cd, .int .i64 (b.1.sent), .bool (b.2)] := b8_1_1
   have L44 := L20.then_ h8_1_1 (fun q hq => by cases hq; exact Nat.le_trans L1.size hg0_1)
   refine W.nx (WC.ret (E.thenR ?_))
   have f45 := ((((((((hBw.le (h0_0.trans (h0_1.trans (h3_4.trans h3_9)))).ch h3_10 (fun q hq => by cases hq; exact (fun he => by have := (hBw.row he).2; have := h0_0.size; have := h0_1.size; have := h3_4.size; omega))).le (h4_0.trans h4_4)).ch h4_5 (fun q hq => by cases hq; exact (fun he => by have := (hBw.row he).2; have := h0_0.size; have := h0_1.size; have := h3_4.size; have := h3_9.size; have := h3_10.size; have := h4_0.size; omega))).le h5_4).ch h5_5 (fun q hq => by cases hq; exact (fun he => by have := (hBw.row he).2; have := h0_0.size; have := h0_1.size; have := h3_4.size; have := h3_9.size; have := h3_10.size; have := h4_0.size; have := h4_4.size; have := h4_5.size; omega))).le h6_5).ch h8_1_1 (fun q hq => by cases hq; exact (fun he => by have := (hBw.row he).2; have := h0_0.size; omega)))
   have f46 := ((((((((hBn.le (h0_0.trans (h0_1.trans (h3_4.trans h3_9)))).ch h3_10 (fun q hq => by cases hq; exact (fun he => by have := (hBn.row he).2; have := h0_0.size; have := h0_1.size; have := h3_4.size; omega))).le (h4_0.trans h4_4)).ch h4_5 (fun q hq => by cases hq; exact (fun he => by have := (hBn.row he).2; have := h0_0.size; have := h0_1.size; have := h3_4.size; have := h3_9.size; have := h3_10.size; have := h4_0.size; omega))).le h5_4).ch h5_5 (fun q hq => by cases hq; exact (fun he => by have := (hBn.row he).2; have := h0_0.size; have := h0_1.size; have := h3_4.size; have := h3_9.size; have := h3_10.size; have := h4_0.size; have := h4_4.size; have := h4_5.size; omega))).le h6_5).ch h8_1_1 (fun q hq => by cases hq; exact (fun he => by have := (hBn.row he).2; have := h0_0.size; omega)))
   have f47 := ((((((((hBd.le (h0_0.trans (h0_1.trans (h3_4.trans h3_9)))).ch h3_10 (fun q hq => by cases hq; exact (fun he => by have := (hBd.row he).2; have := h0_0.size; have := h0_1.size; have := h3_4.size; omega))).le (h4_0.trans h4_4)).ch h4_5 (fun q hq => by cases hq; exact (fun he => by have := (hBd.row he).2; have := h0_0.size; have := h0_1.size; have := h3_4.size; have := h3_9.size; have := h3_10.size; have := h4_0.size; omega))).le h5_4).ch h5_5 (fun q hq => by cases hq; exact (fun he => by have := (hBd.row he).2; have := h0_0.size; have := h0_1.size; have := h3_4.size; have := h3_9.size; have := h3_10.size; have := h4_0.size; have := h4_4.size; have := h4_5.size; omega))).le h6_5).ch h8_1_1 (fun q hq => by cases hq; exact (fun he => by have := (hBd.row he).2; have := h0_0.size; omega)))
   refine E.retG1 rfl (resA rfl b8_1_1 ag78 (by rfl)) ?_
   have hlk : rlook g s.1 to a x (k + 1) way b = b := rlook_old (by rw [← hwl] at c0; exact c0 : endT way = to) (fun ht => by first | exact absurd ht.1 (by assumption) | exact absurd ((cmp_pos (oddsR_ok ht.1)).2 ht.2.1) (by assumption) | exact absurd ht.2.2 (by assumption))
   rw [hlk]
   exact ⟨⟨_, _, _, _, _, _, rfl, f45, f46, f47, hBl⟩, L44⟩
  refine W.df q6_2 rfl rfl (W.run 10 rfl (W.nx (WC.condF rfl (WC.sn (WC.sr ?_)))))
  have f48 := ((((((b0_0.le (h0_1.trans (h3_4.trans h3_9))).ch h3_10 (fun h => (show g3_9 ≠ g0_0 from by have := b0_0.lt; have := h0_1.size; have := h3_4.size; omega) (Option.some.inj h))).le (h4_0.trans h4_4)).ch h4_5 (fun h => (show g4_4 ≠ g0_0 from by have := b0_0.lt; have := h0_1.size; have := h3_4.size; have := h3_9.size; have := h3_10.size; have := h4_0.size; omega) (Option.some.inj h))).le h5_4).ch h5_5 (fun h => (show g5_4 ≠ g0_0 from by have := b0_0.lt; have := h0_1.size; have := h3_4.size; have := h3_9.size; have := h3_10.size; have := h4_0.size; have := h4_4.size; have := h4_5.size; omega) (Option.some.inj h)))
  refine W.r (.loadAll ag78 (by rfl) rfl f48) ?_
  have f49 := ((((((b0_1.le (h3_4.trans h3_9)).ch h3_10 (fun h => (show g3_9 ≠ g0_1 from by have := b0_1.lt; have := h3_4.size; omega) (Option.some.inj h))).le (h4_0.trans h4_4)).ch h4_5 (fun h => (show g4_4 ≠ g0_1 from by have := b0_1.lt; have := h3_4.size; have := h3_9.size; have := h3_10.size; have := h4_0.size; omega) (Option.some.inj h))).le h5_4).ch h5_5 (fun h => (show g5_4 ≠ g0_1 from by have := b0_1.lt; have := h3_4.size; have := h3_9.size; have := h3_10.size; have := h4_0.size; have := h4_4.size; have := h4_5.size; omega) (Option.some.inj h)))
  refine W.ef0 rfl rfl ?_
  refine Ef.storeAll sz78 (by rfl) rfl rfl f49 (by rfl) (by simp [Value.oneCell']) ?_
  intro w8_1_2 b8_1_2 h8_1_2
  have b8_1_2 : Blk w8_1_2 g0_1 78 #[.slice Aw b.1.way.length cw, .slice An ((digs b.1.odds.n).length) cn, .slice Ad ((digs b.1.odds.d).length) cd, .int .i64 (b.1.sent), .bool (b.2)] := b8_1_2
  have L50 := L13.then_ h8_1_2 (fun q hq => by cases hq; exact Nat.le_trans L1.size hg0_1)
  refine W.nx (WC.ret (E.thenR ?_))
  have f51 := (((((((hBw.le (h0_0.trans (h0_1.trans (h3_4.trans h3_9)))).ch h3_10 (fun q hq => by cases hq; exact (fun he => by have := (hBw.row he).2; have := h0_0.size; have := h0_1.size; have := h3_4.size; omega))).le (h4_0.trans h4_4)).ch h4_5 (fun q hq => by cases hq; exact (fun he => by have := (hBw.row he).2; have := h0_0.size; have := h0_1.size; have := h3_4.size; have := h3_9.size; have := h3_10.size; have := h4_0.size; omega))).le h5_4).ch h5_5 (fun q hq => by cases hq; exact (fun he => by have := (hBw.row he).2; have := h0_0.size; have := h0_1.size; have := h3_4.size; have := h3_9.size; have := h3_10.size; have := h4_0.size; have := h4_4.size; have := h4_5.size; omega))).ch h8_1_2 (fun q hq => by cases hq; exact (fun he => by have := (hBw.row he).2; have := h0_0.size; omega)))
  have f52 := (((((((hBn.le (h0_0.trans (h0_1.trans (h3_4.trans h3_9)))).ch h3_10 (fun q hq => by cases hq; exact (fun he => by have := (hBn.row he).2; have := h0_0.size; have := h0_1.size; have := h3_4.size; omega))).le (h4_0.trans h4_4)).ch h4_5 (fun q hq => by cases hq; exact (fun he => by have := (hBn.row he).2; have := h0_0.size; have := h0_1.size; have := h3_4.size; have := h3_9.size; have := h3_10.size; have := h4_0.size; omega))).le h5_4).ch h5_5 (fun q hq => by cases hq; exact (fun he => by have := (hBn.row he).2; have := h0_0.size; have := h0_1.size; have := h3_4.size; have := h3_9.size; have := h3_10.size; have := h4_0.size; have := h4_4.size; have := h4_5.size; omega))).ch h8_1_2 (fun q hq => by cases hq; exact (fun he => by have := (hBn.row he).2; have := h0_0.size; omega)))
  have f53 := (((((((hBd.le (h0_0.trans (h0_1.trans (h3_4.trans h3_9)))).ch h3_10 (fun q hq => by cases hq; exact (fun he => by have := (hBd.row he).2; have := h0_0.size; have := h0_1.size; have := h3_4.size; omega))).le (h4_0.trans h4_4)).ch h4_5 (fun q hq => by cases hq; exact (fun he => by have := (hBd.row he).2; have := h0_0.size; have := h0_1.size; have := h3_4.size; have := h3_9.size; have := h3_10.size; have := h4_0.size; omega))).le h5_4).ch h5_5 (fun q hq => by cases hq; exact (fun he => by have := (hBd.row he).2; have := h0_0.size; have := h0_1.size; have := h3_4.size; have := h3_9.size; have := h3_10.size; have := h4_0.size; have := h4_4.size; have := h4_5.size; omega))).ch h8_1_2 (fun q hq => by cases hq; exact (fun he => by have := (hBd.row he).2; have := h0_0.size; omega)))
  refine E.retG1 rfl (resA rfl b8_1_2 ag78 (by rfl)) ?_
  have hlk : rlook g s.1 to a x (k + 1) way b = b := rlook_old (by rw [← hwl] at c0; exact c0 : endT way = to) (fun ht => by first | exact absurd ht.1 (by assumption) | exact absurd ((cmp_pos (oddsR_ok ht.1)).2 ht.2.1) (by assumption) | exact absurd ht.2.2 (by assumption))
  rw [hlk]
  exact ⟨⟨_, _, _, _, _, _, rfl, f51, f52, f53, hBl⟩, L50⟩
 refine WC.condN rfl (decide_eq_false c0) ?_
 refine WC.sn (WC.seq (WC.sr (W.run 1 rfl (W.nx (WC.block ?_)))))
 have f54 := (b0_0.le h0_1)
 have f55 := (hBw.le (h0_0.trans h0_1))
 have f56 := (hBn.le (h0_0.trans h0_1))
 have f57 := (hBd.le (h0_0.trans h0_1))
 have f58 := (hP.le (h0_0.trans h0_1))
 refine WC.loop (ι := Nat × FB × ((Option Addr)) × Nat × ((Option Addr)) × Nat × ((Option Addr)) × Nat) (fun ⟨j, bk, Ax, cx, Ay, cy, Az, cz⟩ => [(0, .slice Ag ng cg), (1, .pointer (some ⟨gp, 0, none⟩)), (2, .slice A n c), (3, .int .i64 (to)), (4, .int .i64 (a)), (5, .int .i64 (x)), (13, .pointer (some ⟨g0_0, 0, none⟩)), (14, .pointer (some ⟨g0_1, 0, none⟩)), (22, .int .i64 (((j : Nat) : Int)))]) (fun ⟨j, bk, Ax, cx, Ay, cy, Az, cz⟩ wl0 => (j ≤ g.length) ∧ (bk = (g.take j).foldl (rstep (rlook g s.1 to a x k) way) b) ∧ (bk.1.way.length ≤ 8 ∧ (digs bk.1.odds.n).length ≤ 100 ∧ (digs bk.1.odds.d).length ≤ 100) ∧ Le w wl0 ∧ w0_1.heap.size ≤ wl0.heap.size ∧ RMPool wl0 base gp F s ∧ OVec wl0 bs 51 edgeV 9 A n c way ∧ Blk wl0 g0_0 78 #[.slice Ax bk.1.way.length cx, .slice Ay ((digs bk.1.odds.n).length) cy, .slice Az ((digs bk.1.odds.d).length) cz, .int .i64 (bk.1.sent), .bool (bk.2)] ∧ OVec wl0 bs 51 edgeV 9 Ax bk.1.way.length cx bk.1.way ∧ OVec wl0 bs 122 dv 1 Ay ((digs bk.1.odds.n).length) cy (digs bk.1.odds.n) ∧ OVec wl0 bs 122 dv 1 Az ((digs bk.1.odds.d).length) cz (digs bk.1.odds.d) ∧ Blk wl0 g0_1 78 #[.slice none 0 0, .slice none 0 0, .slice none 0 0, .int .i64 (0), .bool false]) (fun ⟨j, bk, Ax, cx, Ay, cy, Az, cz⟩ => g.length - j) (0, b, Aw, cw, An, cn, Ad, cd) ?_ ?_ ?_
 ·exact .cons rfl (.cons rfl (.cons rfl (.cons rfl (.cons rfl (.cons rfl (.cons rfl (.cons rfl (.cons rfl (.nil _)))))))))
 ·exact ⟨Nat.zero_le _, rfl, hBl, L2, Nat.le_refl _, f58, f3, f54, f55, f56, f57, b0_1⟩
 rintro ⟨j, bk, Ax, cx, Ay, cy, Az, cz⟩ wl0 ⟨hj, hbk, hbl, Ll0, zl0, f0_0, f0_1, f0_2, f0_3, f0_4, f0_5, f0_6⟩
 refine WC.seq (WC.sr (W.run 2 rfl ?_))
 refine W.r (.len Tryz.underlying22 rfl) ?_
 refine W.run 1 rfl (W.nx ?_)
 by_cases c2 : ((j : Nat) : Int) < ((ng : Nat) : Int)
 ·refine WC.condY rfl (decide_eq_true c2) ?_
  refine WC.sn (WC.seq (WC.block (WC.sr (W.ef rfl rfl rfl ?_))))
  refine Ef.buildSlice0 Tryz.underlying22 el51 ?_
  intro g12_0 w12_0 hg12_0 b12_0 h12_0
  have L59 := Ll0.trans h12_0
  have o12_0 : OVec w12_0 wl0.heap.size 51 edgeV 9 (some ⟨g12_0, 0, none⟩) 0 0 [] := OVec.nil _ _ _ _ _ _
  refine W.run 1 rfl ?_
  have f60 := (f0_1.le h12_0)
  refine W.ef rfl rfl rfl ?_
  refine Ef.vcat Tryz.underlying22 el51 Tryz.underlying22 edgeV_row rfl o12_0 rfl f60.vec (by omega) (by unfold maxLen; omega) (by have := h12_0.size; omega) ?_
  intro A12_2 c12_2 w12_2 o12_2 h12_2 at12_2
  have L61 := L59.then_ h12_2 (fun q hq => Nat.le_trans Ll0.size (o12_0.row hq).1)
  have o62 := o12_2.cast (m' := (0 + n)) (ys := way) (rfl) (List.nil_append _)
  refine W.run 1 rfl (W.nx (WC.sr (W.run 3 rfl ?_)))
  refine W.a (.idxS (j) Tryz.underlying22 sz51 rfl rfl (hg.isSome edgeV_row (by omega)) (rfl) (by omega)) ?_
  refine W.r (.vload ag51 rfl (hg.le L61) edgeV_row (getS g noEdge (by omega))) ?_
  refine W.ef rfl rfl rfl ?_
  refine Ef.buildSliceV (len := 1) [_] Tryz.underlying22 el51 rfl (by simp [Value.cells, edgeV_row.len]) rfl (by decide) (by decide) ?_
  intro g13_5 w13_5 hg13_5 b13_5 h13_5
  have L63 := L61.trans h13_5
  have b13_5 : Blk w13_5 g13_5 51 (([g.getD j noEdge]).map edgeV).flatten.toArray := b13_5
  have o13_5 : OVec w13_5 w12_2.heap.size 51 edgeV 9 (some ⟨g13_5, 0, none⟩) 1 1 ([g.getD j noEdge]) := b13_5.ovec hg13_5 edgeV_row rfl rfl (by decide)
  have f64 := (o62.le h13_5)
  refine W.ef rfl rfl rfl ?_
  refine Ef.vpush (a := (g.getD j noEdge)) Tryz.underlying22 el51 Tryz.underlying22 edgeV_row rfl f64 rfl b13_5 (by omega) (by unfold maxLen; omega) (by have := h12_0.size; have := h12_2.size; have := h13_5.size; omega) ?_
  intro A13_6 c13_6 w13_6 o13_6 h13_6 at13_6
  have L65 := L63.then_ h13_6 (fun q hq => Nat.le_trans Ll0.size (f64.row hq).1)
  have o66 := o13_6.cast (m' := ((0 + n) + 1)) (ys := (way ++ [(g.getD j noEdge)])) (rfl) (rfl)
  refine W.run 1 rfl (W.nx (WC.sr (W.run 1 rfl ?_)))
  refine W.cl go84 rfl rfl (r36way_ok w13_6 o66.vec (by omega)) ?_
  rintro _ w14_1 ⟨rfl, h14_1⟩
  have L67 := L65.trans h14_1
  refine W.run 1 rfl (W.nx (WC.sr (W.run 1 rfl (W.nx ?_))))
  by_cases c3 : (wayG (way ++ [(g.getD j noEdge)])) = true
  ·refine WC.condY rfl (c3) ?_
   have hwg := wayG_len (by assumption : wayG (way ++ [(g.getD j noEdge)]) = true)
   rw [List.length_append, List.length_singleton] at hwg
   refine WC.region (W.run 6 rfl ?_)
   have f68 := (((((f0_2.le h12_0).ch h12_2 (fun he => by have := (o12_0.row he).1; have := f0_2.lt; omega)).le h13_5).ch h13_6 (fun he => by have := (f64.row he).1; have := f0_2.lt; omega)).le h14_1)
   refine W.r (.loadAll ag78 (by rfl) rfl f68) ?_
   have f69 := (o66.le h14_1)
   have f70 := (((((f0_3.le h12_0).ch h12_2 ((Apart.symm (fun q h1 h2 => by have := (f0_3.row h1).2; have := (o12_0.row h2).1; omega)))).le h13_5).ch h13_6 ((Apart.symm (fun q h1 h2 => by have := (f0_3.row h1).2; have := (f64.row h2).1; omega)))).le h14_1)
   have f71 := (((((f0_4.le h12_0).ch h12_2 ((Apart.symm (fun q h1 h2 => by have := (f0_4.row h1).2; have := (o12_0.row h2).1; omega)))).le h13_5).ch h13_6 ((Apart.symm (fun q h1 h2 => by have := (f0_4.row h1).2; have := (f64.row h2).1; omega)))).le h14_1)
   have f72 := (((((f0_5.le h12_0).ch h12_2 ((Apart.symm (fun q h1 h2 => by have := (f0_5.row h1).2; have := (o12_0.row h2).1; omega)))).le h13_5).ch h13_6 ((Apart.symm (fun q h1 h2 => by have := (f0_5.row h1).2; have := (f64.row h2).1; omega)))).le h14_1)
   have zb16_7 : FndC w14_1 bs bk _ _ _ _ _ _ := ⟨f70, f71, f72, hbl⟩
   have zi16_7 := ih (way ++ [(g.getD j noEdge)]) bk w14_1 L67 (f69.mono (Nat.le_trans hbs0 Ll0.size)) (by omega) (by omega) zb16_7
   refine W.cl go43 rfl rfl (zi16_7) ?_
   rintro _ w16_7 ⟨⟨Aw16_7, cw16_7, An16_7, cn16_7, Ad16_7, cd16_7, rfl, ow16_7, on16_7, od16_7, hl16_7, hm16_7, hd16_7⟩, h16_7⟩
   have L73 := L67.trans h16_7
   have f74 := (f68.le h16_7)
   refine W.ef0 rfl rfl ?_
   refine Ef.storeAll sz78 (by rfl) rfl rfl f74 (by rfl) (by simp [Value.oneCell']) ?_
   intro w16_8 b16_8 h16_8
   have b16_8 : Blk w16_8 g0_0 78 #[.slice Aw16_7 ((rlook g s.1 to a x k (way ++ [(g.getD j noEdge)]) bk).1.way.length) cw16_7, .slice An16_7 ((digs (rlook g s.1 to a x k (way ++ [(g.getD j noEdge)]) bk).1.odds.n).length) cn16_7, .slice Ad16_7 ((digs (rlook g s.1 to a x k (way ++ [(g.getD j noEdge)]) bk).1.odds.d).length) cd16_7, .int .i64 ((rlook g s.1 to a x k (way ++ [(g.getD j noEdge)]) bk).1.sent), .bool ((rlook g s.1 to a x k (way ++ [(g.getD j noEdge)]) bk).2)] := b16_8
   have L75 := L73.then_ h16_8 (fun q hq => by cases hq; exact Nat.le_trans L0.size hg0_0)
   refine W.nil (E.blkN (E.thenN (WC.region (W.run 1 rfl ?_))))
   refine W.a (.add rfl rfl (by omega)) ?_
   refine W.run 1 rfl (W.nil ?_)
   have f76 := ((((((f0_0.le h12_0).ch h12_2 (fun q hqq hF => by have := (o12_0.row hqq).1; have := f0_0.lt hF;  omega)).le h13_5).ch h13_6 (fun q hqq hF => by have := (f64.row hqq).1; have := f0_0.lt hF;  omega)).le (h14_1.trans h16_7)).ch h16_8 (fun q hqq hF => by cases hqq; have := hP.lt hF;  have := hg0_0; omega))
   have f77 := (((((f60.ch h12_2 ((Apart.symm (fun q h1 h2 => by have := (f0_1.row h1).2; have := (o12_0.row h2).1; omega)))).le h13_5).ch h13_6 ((Apart.symm (fun q h1 h2 => by have := (f0_1.row h1).2; have := (f64.row h2).1; omega)))).le (h14_1.trans h16_7)).ch h16_8 (fun q hq => by cases hq; exact (fun he => by have := (hW.row he).2; omega)))
   have f78 := (ow16_7.ch h16_8 (fun q hq => by cases hq; exact OVec.ne_blk ow16_7 f74 (by decide)))
   have f79 := (on16_7.ch h16_8 (fun q hq => by cases hq; exact OVec.ne_blk on16_7 f74 (by decide)))
   have f80 := (od16_7.ch h16_8 (fun q hq => by cases hq; exact OVec.ne_blk od16_7 f74 (by decide)))
   have f81 := ((((((f0_6.le h12_0).ch h12_2 (fun he => by have := (o12_0.row he).1; have := f0_6.lt; omega)).le h13_5).ch h13_6 (fun he => by have := (f64.row he).1; have := f0_6.lt; omega)).le (h14_1.trans h16_7)).ch h16_8 (fun h => (show g0_0 ≠ g0_1 from by have := b0_0.lt; omega) (Option.some.inj h)))
   refine E.again (j + 1, (rlook g s.1 to a x k (way ++ [(g.getD j noEdge)]) bk), Aw16_7, cw16_7, An16_7, cn16_7, Ad16_7, cd16_7) (.cons rfl (.cons rfl (.cons rfl (.cons rfl (.cons rfl (.cons rfl (.cons rfl (.cons rfl (.cons rfl (.nil _)))))))))) ?_ ?_
   ·exact ⟨by omega, (by rw [rfold_next (z := noEdge) (l := g) (by omega), ← hbk]; exact (if_pos (by assumption)).symm), ⟨hl16_7, hm16_7, hd16_7⟩, L75, by have := zl0; have := h12_0.size; have := h12_2.size; have := h13_5.size; have := h13_6.size; have := h14_1.size; have := h16_7.size; have := h16_8.size; omega, f76, f77, b16_8, f78, f79, f80, f81⟩
   first | omega | (simp only []; omega)
  refine WC.condN rfl ((Bool.eq_false_iff.2 c3)) ?_
  refine WC.skip (E.blkN (E.thenN (WC.region (W.run 1 rfl ?_))))
  refine W.a (.add rfl rfl (by omega)) ?_
  refine W.run 1 rfl (W.nil ?_)
  have f82 := (((((f0_0.le h12_0).ch h12_2 (fun q hqq hF => by have := (o12_0.row hqq).1; have := f0_0.lt hF;  omega)).le h13_5).ch h13_6 (fun q hqq hF => by have := (f64.row hqq).1; have := f0_0.lt hF;  omega)).le h14_1)
  have f83 := ((((f60.ch h12_2 ((Apart.symm (fun q h1 h2 => by have := (f0_1.row h1).2; have := (o12_0.row h2).1; omega)))).le h13_5).ch h13_6 ((Apart.symm (fun q h1 h2 => by have := (f0_1.row h1).2; have := (f64.row h2).1; omega)))).le h14_1)
  have f84 := (((((f0_2.le h12_0).ch h12_2 (fun he => by have := (o12_0.row he).1; have := f0_2.lt; omega)).le h13_5).ch h13_6 (fun he => by have := (f64.row he).1; have := f0_2.lt; omega)).le h14_1)
  have f85 := (((((f0_3.le h12_0).ch h12_2 ((Apart.symm (fun q h1 h2 => by have := (f0_3.row h1).2; have := (o12_0.row h2).1; omega)))).le h13_5).ch h13_6 ((Apart.symm (fun q h1 h2 => by have := (f0_3.row h1).2; have := (f64.row h2).1; omega)))).le h14_1)
  have f86 := (((((f0_4.le h12_0).ch h12_2 ((Apart.symm (fun q h1 h2 => by have := (f0_4.row h1).2; have := (o12_0.row h2).1; omega)))).le h13_5).ch h13_6 ((Apart.symm (fun q h1 h2 => by have := (f0_4.row h1).2; have := (f64.row h2).1; omega)))).le h14_1)
  have f87 := (((((f0_5.le h12_0).ch h12_2 ((Apart.symm (fun q h1 h2 => by have := (f0_5.row h1).2; have := (o12_0.row h2).1; omega)))).le h13_5).ch h13_6 ((Apart.symm (fun q h1 h2 => by have := (f0_5.row h1).2; have := (f64.row h2).1; omega)))).le h14_1)
  have f88 := (((((f0_6.le h12_0).ch h12_2 (fun he => by have := (o12_0.row he).1; have := f0_6.lt; omega)).le h13_5).ch h13_6 (fun he => by have := (f64.row he).1; have := f0_6.lt; omega)).le h14_1)
  refine E.again (j + 1, bk, Ax, cx, Ay, cy, Az, cz) (.cons rfl (.cons rfl (.cons rfl (.cons rfl (.cons rfl (.cons rfl (.cons rfl (.cons rfl (.cons rfl (.nil _)))))))))) ?_ ?_
  ·exact ⟨by omega, (by rw [rfold_next (z := noEdge) (l := g) (by omega), ← hbk]; exact (if_neg (by assumption)).symm), hbl, L67, by have := zl0; have := h12_0.size; have := h12_2.size; have := h13_5.size; have := h13_6.size; have := h14_1.size; omega, f82, f83, f84, f85, f86, f87, f88⟩
  first | omega | (simp only []; omega)
 refine WC.condN rfl (decide_eq_false c2) ?_
 refine WC.exit (E.thenX (E.thenX (E.blkH (E.thenN (WC.sr ?_)))))
 refine W.r (.loadAll ag78 (by rfl) rfl f0_2) ?_
 refine W.ef0 rfl rfl ?_
 refine Ef.storeAll sz78 (by rfl) rfl rfl f0_6 (by rfl) (by simp [Value.oneCell']) ?_
 intro w17_1 b17_1 h17_1
 have b17_1 : Blk w17_1 g0_1 78 #[.slice Ax bk.1.way.length cx, .slice Ay ((digs bk.1.odds.n).length) cy, .slice Az ((digs bk.1.odds.d).length) cz, .int .i64 (bk.1.sent), .bool (bk.2)] := b17_1
 have L89 := Ll0.then_ h17_1 (fun q hq => by cases hq; exact Nat.le_trans L1.size hg0_1)
 refine W.nx (WC.ret ?_)
 have f90 := (f0_3.ch h17_1 (fun q hq => by cases hq; exact OVec.ne_blk f0_3 f0_6 (by decide)))
 have f91 := (f0_4.ch h17_1 (fun q hq => by cases hq; exact OVec.ne_blk f0_4 f0_6 (by decide)))
 have f92 := (f0_5.ch h17_1 (fun q hq => by cases hq; exact OVec.ne_blk f0_5 f0_6 (by decide)))
 refine E.retG1 rfl (resA rfl b17_1 ag78 (by rfl)) ?_
 have hje : j = g.length := (by omega)
 have hlk : rlook g s.1 to a x (k + 1) way b = bk := (by rw [rlook_go (fun h => c0 (by rw [← hwl]; exact h)), hbk, hje, List.take_length])
 rw [hlk]
 exact ⟨⟨_, _, _, _, _, _, rfl, f90, f91, f92, hbl⟩, L89⟩


theorem r38look_ok {bs base gp ng cg : Nat} {F : Nat → Prop} {s : MF × Nat} {Ag : Option Addr} {g : List Gsp.Edge} {to a x : Int} : ∀ (k : Nat) (way : List Gsp.Edge) {A : Option Addr} {n c : Nat} (b : FB) {Aw An Ad : Option Addr} {cw cn cd : Nat} (w : World), RMPool w base gp F s → s.2 ≤ 100000 → Vec w edgeV 9 Ag ng g → ng ≤ 1000000 → bs ≤ w.heap.size → OVec w bs 51 edgeV 9 A n c way → n + k = 9 → 1 ≤ k → 1 ≤ n → FndC w bs b Aw cw An cn Ad cd →
    Calls Tryz.prog 43 #[.slice Ag ng cg, .pointer (some ⟨gp, 0, none⟩), .slice A n c, .int .i64 to, .int .i64 a, .int .i64 x, FndV b Aw cw An cn Ad cd] w fun r w2 => FndAt w2 bs (rlook g s.1 to a x k way b) r ∧ Le w w2
  | 0, _, _, _, _, _, _, _, _, _, _, _, _, _, _, _, _, _, _, _, h, _, _ => absurd h (by decide)
  | k + 1, way, A, n, c, b, Aw, An, Ad, cw, cn, cd, w, hP, hN, hg, hng, hbs, hW, hnk, _, hn1, hB =>
    r38look_step w hP hN hg hng (fun way' A' n' c' b' Aw' An' Ad' cw' cn' cd' w1 hl hW' hn' hk' hB' => r38look_ok k way' b' w1 (hP.le hl) hN (hg.le hl) hng (Nat.le_trans hbs hl.size) hW' hn' hk' (by omega) hB') hbs hW (by omega) hn1 hB

end Go.Proofs.YtmkdeemjkcigkaaGreatDoor

namespace Go.Proofs.YtmkdeemjkcigkaaGreatDoor
open Go Go.Sx Go.Num Go.Gsp Go.Nsp Go.Msp Go.Rtp
set_option maxRecDepth 20000
set_option maxHeartbeats 4000000
theorem rbest_some {g : List Gsp.Edge} {m : MF} {fr to a x : Int} {b : FB} (hm : GoodM m) (hb : badR g fr to a x = false) (hq : b = rbestF g m fr to a x) (h : b.2 = true) : bestR g m fr to a x = (b.1.way, b.1.odds, 0) := by subst hq; rw [rbest_eq hm hb, if_pos h]
theorem rbest_none {g : List Gsp.Edge} {m : MF} {fr to a x : Int} {b : FB} (hm : GoodM m) (hb : badR g fr to a x = false) (hq : b = rbestF g m fr to a x) (h : ¬ b.2 = true) : bestR g m fr to a x = ([], ⟨0, 0⟩, 19) := by subst hq; rw [rbest_eq hm hb, if_neg h]
theorem dig_nil {w : World} {bs e : Nat} (h : OVec w bs e dv 1 none 0 0 []) : OVec w bs e dv 1 none (digs 0).length 0 (digs 0) := by rw [digs_zero]; exact h
theorem noF_blk {w : World} {gb : Nat} (h : Blk w gb 78 #[.slice none 0 0, .slice none 0 0, .slice none 0 0, .int .i64 0, .bool false]) : Blk w gb 78 #[.slice none (((noFnd, false) : FB).1.way.length) 0, .slice none ((digs ((noFnd, false) : FB).1.odds.n).length) 0, .slice none ((digs ((noFnd, false) : FB).1.odds.d).length) 0, .int .i64 (((noFnd, false) : FB).1.sent), .bool (((noFnd, false) : FB).2)] := by
  show Blk w gb 78 #[.slice none 0 0, .slice none (digs 0).length 0, .slice none (digs 0).length 0, .int .i64 0, .bool false]
  rw [digs_zero]; exact h
theorem badR_iff {g : List Gsp.Edge} {fr to a x : Int} : badR g fr to a x = true ↔ (rightG g = false ∨ fr < 0 ∨ 11 < fr ∨ to < 0 ∨ 11 < to ∨ fr = to ∨ a < 1 ∨ 1125899906842624 < a ∨ x < 1 ∨ 1048576 < x) := by
  unfold badR
  simp [inB]
  cases rightG g <;> simp <;> omega
theorem badR_of {g : List Gsp.Edge} {fr to a x : Int} (h : rightG g = true) (h1 : ¬ (fr < 0 ∨ 11 < fr ∨ to < 0 ∨ 11 < to ∨ fr = to ∨ a < 1 ∨ 1125899906842624 < a ∨ x < 1 ∨ 1048576 < x)) : badR g fr to a x = false := by
  cases hb : badR g fr to a x
  · rfl
  · rcases badR_iff.1 hb with q | q
    · rw [h] at q; cases q
    · exact absurd q h1
theorem bad_right {g : List Gsp.Edge} {fr to a x : Int} (h : ¬ rightG g = true) : badR g fr to a x = true := badR_iff.2 (.inl (by cases hh : rightG g; rfl; exact absurd hh h))
theorem r38best_ok {base gp : Nat} {F : Nat → Prop} {s : MF × Nat} (fr to a x : Int) {A : Option Addr} {n c : Nat} {g : List Gsp.Edge} (w : World) (hP : RMPool w base gp F s) (hV : Vec w edgeV 9 A n g) (hn : n ≤ 1000000) (hN : s.2 ≤ 100000) : Calls Tryz.prog 12 #[.slice A n c, .pointer (some ⟨gp, 0, none⟩), .int .i64 (fr), .int .i64 (to), .int .i64 (a), .int .i64 (x)] w fun r w' => ∃ Aw cw An cn Ad cd, r = .returned (.tuple #[.slice Aw (bestR g s.1 fr to a x).1.length cw, .agg #[.slice An (digs (bestR g s.1 fr to a x).2.1.n).length cn, .slice Ad (digs (bestR g s.1 fr to a x).2.1.d).length cd], .int .i64 (bestR g s.1 fr to a x).2.2]) ∧ OVec w' w.heap.size 51 edgeV 9 Aw (bestR g s.1 fr to a x).1.length cw (bestR g s.1 fr to a x).1 ∧ OVec w' w.heap.size 122 dv 1 An (digs (bestR g s.1 fr to a x).2.1.n).length cn (digs (bestR g s.1 fr to a x).2.1.n) ∧ OVec w' w.heap.size 122 dv 1 Ad (digs (bestR g s.1 fr to a x).2.1.d).length cd (digs (bestR g s.1 fr to a x).2.1.d) ∧ Le w w' := by
 have hl := hV.1
 have hgm := hP.good
 refine enter Tryz.func12 rfl rfl ?_
 have L0 := Le.refl w
 refine WC.sr (W.run 1 rfl (W.ef rfl rfl rfl ?_))
 refine Ef.allocA z33 ?_
 intro g0_1 w0_1 hg0_1 b0_1 h0_1
 have L1 := L0.trans h0_1
 have b0_1 : Blk w0_1 g0_1 33 #[.slice none 0 0, .slice none 0 0] := b0_1
 refine W.run 1 rfl (W.nx (WC.sr (W.run 1 rfl ?_)))
 refine W.cl go42 rfl rfl (r36right_ok w0_1 (hV.le L1) (by omega)) ?_
 rintro _ w1_1 ⟨rfl, h1_1⟩
 have L2 := L1.trans h1_1
 refine W.run 1 rfl (W.nx (WC.seq (WC.sr (W.run 2 rfl ?_))))
 by_cases q2_2 : (rightG g) = true
 ·refine W.a (.dec (.move rfl) (congrArg not (q2_2))) ?_
  refine W.run 3 rfl ?_
  by_cases q2_6 : fr < 0
  ·refine W.dt q2_6 rfl rfl (W.run 32 rfl (W.nx (WC.condT rfl (WC.sr ?_))))
   refine W.a (.buildP [.slice none 0 0, .slice none 0 0] pl33 z33 rfl rfl) ?_
   refine W.run 1 rfl ?_
   have f3 := (b0_1.le h1_1)
   refine W.ef0 rfl rfl ?_
   refine Ef.storeAll sz33 (by rfl) rfl rfl f3 (by rfl) (by simp [Value.oneCell']) ?_
   intro w3_2 b3_2 h3_2
   have b3_2 : Blk w3_2 g0_1 33 #[.slice none 0 0, .slice none 0 0] := b3_2
   have L4 := L2.then_ h3_2 (fun q hq => by cases hq; exact Nat.le_trans L0.size hg0_1)
   refine W.run 1 rfl (W.nx (WC.ret (E.thenR ?_)))
   refine E.retG3 rfl rfl (resA rfl b3_2 ag33 (by rfl)) rfl ?_
   rw [bestR_bad (by first | exact bad_right (by assumption) | exact badR_iff.2 (.inr (by omega)))]
   exact ⟨none, 0, none, 0, none, 0, by simp only [digs_zero]; rfl, OVec.nil _ _ _ _ _ _, by simp only [digs_zero]; exact OVec.nil _ _ _ _ _ _, by simp only [digs_zero]; exact OVec.nil _ _ _ _ _ _, L4⟩
  refine W.df q2_6 rfl rfl (W.run 3 rfl ?_)
  by_cases q2_10 : 11 < fr
  ·refine W.dt q2_10 rfl rfl (W.run 28 rfl (W.nx (WC.condT rfl (WC.sr ?_))))
   refine W.a (.buildP [.slice none 0 0, .slice none 0 0] pl33 z33 rfl rfl) ?_
   refine W.run 1 rfl ?_
   have f5 := (b0_1.le h1_1)
   refine W.ef0 rfl rfl ?_
   refine Ef.storeAll sz33 (by rfl) rfl rfl f5 (by rfl) (by simp [Value.oneCell']) ?_
   intro w3_2_1 b3_2_1 h3_2_1
   have b3_2_1 : Blk w3_2_1 g0_1 33 #[.slice none 0 0, .slice none 0 0] := b3_2_1
   have L6 := L2.then_ h3_2_1 (fun q hq => by cases hq; exact Nat.le_trans L0.size hg0_1)
   refine W.run 1 rfl (W.nx (WC.ret (E.thenR ?_)))
   refine E.retG3 rfl rfl (resA rfl b3_2_1 ag33 (by rfl)) rfl ?_
   rw [bestR_bad (by first | exact bad_right (by assumption) | exact badR_iff.2 (.inr (by omega)))]
   exact ⟨none, 0, none, 0, none, 0, by simp only [digs_zero]; rfl, OVec.nil _ _ _ _ _ _, by simp only [digs_zero]; exact OVec.nil _ _ _ _ _ _, by simp only [digs_zero]; exact OVec.nil _ _ _ _ _ _, L6⟩
  refine W.df q2_10 rfl rfl (W.run 3 rfl ?_)
  by_cases q2_14 : to < 0
  ·refine W.dt q2_14 rfl rfl (W.run 24 rfl (W.nx (WC.condT rfl (WC.sr ?_))))
   refine W.a (.buildP [.slice none 0 0, .slice none 0 0] pl33 z33 rfl rfl) ?_
   refine W.run 1 rfl ?_
   have f7 := (b0_1.le h1_1)
   refine W.ef0 rfl rfl ?_
   refine Ef.storeAll sz33 (by rfl) rfl rfl f7 (by rfl) (by simp [Value.oneCell']) ?_
   intro w3_2_2 b3_2_2 h3_2_2
   have b3_2_2 : Blk w3_2_2 g0_1 33 #[.slice none 0 0, .slice none 0 0] := b3_2_2
   have L8 := L2.then_ h3_2_2 (fun q hq => by cases hq; exact Nat.le_trans L0.size hg0_1)
   refine W.run 1 rfl (W.nx (WC.ret (E.thenR ?_)))
   refine E.retG3 rfl rfl (resA rfl b3_2_2 ag33 (by rfl)) rfl ?_
   rw [bestR_bad (by first | exact bad_right (by assumption) | exact badR_iff.2 (.inr (by omega)))]
   exact ⟨none, 0, none, 0, none, 0, by simp only [digs_zero]; rfl, OVec.nil _ _ _ _ _ _, by simp only [digs_zero]; exact OVec.nil _ _ _ _ _ _, by simp only [digs_zero]; exact OVec.nil _ _ _ _ _ _, L8⟩
  refine W.df q2_14 rfl rfl (W.run 3 rfl ?_)
  by_cases q2_18 : 11 < to
  ·refine W.dt q2_18 rfl rfl (W.run 20 rfl (W.nx (WC.condT rfl (WC.sr ?_))))
   refine W.a (.buildP [.slice none 0 0, .slice none 0 0] pl33 z33 rfl rfl) ?_
   refine W.run 1 rfl ?_
   have f9 := (b0_1.le h1_1)
   refine W.ef0 rfl rfl ?_
   refine Ef.storeAll sz33 (by rfl) rfl rfl f9 (by rfl) (by simp [Value.oneCell']) ?_
   intro w3_2_3 b3_2_3 h3_2_3
   have b3_2_3 : Blk w3_2_3 g0_1 33 #[.slice none 0 0, .slice none 0 0] := b3_2_3
   have L10 := L2.then_ h3_2_3 (fun q hq => by cases hq; exact Nat.le_trans L0.size hg0_1)
   refine W.run 1 rfl (W.nx (WC.ret (E.thenR ?_)))
   refine E.retG3 rfl rfl (resA rfl b3_2_3 ag33 (by rfl)) rfl ?_
   rw [bestR_bad (by first | exact bad_right (by assumption) | exact badR_iff.2 (.inr (by omega)))]
   exact ⟨none, 0, none, 0, none, 0, by simp only [digs_zero]; rfl, OVec.nil _ _ _ _ _ _, by simp only [digs_zero]; exact OVec.nil _ _ _ _ _ _, by simp only [digs_zero]; exact OVec.nil _ _ _ _ _ _, L10⟩
  refine W.df q2_18 rfl rfl (W.run 4 rfl ?_)
  by_cases q2_23 : fr = to
  ·refine W.dt q2_23 rfl rfl (W.run 15 rfl (W.nx (WC.condT rfl (WC.sr ?_))))
   refine W.a (.buildP [.slice none 0 0, .slice none 0 0] pl33 z33 rfl rfl) ?_
   refine W.run 1 rfl ?_
   have f11 := (b0_1.le h1_1)
   refine W.ef0 rfl rfl ?_
   refine Ef.storeAll sz33 (by rfl) rfl rfl f11 (by rfl) (by simp [Value.oneCell']) ?_
   intro w3_2_4 b3_2_4 h3_2_4
   have b3_2_4 : Blk w3_2_4 g0_1 33 #[.slice none 0 0, .slice none 0 0] := b3_2_4
   have L12 := L2.then_ h3_2_4 (fun q hq => by cases hq; exact Nat.le_trans L0.size hg0_1)
   refine W.run 1 rfl (W.nx (WC.ret (E.thenR ?_)))
   refine E.retG3 rfl rfl (resA rfl b3_2_4 ag33 (by rfl)) rfl ?_
   rw [bestR_bad (by first | exact bad_right (by assumption) | exact badR_iff.2 (.inr (by omega)))]
   exact ⟨none, 0, none, 0, none, 0, by simp only [digs_zero]; rfl, OVec.nil _ _ _ _ _ _, by simp only [digs_zero]; exact OVec.nil _ _ _ _ _ _, by simp only [digs_zero]; exact OVec.nil _ _ _ _ _ _, L12⟩
  refine W.df q2_23 rfl rfl (W.run 3 rfl ?_)
  by_cases q2_27 : a < 1
  ·refine W.dt q2_27 rfl rfl (W.run 11 rfl (W.nx (WC.condT rfl (WC.sr ?_))))
   refine W.a (.buildP [.slice none 0 0, .slice none 0 0] pl33 z33 rfl rfl) ?_
   refine W.run 1 rfl ?_
   have f13 := (b0_1.le h1_1)
   refine W.ef0 rfl rfl ?_
   refine Ef.storeAll sz33 (by rfl) rfl rfl f13 (by rfl) (by simp [Value.oneCell']) ?_
   intro w3_2_5 b3_2_5 h3_2_5
   have b3_2_5 : Blk w3_2_5 g0_1 33 #[.slice none 0 0, .slice none 0 0] := b3_2_5
   have L14 := L2.then_ h3_2_5 (fun q hq => by cases hq; exact Nat.le_trans L0.size hg0_1)
   refine W.run 1 rfl (W.nx (WC.ret (E.thenR ?_)))
   refine E.retG3 rfl rfl (resA rfl b3_2_5 ag33 (by rfl)) rfl ?_
   rw [bestR_bad (by first | exact bad_right (by assumption) | exact badR_iff.2 (.inr (by omega)))]
   exact ⟨none, 0, none, 0, none, 0, by simp only [digs_zero]; rfl, OVec.nil _ _ _ _ _ _, by simp only [digs_zero]; exact OVec.nil _ _ _ _ _ _, by simp only [digs_zero]; exact OVec.nil _ _ _ _ _ _, L14⟩
  refine W.df q2_27 rfl rfl (W.run 3 rfl ?_)
  by_cases q2_31 : 1125899906842624 < a
  ·refine W.dt q2_31 rfl rfl (W.run 7 rfl (W.nx (WC.condT rfl (WC.sr ?_))))
   refine W.a (.buildP [.slice none 0 0, .slice none 0 0] pl33 z33 rfl rfl) ?_
   refine W.run 1 rfl ?_
   have f15 := (b0_1.le h1_1)
   refine W.ef0 rfl rfl ?_
   refine Ef.storeAll sz33 (by rfl) rfl rfl f15 (by rfl) (by simp [Value.oneCell']) ?_
   intro w3_2_6 b3_2_6 h3_2_6
   have b3_2_6 : Blk w3_2_6 g0_1 33 #[.slice none 0 0, .slice none 0 0] := b3_2_6
   have L16 := L2.then_ h3_2_6 (fun q hq => by cases hq; exact Nat.le_trans L0.size hg0_1)
   refine W.run 1 rfl (W.nx (WC.ret (E.thenR ?_)))
   refine E.retG3 rfl rfl (resA rfl b3_2_6 ag33 (by rfl)) rfl ?_
   rw [bestR_bad (by first | exact bad_right (by assumption) | exact badR_iff.2 (.inr (by omega)))]
   exact ⟨none, 0, none, 0, none, 0, by simp only [digs_zero]; rfl, OVec.nil _ _ _ _ _ _, by simp only [digs_zero]; exact OVec.nil _ _ _ _ _ _, by simp only [digs_zero]; exact OVec.nil _ _ _ _ _ _, L16⟩
  refine W.df q2_31 rfl rfl (W.run 3 rfl ?_)
  by_cases q2_35 : x < 1
  ·refine W.dt q2_35 rfl rfl (W.run 3 rfl (W.nx (WC.condT rfl (WC.sr ?_))))
   refine W.a (.buildP [.slice none 0 0, .slice none 0 0] pl33 z33 rfl rfl) ?_
   refine W.run 1 rfl ?_
   have f17 := (b0_1.le h1_1)
   refine W.ef0 rfl rfl ?_
   refine Ef.storeAll sz33 (by rfl) rfl rfl f17 (by rfl) (by simp [Value.oneCell']) ?_
   intro w3_2_7 b3_2_7 h3_2_7
   have b3_2_7 : Blk w3_2_7 g0_1 33 #[.slice none 0 0, .slice none 0 0] := b3_2_7
   have L18 := L2.then_ h3_2_7 (fun q hq => by cases hq; exact Nat.le_trans L0.size hg0_1)
   refine W.run 1 rfl (W.nx (WC.ret (E.thenR ?_)))
   refine E.retG3 rfl rfl (resA rfl b3_2_7 ag33 (by rfl)) rfl ?_
   rw [bestR_bad (by first | exact bad_right (by assumption) | exact badR_iff.2 (.inr (by omega)))]
   exact ⟨none, 0, none, 0, none, 0, by simp only [digs_zero]; rfl, OVec.nil _ _ _ _ _ _, by simp only [digs_zero]; exact OVec.nil _ _ _ _ _ _, by simp only [digs_zero]; exact OVec.nil _ _ _ _ _ _, L18⟩
  refine W.df q2_35 rfl rfl (W.run 3 rfl (W.nx ?_))
  by_cases c0 : 1048576 < x
  ·refine WC.condY rfl (decide_eq_true c0) ?_
   refine WC.sr ?_
   refine W.a (.buildP [.slice none 0 0, .slice none 0 0] pl33 z33 rfl rfl) ?_
   refine W.run 1 rfl ?_
   have f19 := (b0_1.le h1_1)
   refine W.ef0 rfl rfl ?_
   refine Ef.storeAll sz33 (by rfl) rfl rfl f19 (by rfl) (by simp [Value.oneCell']) ?_
   intro w3_2_8 b3_2_8 h3_2_8
   have b3_2_8 : Blk w3_2_8 g0_1 33 #[.slice none 0 0, .slice none 0 0] := b3_2_8
   have L20 := L2.then_ h3_2_8 (fun q hq => by cases hq; exact Nat.le_trans L0.size hg0_1)
   refine W.run 1 rfl (W.nx (WC.ret (E.thenR ?_)))
   refine E.retG3 rfl rfl (resA rfl b3_2_8 ag33 (by rfl)) rfl ?_
   rw [bestR_bad (by first | exact bad_right (by assumption) | exact badR_iff.2 (.inr (by omega)))]
   exact ⟨none, 0, none, 0, none, 0, by simp only [digs_zero]; rfl, OVec.nil _ _ _ _ _ _, by simp only [digs_zero]; exact OVec.nil _ _ _ _ _ _, by simp only [digs_zero]; exact OVec.nil _ _ _ _ _ _, L20⟩
  refine WC.condN rfl (decide_eq_false c0) ?_
  have hbad : badR g fr to a x = false := badR_of (by assumption) (by omega)
  have hft := (bad_T hbad).2.2.2.1
  refine WC.sn (WC.sr (W.ef rfl rfl rfl ?_))
  refine Ef.allocA z78 ?_
  intro g4_0 w4_0 hg4_0 b4_0 h4_0
  have L21 := L2.trans h4_0
  have b4_0 : Blk w4_0 g4_0 78 #[.slice none 0 0, .slice none 0 0, .slice none 0 0, .int .i64 (0), .bool false] := b4_0
  refine W.nx (WC.seq (WC.sr (W.run 1 rfl (W.nx (WC.block ?_)))))
  have f22 := (hP.le (h0_1.trans (h1_1.trans h4_0)))
  have f23 := (b0_1.le (h1_1.trans h4_0))
  refine WC.loop (ι := Nat × FB × ((Option Addr)) × Nat × ((Option Addr)) × Nat × ((Option Addr)) × Nat) (fun ⟨j, bk, Ax, cx, Ay, cy, Az, cz⟩ => [(0, .slice A n c), (1, .pointer (some ⟨gp, 0, none⟩)), (2, .int .i64 (fr)), (3, .int .i64 (to)), (4, .int .i64 (a)), (5, .int .i64 (x)), (13, .pointer (some ⟨g0_1, 0, none⟩)), (16, .pointer (some ⟨g4_0, 0, none⟩)), (17, .int .i64 (((j : Nat) : Int)))]) (fun ⟨j, bk, Ax, cx, Ay, cy, Az, cz⟩ wl0 => (j ≤ g.length) ∧ (bk = (g.take j).foldl (rfirst (rlook g s.1 to a x 8) fr) (noFnd, false)) ∧ (bk.1.way.length ≤ 8 ∧ (digs bk.1.odds.n).length ≤ 100 ∧ (digs bk.1.odds.d).length ≤ 100) ∧ Le w wl0 ∧ w4_0.heap.size ≤ wl0.heap.size ∧ RMPool wl0 base gp F s ∧ Blk wl0 g0_1 33 #[.slice none 0 0, .slice none 0 0] ∧ Blk wl0 g4_0 78 #[.slice Ax bk.1.way.length cx, .slice Ay ((digs bk.1.odds.n).length) cy, .slice Az ((digs bk.1.odds.d).length) cz, .int .i64 (bk.1.sent), .bool (bk.2)] ∧ OVec wl0 w.heap.size 51 edgeV 9 Ax bk.1.way.length cx bk.1.way ∧ OVec wl0 w.heap.size 122 dv 1 Ay ((digs bk.1.odds.n).length) cy (digs bk.1.odds.n) ∧ OVec wl0 w.heap.size 122 dv 1 Az ((digs bk.1.odds.d).length) cz (digs bk.1.odds.d)) (fun ⟨j, bk, Ax, cx, Ay, cy, Az, cz⟩ => g.length - j) (0, (noFnd, false), none, 0, none, 0, none, 0) ?_ ?_ ?_
  ·exact .cons rfl (.cons rfl (.cons rfl (.cons rfl (.cons rfl (.cons rfl (.cons rfl (.cons rfl (.cons rfl (.nil _)))))))))
  ·exact ⟨Nat.zero_le _, rfl, (by simp only [noFnd, digs_zero]; decide), L21, Nat.le_refl _, f22, f23, (noF_blk b4_0), (OVec.nil w4_0 w.heap.size 51 edgeV 9 none), (dig_nil (OVec.nil w4_0 w.heap.size 122 dv 1 none)), (dig_nil (OVec.nil w4_0 w.heap.size 122 dv 1 none))⟩
  rintro ⟨j, bk, Ax, cx, Ay, cy, Az, cz⟩ wl0 ⟨hj, hbk, hbl, Ll0, zl0, f0_0, f0_1, f0_2, f0_3, f0_4, f0_5⟩
  have lb0_5 : w.heap.size ≤ wl0.heap.size := by have := h0_1.size; have := h1_1.size; have := h4_0.size; omega
  have lb0_6 : w.heap.size ≤ wl0.heap.size := by have := h0_1.size; have := h1_1.size; have := h4_0.size; omega
  have lb0_7 : w.heap.size ≤ wl0.heap.size := by have := h0_1.size; have := h1_1.size; have := h4_0.size; omega
  refine WC.seq (WC.sr (W.run 2 rfl ?_))
  refine W.r (.len Tryz.underlying22 rfl) ?_
  refine W.run 1 rfl (W.nx ?_)
  by_cases c1 : ((j : Nat) : Int) < ((n : Nat) : Int)
  ·refine WC.condY rfl (decide_eq_true c1) ?_
   refine WC.sn (WC.seq (WC.block (WC.sr (W.run 2 rfl ?_))))
   refine W.a (.idxS (j) Tryz.underlying22 sz51 rfl rfl (hV.isSome edgeV_row (by omega)) (rfl) (by omega)) ?_
   refine W.a (.vfield fa51_0 (hV.isSome edgeV_row (by omega)) rfl) ?_
   refine W.r (.vcell (j := j) (o := 0) (v := .int .i64 ((g.getD j noEdge).f)) na3 rfl (hV.le Ll0) edgeV_row (getS g noEdge (by omega)) rfl) ?_
   refine W.run 2 rfl (W.nx ?_)
   by_cases c2 : ((g.getD j noEdge).f) = fr
   ·refine WC.condY rfl (decide_eq_true c2) ?_
    refine WC.draw [0, 1, 2, 3, 4, 5, 7, 8, 9, 10, 6, 11, 12] mixed (by kernel_rfl) ?_
    intro w9 d9
    have L24 := Ll0.trans d9
    refine G.run 4 rfl ?_
    refine G.a rfl (.idxS (j) Tryz.underlying22 sz51 rfl rfl (hV.isSome edgeV_row (by omega)) (rfl) (by omega)) ?_
    refine G.r rfl (.vload ag51 rfl (hV.le L24) edgeV_row (getS g noEdge (by omega))) ?_
    refine G.run 3 rfl ?_
    have f25 := (f0_2.le d9)
    refine G.r rfl (.loadAll ag78 (by rfl) rfl f25) ?_
    refine G.ef rfl rfl rfl rfl rfl ?_
    refine Ef.buildSliceV (len := 1) [_] Tryz.underlying22 el51 rfl (by simp [Value.cells, edgeV_row.len]) rfl (by decide) (by decide) ?_
    intro g9_6 w9_6 hg9_6 b9_6 h9_6
    refine ⟨fun _ => h9_6, ?_⟩
    have L26 := L24.trans h9_6
    have b9_6 : Blk w9_6 g9_6 51 (([g.getD j noEdge]).map edgeV).flatten.toArray := b9_6
    have o9_6 : OVec w9_6 w9.heap.size 51 edgeV 9 (some ⟨g9_6, 0, none⟩) 1 1 ([g.getD j noEdge]) := b9_6.ovec hg9_6 edgeV_row rfl rfl (by decide)
    have f27 := (f0_3.le (d9.trans h9_6))
    have f28 := (f0_4.le (d9.trans h9_6))
    have f29 := (f0_5.le (d9.trans h9_6))
    have zb9_11 : FndC w9_6 w.heap.size bk _ _ _ _ _ _ := ⟨f27, f28, f29, hbl⟩
    have f30 := (f0_0.le (d9.trans h9_6))
    have zi9_11 := r38look_ok (cg := c) (to := to) (a := a) (x := x) 8 ([g.getD j noEdge]) bk w9_6 f30 hN (hV.le L26) (by omega) L26.size (o9_6.mono L24.size) (by first | rfl | simp | omega) (by decide) (by first | decide | simp | omega) zb9_11
    refine G.ef rfl rfl rfl rfl rfl ?_
    refine Ef.call go43 rfl rfl (zi9_11) ?_
    rintro _ w9_11 ⟨⟨Aw9_11, cw9_11, An9_11, cn9_11, Ad9_11, cd9_11, rfl, ow9_11, on9_11, od9_11, hl9_11, hm9_11, hd9_11⟩, h9_11⟩
    refine ⟨_, rfl, ?_⟩
    refine ⟨fun _ => h9_11, ?_⟩
    have L31 := L26.trans h9_11
    have f32 := (f25.le (h9_6.trans h9_11))
    refine G.ef0 rfl rfl rfl rfl ?_
    refine Ef.storeAll sz78 (by rfl) rfl rfl f32 (by rfl) (by simp [Value.oneCell']) ?_
    intro w9_12 b9_12 h9_12
    refine ⟨fun h => absurd h (ne_true_of_eq_false (by kernel_rfl)), ?_⟩
    have b9_12 : Blk w9_12 g4_0 78 #[.slice Aw9_11 ((rlook g s.1 to a x 8 ([g.getD j noEdge]) bk).1.way.length) cw9_11, .slice An9_11 ((digs (rlook g s.1 to a x 8 ([g.getD j noEdge]) bk).1.odds.n).length) cn9_11, .slice Ad9_11 ((digs (rlook g s.1 to a x 8 ([g.getD j noEdge]) bk).1.odds.d).length) cd9_11, .int .i64 ((rlook g s.1 to a x 8 ([g.getD j noEdge]) bk).1.sent), .bool ((rlook g s.1 to a x 8 ([g.getD j noEdge]) bk).2)] := b9_12
    have L33 := L31.then_ h9_12 (fun q hq => by cases hq; exact Nat.le_trans L2.size hg4_0)
    refine G.nil (E.blkN (E.thenN (WC.region (W.run 1 rfl ?_))))
    refine W.a (.add rfl rfl (by omega)) ?_
    refine W.run 1 rfl (W.nil ?_)
    have f34 := ((f30.le h9_11).ch h9_12 (fun q hqq hF => by cases hqq; have := hP.lt hF; have := h0_1.size; have := h1_1.size; have := hg4_0; omega))
    have f35 := ((f0_1.le (d9.trans (h9_6.trans h9_11))).ch h9_12 (fun h => (show g4_0 ≠ g0_1 from by have := b0_1.lt; have := h1_1.size; omega) (Option.some.inj h)))
    have f36 := (ow9_11.ch h9_12 (fun q hq => by cases hq; exact OVec.ne_blk ow9_11 f32 (by decide)))
    have f37 := (on9_11.ch h9_12 (fun q hq => by cases hq; exact OVec.ne_blk on9_11 f32 (by decide)))
    have f38 := (od9_11.ch h9_12 (fun q hq => by cases hq; exact OVec.ne_blk od9_11 f32 (by decide)))
    refine E.again (j + 1, (rlook g s.1 to a x 8 ([g.getD j noEdge]) bk), Aw9_11, cw9_11, An9_11, cn9_11, Ad9_11, cd9_11) (.cons rfl (.cons rfl (.cons rfl (.cons rfl (.cons rfl (.cons rfl (.cons rfl (.cons rfl (.cons rfl (.nil _)))))))))) ?_ ?_
    ·exact ⟨by omega, (by rw [rfold_next (z := noEdge) (l := g) (by omega), ← hbk]; exact (if_pos (by assumption)).symm), ⟨hl9_11, hm9_11, hd9_11⟩, L33, by have := zl0; have := d9.size; have := h9_6.size; have := h9_11.size; have := h9_12.size; omega, f34, f35, b9_12, (f36.mono (by omega)), (f37.mono (by omega)), (f38.mono (by omega))⟩
    first | omega | (simp only []; omega)
   refine WC.condN rfl (decide_eq_false c2) ?_
   refine WC.skip (E.blkN (E.thenN (WC.region (W.run 1 rfl ?_))))
   refine W.a (.add rfl rfl (by omega)) ?_
   refine W.run 1 rfl (W.nil ?_)
   refine E.again (j + 1, bk, Ax, cx, Ay, cy, Az, cz) (.cons rfl (.cons rfl (.cons rfl (.cons rfl (.cons rfl (.cons rfl (.cons rfl (.cons rfl (.cons rfl (.nil _)))))))))) ?_ ?_
   ·exact ⟨by omega, (by rw [rfold_next (z := noEdge) (l := g) (by omega), ← hbk]; exact (if_neg (by assumption)).symm), hbl, Ll0, by have := zl0; omega, f0_0, f0_1, f0_2, f0_3, f0_4, f0_5⟩
   first | omega | (simp only []; omega)
  refine WC.condN rfl (decide_eq_false c1) ?_
  refine WC.exit (E.thenX (E.thenX (E.blkH (E.thenN (WC.seq (WC.sr ?_))))))
  refine W.a (.field0 fa78_3 rfl) ?_
  refine W.r (.loadB (v := .bool (bk.2)) na4 rfl f0_2 rfl) ?_
  refine W.run 1 rfl (W.nx ?_)
  by_cases c3 : bk.2 = true
  ·refine WC.condN rfl (congrArg not (c3)) ?_
   refine WC.sn (WC.seq ?_)
   refine WC.draw [0, 1, 2, 3, 4, 5, 6] mixed (by kernel_rfl) ?_
   intro w12 d12
   have L39 := Ll0.trans d12
   refine G.a rfl (.field0 fa78_0 rfl) ?_
   have f40 := (f0_2.le d12)
   refine G.r rfl (.loadB (v := .slice Ax bk.1.way.length cx) na22 rfl f40 rfl) ?_
   refine G.a rfl (.field0 fa78_1 rfl) ?_
   refine G.r rfl (.bpart [.slice Ay ((digs bk.1.odds.n).length) cy, .slice Az ((digs bk.1.odds.d).length) cz] ag33 rfl (by decide) rfl f40 rfl) ?_
   refine G.run 1 rfl ?_
   have f41 := (f0_1.le d12)
   refine G.ef0 rfl rfl rfl rfl ?_
   refine Ef.storeAll sz33 (by rfl) rfl rfl f41 (by rfl) (by simp [Value.oneCell']) ?_
   intro w12_5 b12_5 h12_5
   refine ⟨fun h => absurd h (ne_true_of_eq_false (by kernel_rfl)), ?_⟩
   have b12_5 : Blk w12_5 g0_1 33 #[.slice Ay ((digs bk.1.odds.n).length) cy, .slice Az ((digs bk.1.odds.d).length) cz] := b12_5
   have L42 := L39.then_ h12_5 (fun q hq => by cases hq; exact Nat.le_trans L0.size hg0_1)
   refine G.run 1 rfl (G.nil (E.thenN (WC.ret ?_)))
   have f43 := ((f0_3.le d12).ch h12_5 (fun q hq => by cases hq; exact OVec.ne_blk (f0_3.le d12) f41 (by decide)))
   have f44 := ((f0_4.le d12).ch h12_5 (fun q hq => by cases hq; exact OVec.ne_blk (f0_4.le d12) f41 (by decide)))
   have f45 := ((f0_5.le d12).ch h12_5 (fun q hq => by cases hq; exact OVec.ne_blk (f0_5.le d12) f41 (by decide)))
   refine E.retG3 rfl rfl (resA rfl b12_5 ag33 (by rfl)) rfl ?_
   have hje : j = g.length := (by omega)
   have hbF : bk = rbestF g s.1 fr to a x := (by rw [hbk, hje, List.take_length]; rfl)
   rw [rbest_some hgm hbad hbF (by assumption)]
   exact ⟨_, _, _, _, _, _, rfl, (f43.mono L0.size), (f44.mono L0.size), (f45.mono L0.size), L42⟩
  refine WC.condY rfl (congrArg not ((Bool.eq_false_iff.2 c3))) ?_
  refine WC.sr ?_
  refine W.a (.buildP [.slice none 0 0, .slice none 0 0] pl33 z33 rfl rfl) ?_
  refine W.run 1 rfl ?_
  refine W.ef0 rfl rfl ?_
  refine Ef.storeAll sz33 (by rfl) rfl rfl f0_1 (by rfl) (by simp [Value.oneCell']) ?_
  intro w11_2 b11_2 h11_2
  have b11_2 : Blk w11_2 g0_1 33 #[.slice none 0 0, .slice none 0 0] := b11_2
  have L46 := Ll0.then_ h11_2 (fun q hq => by cases hq; exact Nat.le_trans L0.size hg0_1)
  refine W.run 1 rfl (W.nx (WC.ret (E.thenR ?_)))
  refine E.retG3 rfl rfl (resA rfl b11_2 ag33 (by rfl)) rfl ?_
  have hje : j = g.length := (by omega)
  have hbF : bk = rbestF g s.1 fr to a x := (by rw [hbk, hje, List.take_length]; rfl)
  rw [rbest_none hgm hbad hbF (by assumption)]
  exact ⟨none, 0, none, 0, none, 0, by simp only [digs_zero]; rfl, OVec.nil _ _ _ _ _ _, by simp only [digs_zero]; exact OVec.nil _ _ _ _ _ _, by simp only [digs_zero]; exact OVec.nil _ _ _ _ _ _, L46⟩
 refine W.a (.dec (.move rfl) (congrArg not ((Bool.eq_false_iff.2 q2_2)))) ?_
 refine W.run 36 rfl (W.nx (WC.condT rfl (WC.sr ?_)))
 refine W.a (.buildP [.slice none 0 0, .slice none 0 0] pl33 z33 rfl rfl) ?_
 refine W.run 1 rfl ?_
 have f47 := (b0_1.le h1_1)
 refine W.ef0 rfl rfl ?_
 refine Ef.storeAll sz33 (by rfl) rfl rfl f47 (by rfl) (by simp [Value.oneCell']) ?_
 intro w3_2_9 b3_2_9 h3_2_9
 have b3_2_9 : Blk w3_2_9 g0_1 33 #[.slice none 0 0, .slice none 0 0] := b3_2_9
 have L48 := L2.then_ h3_2_9 (fun q hq => by cases hq; exact Nat.le_trans L0.size hg0_1)
 refine W.run 1 rfl (W.nx (WC.ret (E.thenR ?_)))
 refine E.retG3 rfl rfl (resA rfl b3_2_9 ag33 (by rfl)) rfl ?_
 rw [bestR_bad (by first | exact bad_right (by assumption) | exact badR_iff.2 (.inr (by omega)))]
 exact ⟨none, 0, none, 0, none, 0, by simp only [digs_zero]; rfl, OVec.nil _ _ _ _ _ _, by simp only [digs_zero]; exact OVec.nil _ _ _ _ _ _, by simp only [digs_zero]; exact OVec.nil _ _ _ _ _ _, L48⟩

theorem r38note_ok {base gp : Nat} {F : Nat → Prop} {s : MF × Nat} (a x failed : Int) {A : Option Addr} {n c : Nat} {xs : List Gsp.Edge} (w : World) (hP : RMPool w base gp F s) (hV : Vec w edgeV 9 A n xs) (hn : n ≤ 1000000) (hVa : ∀ q, blkOf A = some q → 0 < n → q < w.heap.size → ¬ F q) (hN : s.2 ≤ 99000) : Calls Tryz.prog 19 #[.pointer (some ⟨gp, 0, none⟩), .slice A n c, .int .i64 (a), .int .i64 (x), .int .i64 (failed)] w fun r w' => r = .returned (.int .i64 (noteR s.1 xs a x failed).2) ∧ ∃ F' N', N' ≤ s.2 + 8 ∧ RMPool w' base gp F' ((noteR s.1 xs a x failed).1, N') ∧ GrownM w F F' ∧ ChP w w' F := by
 have hl := hV.1
 refine enter Tryz.func19 rfl rfl ?_
 have L0 := ChP.refl w (F)
 refine WC.sr (W.run 1 rfl (W.nx (WC.sr (W.run 3 rfl ?_))))
 refine W.cl go47 rfl rfl (rcost_ok a x w (hV.chP L0 hVa) (by omega)) ?_
 rintro _ w1_3 ⟨Aa1_3, ca1_3, Ab1_3, cb1_3, rfl, oa1_3, ob1_3, h1_3⟩
 have L1 := L0.le h1_3
 refine W.run 7 rfl (W.nx (WC.seq (WC.sr (W.run 2 rfl (W.nx ?_)))))
 by_cases c0 : ((costG xs a x).2.2) ≠ 0
 ·refine WC.condY rfl (decide_eq_true c0) ?_
  refine WC.sr (W.run 2 rfl (W.nx (WC.ret (E.thenR ?_))))
  have f2 := (hP.le h1_3)
  refine E.retG1 rfl rfl ?_
  have hn : (noteR s.1 xs a x failed) = (s.1, (costG xs a x).2.2) := (by unfold noteR; rw [if_pos (by assumption)])
  rw [hn]
  exact ⟨rfl, F, s.2, by omega, f2.up rfl (Nat.le_refl _), fun k hk => .inl hk, L1⟩
 refine WC.condN rfl (decide_eq_false c0) ?_
 have hc0 : (costG xs a x).2.2 = 0 := Decidable.not_not.1 (by assumption)
 have hcl := costG_lens hc0
 have hwl := wayG_len (costG_inv hc0).1
 refine WC.sn (WC.seq (WC.sr (W.run 2 rfl ?_)))
 by_cases q4_2 : failed < (-1)
 ·refine W.dt q4_2 rfl rfl (W.run 5 rfl (W.nx (WC.condT rfl (WC.sr (W.run 1 rfl (W.nx (WC.ret (E.thenR ?_))))))))
  have f3 := (hP.le h1_3)
  refine E.retG1 rfl rfl ?_
  have hn : (noteR s.1 xs a x failed) = (s.1, 1) := (by unfold noteR; rw [if_neg (not_not_intro hc0), if_pos (by omega)])
  rw [hn]
  exact ⟨rfl, F, s.2, by omega, f3.up rfl (Nat.le_refl _), fun k hk => .inl hk, L1⟩
 refine W.df q4_2 rfl rfl (W.run 2 rfl ?_)
 refine W.g (.len Tryz.underlying22 rfl) ?_
 refine W.run 2 rfl (W.nx ?_)
 by_cases c1 : ((n : Nat) : Int) ≤ failed
 ·refine WC.condY rfl (decide_eq_true c1) ?_
  refine WC.sr (W.run 1 rfl (W.nx (WC.ret (E.thenR ?_))))
  have f4 := (hP.le h1_3)
  refine E.retG1 rfl rfl ?_
  have hn : (noteR s.1 xs a x failed) = (s.1, 1) := (by unfold noteR; rw [if_neg (not_not_intro hc0), if_pos (by omega)])
  rw [hn]
  exact ⟨rfl, F, s.2, by omega, f4.up rfl (Nat.le_refl _), fun k hk => .inl hk, L1⟩
 refine WC.condN rfl (decide_eq_false c1) ?_
 refine WC.sn (WC.seq (WC.sr (W.run 1 rfl (W.nx (WC.block ?_)))))
 have f5 := (hP.le h1_3)
 refine WC.loop (ι := Nat × (Nat → Prop)) (fun ⟨k, F1⟩ => [(0, .pointer (some ⟨gp, 0, none⟩)), (1, .slice A n c), (4, .int .i64 (failed)), (11, .slice Aa1_3 ((costG xs a x).1.length) ca1_3), (14, .int .i64 (((k : Nat) : Int)))]) (fun ⟨k, F1⟩ wl0 => (k ≤ n) ∧ (∀ i : Nat, i < k → (i : Int) ≠ failed) ∧ (GrownM w F F1) ∧ ChP w wl0 (F) ∧ w1_3.heap.size ≤ wl0.heap.size ∧ RMPool wl0 base gp F1 (passK s.1 xs (costG xs a x).1 k, s.2 + k) ∧ OVec wl0 w.heap.size 3 iv 1 Aa1_3 ((costG xs a x).1.length) ca1_3 ((costG xs a x).1) ∧ (∀ q, rowOf Aa1_3 ca1_3 = some q → ¬ F1 q)) (fun ⟨k, F1⟩ => n - k) (0, F) ?_ ?_ ?_
 ·exact .cons rfl (.cons rfl (.cons rfl (.cons rfl (.cons rfl (.nil _)))))
 ·exact ⟨Nat.zero_le _, fun i hi => absurd hi (Nat.not_lt_zero _), fun k_ hk_ => .inl hk_, L1, Nat.le_refl _, f5, oa1_3, (fun g hg hF => by have := hP.lt hF;  have := (oa1_3.row hg).1; omega)⟩
 rintro ⟨k, F1⟩ wl0 ⟨hk, hnf0, hG, Ll0, zl0, f0_0, f0_1, po0_0⟩
 have lb0_3 : w.heap.size ≤ wl0.heap.size := by have := h1_3.size; omega
 refine WC.seq (WC.sr (W.run 2 rfl ?_))
 refine W.r (.len Tryz.underlying22 rfl) ?_
 refine W.run 1 rfl (W.nx ?_)
 by_cases c2 : ((k : Nat) : Int) < ((n : Nat) : Int)
 ·refine WC.condY rfl (decide_eq_true c2) ?_
  refine WC.sn (WC.seq (WC.block (WC.seq (WC.sr (W.run 3 rfl (W.nx ?_))))))
  by_cases c3 : ((k : Nat) : Int) = failed
  ·refine WC.condY rfl (decide_eq_true c3) ?_
   refine WC.seq ?_
   refine WC.draw [0, 1, 2, 3, 4, 5, 6, 7, 8, 9] mixed (by kernel_rfl) ?_
   intro w10 d10
   have L6 := Ll0.le d10
   refine G.run 3 rfl ?_
   refine G.a rfl (.idxS (k) Tryz.underlying22 sz51 rfl rfl (hV.isSome edgeV_row (by omega)) (rfl) (by omega)) ?_
   refine G.r rfl (.vload ag51 rfl (hV.chP L6 hVa) edgeV_row (getS xs noEdge (by omega))) ?_
   refine G.run 2 rfl ?_
   refine G.a rfl (.idxS (k) Tryz.underlying24 sz3 rfl rfl (oa1_3.vec.isSome iv_row (by omega)) (rfl) (by omega)) ?_
   have f7 := (f0_1.le d10)
   refine G.r rfl (.vone (v := .int .i64 ((((costG xs a x).1).getD k 0))) na3 rfl f7.vec iv_row (getS ((costG xs a x).1) 0 (by first | omega | (simp only [List.length_cons, List.length_nil]; omega))) rfl) ?_
   have f8 := (f0_0.le d10)
   refine G.ef rfl rfl rfl rfl rfl ?_
   refine Ef.call go34 rfl rfl (rfail_rm (xs.getD k noEdge) (((costG xs a x).1).getD k 0) w10 f8 (by omega)) ?_
   rintro _ w10_9 ⟨rfl, F10_9, p10_9, g10_9, h10_9⟩
   refine ⟨_, rfl, ?_⟩
   refine ⟨fun h => absurd h (ne_true_of_eq_false (by kernel_rfl)), ?_⟩
   have L9 := L6.sub h10_9 (fun i hi hlt => ((hG _ hi).elim id (fun hz => absurd hlt (Nat.not_lt.2 hz))))
   refine G.nil (E.thenN (WC.sr (W.run 1 rfl (W.nx (WC.ret (E.thenR (E.blkR (E.thenR (E.thenR (E.blkR (E.thenR ?_)))))))))))
   refine E.retG1 rfl rfl ?_
   have hk9 : k = failed.toNat := (by omega)
   have hn : (noteR s.1 xs a x failed) = (failM (passK s.1 xs (costG xs a x).1 failed.toNat) (xs.getD failed.toNat noEdge) ((costG xs a x).1.getD failed.toNat 0), 0) := (by unfold noteR; rw [if_neg (not_not_intro hc0), if_neg (by omega), if_neg (by omega)])
   rw [hn]
   subst hk9
   exact ⟨rfl, _, _, (show s.2 + failed.toNat + 1 ≤ s.2 + 8 by omega), p10_9, (fun k_ hk_ => (g10_9 k_ hk_).elim (hG k_) (fun hz => .inr (Nat.le_trans (L6).size hz))), L9⟩
  refine WC.condN rfl (decide_eq_false c3) ?_
  refine WC.sn ?_
  refine WC.draw [0, 1, 2, 3, 4, 5, 6, 7, 8, 9] mixed (by kernel_rfl) ?_
  intro w12 d12
  have L11 := Ll0.le d12
  refine G.run 3 rfl ?_
  refine G.a rfl (.idxS (k) Tryz.underlying22 sz51 rfl rfl (hV.isSome edgeV_row (by omega)) (rfl) (by omega)) ?_
  refine G.r rfl (.vload ag51 rfl (hV.chP L11 hVa) edgeV_row (getS xs noEdge (by omega))) ?_
  refine G.run 2 rfl ?_
  refine G.a rfl (.idxS (k) Tryz.underlying24 sz3 rfl rfl (oa1_3.vec.isSome iv_row (by omega)) (rfl) (by omega)) ?_
  have f12 := (f0_1.le d12)
  refine G.r rfl (.vone (v := .int .i64 ((((costG xs a x).1).getD k 0))) na3 rfl f12.vec iv_row (getS ((costG xs a x).1) 0 (by first | omega | (simp only [List.length_cons, List.length_nil]; omega))) rfl) ?_
  have f13 := (f0_0.le d12)
  refine G.ef rfl rfl rfl rfl rfl ?_
  refine Ef.call go35 rfl rfl (rpass_rm (xs.getD k noEdge) (((costG xs a x).1).getD k 0) w12 f13 (by omega)) ?_
  rintro _ w12_9 ⟨rfl, F12_9, p12_9, g12_9, h12_9⟩
  refine ⟨_, rfl, ?_⟩
  refine ⟨fun h => absurd h (ne_true_of_eq_false (by kernel_rfl)), ?_⟩
  have L14 := L11.sub h12_9 (fun i hi hlt => ((hG _ hi).elim id (fun hz => absurd hlt (Nat.not_lt.2 hz))))
  have zq15n := (show ∀ g, rowOf Aa1_3 ca1_3 = some g → ¬ F1 g from po0_0)
  have zq15 := f12.chP h12_9 zq15n
  have zq15g : ∀ g, rowOf Aa1_3 ca1_3 = some g → ¬ F12_9 g := fun g hg hF => (g12_9 _ hF).elim (zq15n g hg) (fun hz => by have := (f12.row hg).2; omega)
  refine G.nil (E.blkN (E.thenN (WC.region (W.run 1 rfl ?_))))
  refine W.a (.add rfl rfl (by omega)) ?_
  refine W.run 1 rfl (W.nil ?_)
  refine E.again (k + 1, F12_9) (.cons rfl (.cons rfl (.cons rfl (.cons rfl (.cons rfl (.nil _)))))) ?_ ?_
  ·exact ⟨by omega, fun i hi => (Nat.lt_succ_iff_lt_or_eq.1 hi).elim (hnf0 i) (fun hh => by subst hh; assumption), (fun k_ hk_ => (g12_9 k_ hk_).elim (hG k_) (fun hz => .inr (Nat.le_trans (L11).size hz))), L14, by have := zl0; have := d12.size; have := h12_9.size; omega, p12_9, zq15, zq15g⟩
  first | omega | (simp only []; omega)
 refine WC.condN rfl (decide_eq_false c2) ?_
 have hnf : ¬ (0 ≤ failed ∧ failed < n) := fun hh => hnf0 failed.toNat (by omega) (by omega)
 refine WC.exit (E.thenX (E.thenX (E.blkH (E.thenN (WC.sr (W.run 1 rfl (W.nx (WC.ret ?_))))))))
 refine E.retG1 rfl rfl ?_
 have hk9 : k = xs.length := (by omega)
 have hn : (noteR s.1 xs a x failed) = (passK s.1 xs (costG xs a x).1 xs.length, 0) := (by unfold noteR; rw [if_neg (not_not_intro hc0), if_neg (by omega), if_pos (by have := hnf; omega)])
 rw [hn]
 subst hk9
 exact ⟨rfl, _, _, (show s.2 + xs.length ≤ s.2 + 8 by omega), f0_0, hG, Ll0⟩
end Go.Proofs.YtmkdeemjkcigkaaGreatDoor

namespace Go.Proofs.YtmkdeemjkcigkaaGreatDoor
open Go Go.Sx Go.Num Go.Gsp Go.Nsp Go.Msp Go.Rtp
set_option maxRecDepth 20000
theorem twin_ok {A A2 : Option Addr} {n c n2 c2 : Nat} {g : List Gsp.Edge} {l : List Kn} (w : World) (hV : Vec w edgeV 9 A n g) (hL : Vec w knV 3 A2 n2 l) (hgl : ∀ q ∈ l, I64n q.d) (hn : n ≤ 9223372036854775807) (hn2 : n2 ≤ 20) : Calls Tryz.prog 10 #[.slice A n c, .slice A2 n2 c2] w fun r w' => ∃ gp F, r = .returned (.pointer (some ⟨gp, 0, none⟩)) ∧ RMPool w' w.heap.size gp F (mindG g l, n2) ∧ Le w w' := by
 have hl := hV.1; have hl2 := hL.1
 refine enter Tryz.func10 rfl rfl ?_
 have L0 := Le.refl w
 refine WC.sr (W.run 1 rfl (W.nx (WC.sr ?_)))
 refine W.cl go33 rfl rfl (new_rm w) ?_
 rintro _ w1_0 ⟨gp1_0, F1_0, rfl, p1_0, h1_0⟩
 have L1 := L0.trans h1_0
 refine W.run 1 rfl (W.nx (WC.seq (WC.sr (W.run 1 rfl (W.nx (WC.block ?_))))))
 refine WC.loop (ι := Nat × (Nat → Prop)) (fun ⟨k, F⟩ => [(0, .slice A n c), (1, .slice A2 n2 c2), (5, .pointer (some ⟨gp1_0, 0, none⟩)), (6, .int .i64 (((k : Nat) : Int)))]) (fun ⟨k, F⟩ wl0 => (k ≤ n2) ∧ Le w wl0 ∧ w1_0.heap.size ≤ wl0.heap.size ∧ RMPool wl0 w.heap.size gp1_0 F (((l.take k).foldl (mindS g) (fun _ => none)), k)) (fun ⟨k, F⟩ => n2 - k) (0, F1_0) ?_ ?_ ?_
 ·exact .cons rfl (.cons rfl (.cons rfl (.cons rfl (.nil _))))
 ·exact ⟨Nat.zero_le _, L1, Nat.le_refl _, p1_0⟩
 rintro ⟨k, F⟩ wl0 ⟨hk, Ll0, zl0, f0_0⟩
 have hnx : k < n2 → ((l.take (k + 1)).foldl (mindS g) (fun _ => none)) = mindS g ((l.take k).foldl (mindS g) (fun _ => none)) (l.getD k noKn) := fun hh => mind_next (g := g) (l := l) (k := k) (by omega)
 refine WC.seq (WC.sr (W.run 2 rfl ?_))
 refine W.r (.len Tryz.underlying23 rfl) ?_
 refine W.run 1 rfl (W.nx ?_)
 by_cases c0 : ((k : Nat) : Int) < ((n2 : Nat) : Int)
 ·refine WC.condY rfl (decide_eq_true c0) ?_
  refine WC.sn (WC.seq (WC.block (WC.seq (WC.sr (W.run 2 rfl ?_)))))
  refine W.a (.idxS (k) Tryz.underlying23 sz66 rfl rfl (hL.isSome knV_row (by omega)) (rfl) (by omega)) ?_
  refine W.a (.vfield fa66_0 (hL.isSome knV_row (by omega)) rfl) ?_
  refine W.r (.vcell (j := k) (o := 0) (v := .int .i64 ((l.getD k noKn).p)) na3 rfl (hL.le Ll0) knV_row (getS l noKn (by omega)) rfl) ?_
  refine W.run 1 rfl ?_
  by_cases q5_6 : ((l.getD k noKn).p) < 0
  ·refine W.dt q5_6 rfl rfl (W.run 9 rfl (W.nx (WC.condT rfl ?_)))
   have hnx := hnx (by omega)
   refine WC.exit (E.thenX (E.blkH (E.thenN (WC.region (W.run 1 rfl ?_)))))
   refine W.a (.add rfl rfl (by omega)) ?_
   refine W.run 1 rfl (W.nil ?_)
   refine E.again (k + 1, F) (.cons rfl (.cons rfl (.cons rfl (.cons rfl (.nil _))))) ?_ ?_
   ·exact ⟨by omega, Ll0, by have := zl0; omega, (f0_0.up (by rw [hnx]; unfold mindS; first | (rw [if_pos (by omega)]) | (rw [if_neg (by omega), if_pos (by omega)]) | (rw [if_neg (by omega), if_neg (by omega)])) (by first | exact Nat.le_refl _ | exact Nat.le_succ _))⟩
   first | omega | (simp only []; omega)
  refine W.df q5_6 rfl rfl (W.run 2 rfl ?_)
  refine W.g (Any.rd (.idxS (k) Tryz.underlying23 sz66 rfl rfl (hL.isSome knV_row (by omega)) (rfl) (by omega)) _) ?_
  refine W.g (Any.rd (.vfield fa66_0 (hL.isSome knV_row (by omega)) rfl) _) ?_
  refine W.g (.vcell (j := k) (o := 0) (v := .int .i64 ((l.getD k noKn).p)) na3 rfl (hL.le Ll0) knV_row (getS l noKn (by omega)) rfl) ?_
  refine W.run 1 rfl ?_
  refine W.g (.len Tryz.underlying22 rfl) ?_
  refine W.run 2 rfl (W.nx ?_)
  by_cases c1 : ((n : Nat) : Int) ≤ ((l.getD k noKn).p)
  ·refine WC.condY rfl (decide_eq_true c1) ?_
   have hnx := hnx (by omega)
   refine WC.exit (E.thenX (E.blkH (E.thenN (WC.region (W.run 1 rfl ?_)))))
   refine W.a (.add rfl rfl (by omega)) ?_
   refine W.run 1 rfl (W.nil ?_)
   refine E.again (k + 1, F) (.cons rfl (.cons rfl (.cons rfl (.cons rfl (.nil _))))) ?_ ?_
   ·exact ⟨by omega, Ll0, by have := zl0; omega, (f0_0.up (by rw [hnx]; unfold mindS; first | (rw [if_pos (by omega)]) | (rw [if_neg (by omega), if_pos (by omega)]) | (rw [if_neg (by omega), if_neg (by omega)])) (by first | exact Nat.le_refl _ | exact Nat.le_succ _))⟩
   first | omega | (simp only []; omega)
  refine WC.condN rfl (decide_eq_false c1) ?_
  have hd64 := hgl (l.getD k noKn) (getD_in (z := noKn) (by omega))
  unfold I64n at hd64
  have hnx := hnx (by omega)
  refine WC.sn (WC.sr (W.run 2 rfl ?_))
  refine W.a (.idxS (k) Tryz.underlying23 sz66 rfl rfl (hL.isSome knV_row (by omega)) (rfl) (by omega)) ?_
  refine W.a (.vfield fa66_1 (hL.isSome knV_row (by omega)) rfl) ?_
  refine W.r (.vcell (j := k) (o := 1) (v := .int .i64 ((l.getD k noKn).d)) na3 rfl (hL.le Ll0) knV_row (getS l noKn (by omega)) rfl) ?_
  refine W.a (.and1 rfl rfl (by omega)) ?_
  refine W.run 1 rfl (W.nx ?_)
  by_cases c2 : (((l.getD k noKn).d) % 2) = 0
  ·refine WC.condY rfl (decide_eq_true c2) ?_
   refine WC.draw [0, 1, 2, 3, 4, 5, 6, 7, 8, 9, 10, 11, 12, 13, 14] mixed (by kernel_rfl) ?_
   intro w7 d7
   have L2 := Ll0.trans d7
   refine G.run 4 rfl ?_
   refine G.a rfl (.idxS (k) Tryz.underlying23 sz66 rfl rfl (hL.isSome knV_row (by omega)) (rfl) (by omega)) ?_
   refine G.a rfl (.vfield fa66_0 (hL.isSome knV_row (by omega)) rfl) ?_
   refine G.r rfl (.vcell (j := k) (o := 0) (v := .int .i64 ((l.getD k noKn).p)) na3 rfl (hL.le L2) knV_row (getS l noKn (by omega)) rfl) ?_
   refine G.a rfl (.idxS (((l.getD k noKn).p).toNat) Tryz.underlying22 sz51 rfl rfl (hV.isSome edgeV_row (by omega)) (by omega) (by omega)) ?_
   refine G.r rfl (.vload ag51 rfl (hV.le L2) edgeV_row (getS g noEdge (by omega))) ?_
   refine G.run 2 rfl ?_
   refine G.a rfl (.idxS (k) Tryz.underlying23 sz66 rfl rfl (hL.isSome knV_row (by omega)) (rfl) (by omega)) ?_
   refine G.a rfl (.vfield fa66_2 (hL.isSome knV_row (by omega)) rfl) ?_
   refine G.r rfl (.vcell (j := k) (o := 2) (v := .int .i64 ((l.getD k noKn).a)) na3 rfl (hL.le L2) knV_row (getS l noKn (by omega)) rfl) ?_
   have f3 := (f0_0.le d7)
   refine G.ef rfl rfl rfl rfl rfl ?_
   refine Ef.call go34 rfl rfl (rfail_rm (g.getD (((l.getD k noKn).p).toNat) noEdge) ((l.getD k noKn).a) w7 f3 (by omega)) ?_
   rintro _ w7_14 ⟨rfl, F7_14, p7_14, g7_14, h7_14⟩
   refine ⟨_, rfl, ?_⟩
   refine ⟨fun h => absurd h (ne_true_of_eq_false (by kernel_rfl)), ?_⟩
   have L4 := L2.chP_then h7_14 (fun i hi => Nat.le_trans L0.size (f3.old hi))
   refine G.nil (E.blkN (E.thenN (WC.region (W.run 1 rfl ?_))))
   refine W.a (.add rfl rfl (by omega)) ?_
   refine W.run 1 rfl (W.nil ?_)
   refine E.again (k + 1, F7_14) (.cons rfl (.cons rfl (.cons rfl (.cons rfl (.nil _))))) ?_ ?_
   ·exact ⟨by omega, L4, by have := zl0; have := d7.size; have := h7_14.size; omega, (p7_14.up (by rw [hnx]; unfold mindS; first | (rw [if_pos (by omega)]) | (rw [if_neg (by omega), if_pos (by omega)]) | (rw [if_neg (by omega), if_neg (by omega)])) (by first | exact Nat.le_refl _ | exact Nat.le_succ _))⟩
   first | omega | (simp only []; omega)
  refine WC.condN rfl (decide_eq_false c2) ?_
  refine WC.draw [0, 1, 2, 3, 4, 5, 6, 7, 8, 9, 10, 11, 12, 13, 14] mixed (by kernel_rfl) ?_
  intro w8 d8
  have L5 := Ll0.trans d8
  refine G.run 4 rfl ?_
  refine G.a rfl (.idxS (k) Tryz.underlying23 sz66 rfl rfl (hL.isSome knV_row (by omega)) (rfl) (by omega)) ?_
  refine G.a rfl (.vfield fa66_0 (hL.isSome knV_row (by omega)) rfl) ?_
  refine G.r rfl (.vcell (j := k) (o := 0) (v := .int .i64 ((l.getD k noKn).p)) na3 rfl (hL.le L5) knV_row (getS l noKn (by omega)) rfl) ?_
  refine G.a rfl (.idxS (((l.getD k noKn).p).toNat) Tryz.underlying22 sz51 rfl rfl (hV.isSome edgeV_row (by omega)) (by omega) (by omega)) ?_
  refine G.r rfl (.vload ag51 rfl (hV.le L5) edgeV_row (getS g noEdge (by omega))) ?_
  refine G.run 2 rfl ?_
  refine G.a rfl (.idxS (k) Tryz.underlying23 sz66 rfl rfl (hL.isSome knV_row (by omega)) (rfl) (by omega)) ?_
  refine G.a rfl (.vfield fa66_2 (hL.isSome knV_row (by omega)) rfl) ?_
  refine G.r rfl (.vcell (j := k) (o := 2) (v := .int .i64 ((l.getD k noKn).a)) na3 rfl (hL.le L5) knV_row (getS l noKn (by omega)) rfl) ?_
  have f6 := (f0_0.le d8)
  refine G.ef rfl rfl rfl rfl rfl ?_
  refine Ef.call go35 rfl rfl (rpass_rm (g.getD (((l.getD k noKn).p).toNat) noEdge) ((l.getD k noKn).a) w8 f6 (by omega)) ?_
  rintro _ w8_14 ⟨rfl, F8_14, p8_14, g8_14, h8_14⟩
  refine ⟨_, rfl, ?_⟩
  refine ⟨fun h => absurd h (ne_true_of_eq_false (by kernel_rfl)), ?_⟩
  have L7 := L5.chP_then h8_14 (fun i hi => Nat.le_trans L0.size (f6.old hi))
  refine G.nil (E.blkN (E.thenN (WC.region (W.run 1 rfl ?_))))
  refine W.a (.add rfl rfl (by omega)) ?_
  refine W.run 1 rfl (W.nil ?_)
  refine E.again (k + 1, F8_14) (.cons rfl (.cons rfl (.cons rfl (.cons rfl (.nil _))))) ?_ ?_
  ·exact ⟨by omega, L7, by have := zl0; have := d8.size; have := h8_14.size; omega, (p8_14.up (by rw [hnx]; unfold mindS; first | (rw [if_pos (by omega)]) | (rw [if_neg (by omega), if_pos (by omega)]) | (rw [if_neg (by omega), if_neg (by omega)])) (by first | exact Nat.le_refl _ | exact Nat.le_succ _))⟩
  first | omega | (simp only []; omega)
 refine WC.condN rfl (decide_eq_false c0) ?_
 refine WC.exit (E.thenX (E.thenX (E.blkH (E.thenN (WC.sr (W.run 2 rfl (W.nx (WC.ret ?_))))))))
 refine E.retG1 rfl rfl ?_
 have hke : k = n2 := (by omega)
 subst hke
 exact ⟨_, _, rfl, (by have h := f0_0; rw [show l.take k = l by rw [← hl2, List.take_length]] at h; exact h), Ll0⟩

set_option maxHeartbeats 4000000 in
theorem RouteTells_ok (fr to a x failed : Int) {A3 : Option Addr} {n3 c3 : Nat} {ps : List Int} {A A2 : Option Addr} {n c n2 c2 : Nat} {g : List Gsp.Edge} {l : List Kn} (w : World) (hT : Tab w) (hV : Vec w edgeV 9 A n g) (hL : Vec w knV 3 A2 n2 l) (hgl : ∀ q ∈ l, I64n q.d) (hnc : n ≤ c) (hn : n ≤ 9223372036854775807) (hn2 : n2 ≤ 9223372036854775807) (hps : Vec w iv 1 A3 n3 ps) : Calls Tryz.prog 3 #[.slice A n c, .slice A2 n2 c2, .int .i64 (fr), .int .i64 (to), .int .i64 (a), .int .i64 (x), .slice A3 n3 c3, .int .i64 (failed)] w fun r w' => r = .returned (.bool true) ∧ Le w w' := by
 have hl := hV.1; have hl2 := hL.1
 have hgm : GoodM (mindG g l) := mindG_good g l _ none_good
 have hl3 := hps.1
 refine enter Tryz.func3 rfl rfl ?_
 have L0 := Le.refl w
 refine WC.sr (W.run 1 rfl (W.nx (WC.sr ?_)))
 refine W.cl go7 rfl rfl (small38_ok w (hT.le L0)) ?_
 rintro _ w1_0 ⟨rfl, h1_0⟩
 have L1 := L0.trans h1_0
 refine W.run 1 rfl (W.nx (WC.sr (W.run 2 rfl ?_)))
 refine W.cl go8 rfl rfl (few_ok w1_0) ?_
 rintro _ w2_2 ⟨rfl, h2_2⟩
 have L2 := L1.trans h2_2
 refine W.run 1 rfl (W.nx (WC.seq (WC.sr (W.run 2 rfl ?_))))
 by_cases q3_2 : (decide (n ≤ 12) && decide (n2 ≤ 20)) = true
 ·refine W.a (.dec (.move rfl) (congrArg not (q3_2))) ?_
  refine W.run 1 rfl ?_
  refine W.g (.len Tryz.underlying24 rfl) ?_
  refine W.run 2 rfl (W.nx ?_)
  by_cases c0 : 9 < ((n3 : Nat) : Int)
  ·refine WC.condY rfl (decide_eq_true c0) ?_
   refine WC.sr (W.run 2 rfl (W.nx (WC.ret (E.thenR ?_))))
   refine E.retG1 rfl rfl ?_
   exact ⟨rfl, L2⟩
  refine WC.condN rfl (decide_eq_false c0) ?_
  obtain ⟨hf1, hf2⟩ := few_T (n := n) (n2 := n2) (by assumption)
  have hrl := rowsG_len (g := g) ps
  refine WC.sn (WC.sr (W.run 2 rfl ?_))
  refine W.cl go9 rfl rfl (mind_ok w2_2 (hV.le L2) (hL.le L2) hgl (by omega) (by omega)) ?_
  rintro _ w5_2 ⟨gp5_2, F5_2, rfl, p5_2, h5_2⟩
  have L3 := L2.trans h5_2
  refine W.run 1 rfl (W.nx (WC.sr (W.run 2 rfl ?_)))
  refine W.cl go10 rfl rfl (twin_ok w5_2 (hV.le L3) (hL.le L3) hgl (by omega) (by omega)) ?_
  rintro _ w6_2 ⟨gp6_2, F6_2, rfl, p6_2, h6_2⟩
  have L4 := L3.trans h6_2
  refine W.run 1 rfl (W.nx (WC.seq (WC.sr (W.run 1 rfl ?_))))
  refine W.a (.dec (.isNilP (by kernel_rfl) rfl) rfl) ?_
  refine W.nx (WC.condF rfl (WC.sn (WC.sr (W.run 6 rfl ?_))))
  have f5 := (p5_2.le h6_2)
  obtain ⟨b1, heb1⟩ : ∃ z, z = bestR g (mindG g l) fr to a x := ⟨_, rfl⟩
  have hlb1 := bestR_len (g := g) (fr := fr) (to := to) (a := a) (x := x) hgm
  rw [← heb1] at hlb1
  refine W.cl go11 rfl rfl ((by have k := rbest_ok (c := c) fr to a x w6_2 f5 (hV.le L4) (by omega); rw [← heb1] at k; exact k)) ?_
  rintro _ w9_6 ⟨Aw9_6, cw9_6, An9_6, cn9_6, Ad9_6, cd9_6, rfl, ow9_6, on9_6, od9_6, h9_6⟩
  have L6 := L4.trans h9_6
  refine W.run 2 rfl ?_
  refine W.a (.extract (v := .agg #[.slice An9_6 ((digs b1.2.1.n).length) cn9_6, .slice Ad9_6 ((digs b1.2.1.d).length) cd9_6]) rfl rfl) ?_
  refine W.run 1 rfl (W.ef rfl rfl rfl ?_)
  refine Ef.allocA z33 ?_
  intro g9_11 w9_11 hg9_11 b9_11 h9_11
  have L7 := L6.trans h9_11
  have b9_11 : Blk w9_11 g9_11 33 #[.slice none 0 0, .slice none 0 0] := b9_11
  refine W.run 1 rfl ?_
  refine W.ef0 rfl rfl ?_
  refine Ef.storeAll sz33 (by rfl) rfl rfl b9_11 (by rfl) (by simp [Value.oneCell']) ?_
  intro w9_13 b9_13 h9_13
  have b9_13 : Blk w9_13 g9_11 33 #[.slice An9_6 ((digs b1.2.1.n).length) cn9_6, .slice Ad9_6 ((digs b1.2.1.d).length) cd9_6] := b9_13
  have L8 := L7.then_ h9_13 (fun q hq => by cases hq; exact Nat.le_trans L6.size hg9_11)
  refine W.run 1 rfl (W.nx (WC.sr (W.run 6 rfl ?_)))
  have f9 := ((p6_2.le (h9_6.trans h9_11)).ch h9_13 (fun q hqq hF => by cases hqq; have := p6_2.lt hF; have := h9_6.size; have := hg9_11; omega))
  refine W.cl go12 rfl rfl ((by have k := r38best_ok (c := c) fr to a x w9_13 f9 (hV.le L8) (by omega) (show n2 ≤ 100000 by omega); rw [show bestR g ((mindG g l, n2) : MF × Nat).1 fr to a x = b1 from heb1.symm] at k; exact k)) ?_
  rintro _ w10_6 ⟨Aw10_6, cw10_6, An10_6, cn10_6, Ad10_6, cd10_6, rfl, ow10_6, on10_6, od10_6, h10_6⟩
  have L10 := L8.trans h10_6
  refine W.run 2 rfl ?_
  refine W.a (.extract (v := .agg #[.slice An10_6 ((digs b1.2.1.n).length) cn10_6, .slice Ad10_6 ((digs b1.2.1.d).length) cd10_6]) rfl rfl) ?_
  refine W.run 1 rfl (W.ef rfl rfl rfl ?_)
  refine Ef.allocA z33 ?_
  intro g10_11 w10_11 hg10_11 b10_11 h10_11
  have L11 := L10.trans h10_11
  have b10_11 : Blk w10_11 g10_11 33 #[.slice none 0 0, .slice none 0 0] := b10_11
  refine W.run 1 rfl ?_
  refine W.ef0 rfl rfl ?_
  refine Ef.storeAll sz33 (by rfl) rfl rfl b10_11 (by rfl) (by simp [Value.oneCell']) ?_
  intro w10_13 b10_13 h10_13
  have b10_13 : Blk w10_13 g10_11 33 #[.slice An10_6 ((digs b1.2.1.n).length) cn10_6, .slice Ad10_6 ((digs b1.2.1.d).length) cd10_6] := b10_13
  have L12 := L11.then_ h10_13 (fun q hq => by cases hq; exact Nat.le_trans L10.size hg10_11)
  refine W.run 1 rfl (W.nx (WC.sr (W.run 2 rfl ?_)))
  refine W.cl go13 rfl rfl (rows_ok w10_13 (hV.le L12) (hps.le L12) (by omega) (by omega)) ?_
  rintro _ w11_2 ⟨Ar11_2, cr11_2, rfl, or11_2, h11_2⟩
  have L13 := L12.trans h11_2
  refine W.run 1 rfl (W.nx (WC.sr (W.run 4 rfl ?_)))
  have f14 := (((((f5.le (h9_6.trans h9_11)).ch h9_13 (fun q hqq hF => by cases hqq; have := f5.lt hF; have := h9_6.size; have := hg9_11; omega)).le (h10_6.trans h10_11)).ch h10_13 (fun q hqq hF => by cases hqq; have := f5.lt hF; have := h9_6.size; have := h9_11.size; have := h9_13.size; have := h10_6.size; have := hg10_11; omega)).le h11_2)
  obtain ⟨o1, heo1⟩ : ∃ z, z = oddsR (mindG g l) (rowsG g ps) a x := ⟨_, rfl⟩
  have hlo1 := oddsR_len (m := (mindG g l)) hgm (rowsG g ps) a x
  rw [← heo1] at hlo1
  refine W.cl go14 rfl rfl ((by have k := rodds_ok (c := cr11_2) a x w11_2 f14 or11_2.vec (by omega); rw [← heo1] at k; exact k)) ?_
  rintro _ w12_4 ⟨An12_4, cn12_4, Ad12_4, cd12_4, rfl, on12_4, od12_4, h12_4⟩
  have L15 := L13.trans h12_4
  refine W.run 1 rfl ?_
  refine W.a (.extract (v := .agg #[.slice An12_4 ((digs o1.1.n).length) cn12_4, .slice Ad12_4 ((digs o1.1.d).length) cd12_4]) rfl rfl) ?_
  refine W.run 2 rfl (W.ef rfl rfl rfl ?_)
  refine Ef.allocA z33 ?_
  intro g12_9 w12_9 hg12_9 b12_9 h12_9
  have L16 := L15.trans h12_9
  have b12_9 : Blk w12_9 g12_9 33 #[.slice none 0 0, .slice none 0 0] := b12_9
  refine W.ef0 rfl rfl ?_
  refine Ef.storeAll sz33 (by rfl) rfl rfl b12_9 (by rfl) (by simp [Value.oneCell']) ?_
  intro w12_10 b12_10 h12_10
  have b12_10 : Blk w12_10 g12_9 33 #[.slice An12_4 ((digs o1.1.n).length) cn12_4, .slice Ad12_4 ((digs o1.1.d).length) cd12_4] := b12_10
  have L17 := L16.then_ h12_10 (fun q hq => by cases hq; exact Nat.le_trans L15.size hg12_9)
  refine W.run 2 rfl (W.nx (WC.sr (W.run 4 rfl ?_)))
  have f18 := ((((f9.le (h10_6.trans h10_11)).ch h10_13 (fun q hqq hF => by cases hqq; have := f9.lt hF; have := h10_6.size; have := hg10_11; omega)).le (h11_2.trans (h12_4.trans h12_9))).ch h12_10 (fun q hqq hF => by cases hqq; have := f9.lt hF; have := h10_6.size; have := h10_11.size; have := h10_13.size; have := h11_2.size; have := h12_4.size; have := hg12_9; omega))
  have f19 := ((or11_2.le (h12_4.trans h12_9)).ch h12_10 (fun q hq => by cases hq; exact (fun he => by have := (or11_2.row he).2; have := h12_4.size; omega)))
  refine W.cl go15 rfl rfl ((by have k := r38odds_ok (c := cr11_2) a x w12_10 f18 f19.vec (by omega) (show n2 ≤ 100000 by omega); rw [show oddsR ((mindG g l, n2) : MF × Nat).1 (rowsG g ps) a x = o1 from heo1.symm] at k; exact k)) ?_
  rintro _ w13_4 ⟨An13_4, cn13_4, Ad13_4, cd13_4, rfl, on13_4, od13_4, h13_4⟩
  have L20 := L17.trans h13_4
  refine W.run 1 rfl ?_
  refine W.a (.extract (v := .agg #[.slice An13_4 ((digs o1.1.n).length) cn13_4, .slice Ad13_4 ((digs o1.1.d).length) cd13_4]) rfl rfl) ?_
  refine W.run 2 rfl (W.ef rfl rfl rfl ?_)
  refine Ef.allocA z33 ?_
  intro g13_9 w13_9 hg13_9 b13_9 h13_9
  have L21 := L20.trans h13_9
  have b13_9 : Blk w13_9 g13_9 33 #[.slice none 0 0, .slice none 0 0] := b13_9
  refine W.ef0 rfl rfl ?_
  refine Ef.storeAll sz33 (by rfl) rfl rfl b13_9 (by rfl) (by simp [Value.oneCell']) ?_
  intro w13_10 b13_10 h13_10
  have b13_10 : Blk w13_10 g13_9 33 #[.slice An13_4 ((digs o1.1.n).length) cn13_4, .slice Ad13_4 ((digs o1.1.d).length) cd13_4] := b13_10
  have L22 := L21.then_ h13_10 (fun q hq => by cases hq; exact Nat.le_trans L20.size hg13_9)
  refine W.run 2 rfl (W.nx (WC.seq (WC.sr (W.run 2 rfl ?_))))
  have f23 := ((((((((ow9_6.le h9_11).ch h9_13 (fun q hq => by cases hq; exact (fun he => by have := (ow9_6.row he).2; omega))).le (h10_6.trans h10_11)).ch h10_13 (fun q hq => by cases hq; exact (fun he => by have := (ow9_6.row he).2; have := h9_11.size; have := h9_13.size; have := h10_6.size; omega))).le (h11_2.trans (h12_4.trans h12_9))).ch h12_10 (fun q hq => by cases hq; exact (fun he => by have := (ow9_6.row he).2; have := h9_11.size; have := h9_13.size; have := h10_6.size; have := h10_11.size; have := h10_13.size; have := h11_2.size; have := h12_4.size; omega))).le (h13_4.trans h13_9)).ch h13_10 (fun q hq => by cases hq; exact (fun he => by have := (ow9_6.row he).2; have := h9_11.size; have := h9_13.size; have := h10_6.size; have := h10_11.size; have := h10_13.size; have := h11_2.size; have := h12_4.size; have := h12_9.size; have := h12_10.size; have := h13_4.size; omega)))
  have f24 := ((((((ow10_6.le h10_11).ch h10_13 (fun q hq => by cases hq; exact (fun he => by have := (ow10_6.row he).2; omega))).le (h11_2.trans (h12_4.trans h12_9))).ch h12_10 (fun q hq => by cases hq; exact (fun he => by have := (ow10_6.row he).2; have := h10_11.size; have := h10_13.size; have := h11_2.size; have := h12_4.size; omega))).le (h13_4.trans h13_9)).ch h13_10 (fun q hq => by cases hq; exact (fun he => by have := (ow10_6.row he).2; have := h10_11.size; have := h10_13.size; have := h11_2.size; have := h12_4.size; have := h12_9.size; have := h12_10.size; have := h13_4.size; omega)))
  refine W.cl go16 rfl rfl ((by have q := same_ok (n := b1.1.length) (m := b1.1.length) (c := cw9_6) (d := cw10_6) w13_10 f23.vec f24.vec (by omega); rw [decide_eq_true (show b1.1 = b1.1 from rfl)] at q; exact q)) ?_
  rintro _ w14_2 ⟨rfl, h14_2⟩
  have L25 := L22.trans h14_2
  refine W.run 2 rfl ?_
  have f26 := (((((((b9_13.le (h10_6.trans h10_11)).ch h10_13 (fun h => (show g10_11 ≠ g9_11 from by have := b9_13.lt; have := h10_6.size; omega) (Option.some.inj h))).le (h11_2.trans (h12_4.trans h12_9))).ch h12_10 (fun h => (show g12_9 ≠ g9_11 from by have := b9_13.lt; have := h10_6.size; have := h10_11.size; have := h10_13.size; have := h11_2.size; have := h12_4.size; omega) (Option.some.inj h))).le (h13_4.trans h13_9)).ch h13_10 (fun h => (show g13_9 ≠ g9_11 from by have := b9_13.lt; have := h10_6.size; have := h10_11.size; have := h10_13.size; have := h11_2.size; have := h12_4.size; have := h12_9.size; have := h12_10.size; have := h13_4.size; omega) (Option.some.inj h))).le h14_2)
  refine W.g (.loadAll ag33 (by rfl) rfl f26) ?_
  have f27 := (((((b10_13.le (h11_2.trans (h12_4.trans h12_9))).ch h12_10 (fun h => (show g12_9 ≠ g10_11 from by have := b10_13.lt; have := h11_2.size; have := h12_4.size; omega) (Option.some.inj h))).le (h13_4.trans h13_9)).ch h13_10 (fun h => (show g13_9 ≠ g10_11 from by have := b10_13.lt; have := h11_2.size; have := h12_4.size; have := h12_9.size; have := h12_10.size; have := h13_4.size; omega) (Option.some.inj h))).le h14_2)
  refine W.g (.loadAll ag33 (by rfl) rfl f27) ?_
  have f28 := (((((((((on9_6.le h9_11).ch h9_13 (fun q hq => by cases hq; exact (fun he => by have := (on9_6.row he).2; omega))).le (h10_6.trans h10_11)).ch h10_13 (fun q hq => by cases hq; exact (fun he => by have := (on9_6.row he).2; have := h9_11.size; have := h9_13.size; have := h10_6.size; omega))).le (h11_2.trans (h12_4.trans h12_9))).ch h12_10 (fun q hq => by cases hq; exact (fun he => by have := (on9_6.row he).2; have := h9_11.size; have := h9_13.size; have := h10_6.size; have := h10_11.size; have := h10_13.size; have := h11_2.size; have := h12_4.size; omega))).le (h13_4.trans h13_9)).ch h13_10 (fun q hq => by cases hq; exact (fun he => by have := (on9_6.row he).2; have := h9_11.size; have := h9_13.size; have := h10_6.size; have := h10_11.size; have := h10_13.size; have := h11_2.size; have := h12_4.size; have := h12_9.size; have := h12_10.size; have := h13_4.size; omega))).le h14_2)
  have f29 := (((((((((od9_6.le h9_11).ch h9_13 (fun q hq => by cases hq; exact (fun he => by have := (od9_6.row he).2; omega))).le (h10_6.trans h10_11)).ch h10_13 (fun q hq => by cases hq; exact (fun he => by have := (od9_6.row he).2; have := h9_11.size; have := h9_13.size; have := h10_6.size; omega))).le (h11_2.trans (h12_4.trans h12_9))).ch h12_10 (fun q hq => by cases hq; exact (fun he => by have := (od9_6.row he).2; have := h9_11.size; have := h9_13.size; have := h10_6.size; have := h10_11.size; have := h10_13.size; have := h11_2.size; have := h12_4.size; omega))).le (h13_4.trans h13_9)).ch h13_10 (fun q hq => by cases hq; exact (fun he => by have := (od9_6.row he).2; have := h9_11.size; have := h9_13.size; have := h10_6.size; have := h10_11.size; have := h10_13.size; have := h11_2.size; have := h12_4.size; have := h12_9.size; have := h12_10.size; have := h13_4.size; omega))).le h14_2)
  have f30 := (((((((on10_6.le h10_11).ch h10_13 (fun q hq => by cases hq; exact (fun he => by have := (on10_6.row he).2; omega))).le (h11_2.trans (h12_4.trans h12_9))).ch h12_10 (fun q hq => by cases hq; exact (fun he => by have := (on10_6.row he).2; have := h10_11.size; have := h10_13.size; have := h11_2.size; have := h12_4.size; omega))).le (h13_4.trans h13_9)).ch h13_10 (fun q hq => by cases hq; exact (fun he => by have := (on10_6.row he).2; have := h10_11.size; have := h10_13.size; have := h11_2.size; have := h12_4.size; have := h12_9.size; have := h12_10.size; have := h13_4.size; omega))).le h14_2)
  have f31 := (((((((od10_6.le h10_11).ch h10_13 (fun q hq => by cases hq; exact (fun he => by have := (od10_6.row he).2; omega))).le (h11_2.trans (h12_4.trans h12_9))).ch h12_10 (fun q hq => by cases hq; exact (fun he => by have := (od10_6.row he).2; have := h10_11.size; have := h10_13.size; have := h11_2.size; have := h12_4.size; omega))).le (h13_4.trans h13_9)).ch h13_10 (fun q hq => by cases hq; exact (fun he => by have := (od10_6.row he).2; have := h10_11.size; have := h10_13.size; have := h11_2.size; have := h12_4.size; have := h12_9.size; have := h12_10.size; have := h13_4.size; omega))).le h14_2)
  refine W.efg rfl rfl rfl (rfl) rfl rfl ?_
  refine Ef.call go17 rfl rfl ((by have q := samef_ok (cn1 := cn9_6) (cd1 := cd9_6) (cn2 := cn10_6) (cd2 := cd10_6) w14_2 f28.vec f29.vec (by omega) (by omega) f30.vec f31.vec (by omega) (by omega); rw [decide_eq_true (show (⟨b1.2.1.n, b1.2.1.d⟩ : Fr) = ⟨b1.2.1.n, b1.2.1.d⟩ from rfl)] at q; exact q)) ?_
  rintro _ w14_7 ⟨rfl, h14_7⟩
  refine ⟨_, rfl, ?_⟩
  have L32 := L25.trans h14_7
  refine W.run 5 rfl ?_
  refine W.g (Any.rd (.dec (.neq rfl rfl) (decide_eq_false (fun h => h rfl))) _) ?_
  refine W.run 2 rfl ?_
  have f33 := (((b12_10.le (h13_4.trans h13_9)).ch h13_10 (fun h => (show g13_9 ≠ g12_9 from by have := b12_10.lt; have := h13_4.size; omega) (Option.some.inj h))).le (h14_2.trans h14_7))
  refine W.g (.loadAll ag33 (by rfl) rfl f33) ?_
  have f34 := (b13_10.le (h14_2.trans h14_7))
  refine W.g (.loadAll ag33 (by rfl) rfl f34) ?_
  have f35 := (((((on12_4.le h12_9).ch h12_10 (fun q hq => by cases hq; exact (fun he => by have := (on12_4.row he).2; omega))).le (h13_4.trans h13_9)).ch h13_10 (fun q hq => by cases hq; exact (fun he => by have := (on12_4.row he).2; have := h12_9.size; have := h12_10.size; have := h13_4.size; omega))).le (h14_2.trans h14_7))
  have f36 := (((((od12_4.le h12_9).ch h12_10 (fun q hq => by cases hq; exact (fun he => by have := (od12_4.row he).2; omega))).le (h13_4.trans h13_9)).ch h13_10 (fun q hq => by cases hq; exact (fun he => by have := (od12_4.row he).2; have := h12_9.size; have := h12_10.size; have := h13_4.size; omega))).le (h14_2.trans h14_7))
  have f37 := (((on13_4.le h13_9).ch h13_10 (fun q hq => by cases hq; exact (fun he => by have := (on13_4.row he).2; omega))).le (h14_2.trans h14_7))
  have f38 := (((od13_4.le h13_9).ch h13_10 (fun q hq => by cases hq; exact (fun he => by have := (od13_4.row he).2; omega))).le (h14_2.trans h14_7))
  refine W.efg rfl rfl rfl (rfl) rfl rfl ?_
  refine Ef.call go17 rfl rfl ((by have q := samef_ok (cn1 := cn12_4) (cd1 := cd12_4) (cn2 := cn13_4) (cd2 := cd13_4) w14_7 f35.vec f36.vec (by omega) (by omega) f37.vec f38.vec (by omega) (by omega); rw [decide_eq_true (show (⟨o1.1.n, o1.1.d⟩ : Fr) = ⟨o1.1.n, o1.1.d⟩ from rfl)] at q; exact q)) ?_
  rintro _ w14_18 ⟨rfl, h14_18⟩
  refine ⟨_, rfl, ?_⟩
  have L39 := L32.trans h14_18
  refine W.run 5 rfl ?_
  refine W.g (Any.rd (.dec (.neq rfl rfl) (decide_eq_false (fun h => h rfl))) _) ?_
  refine W.run 4 rfl ?_
  refine W.g (Any.rd (.dec (.neq rfl rfl) (decide_eq_false (fun h => h rfl))) _) ?_
  refine W.run 1 rfl (W.nx (WC.condF rfl (WC.sn (WC.seq (WC.sr (W.run 5 rfl ?_))))))
  have f40 := (((((f14.le (h12_4.trans h12_9)).ch h12_10 (fun q hqq hF => by cases hqq; have := f14.lt hF; have := h12_4.size; have := hg12_9; omega)).le (h13_4.trans h13_9)).ch h13_10 (fun q hqq hF => by cases hqq; have := f14.lt hF; have := h12_4.size; have := h12_9.size; have := h12_10.size; have := h13_4.size; have := hg13_9; omega)).le (h14_2.trans (h14_7.trans h14_18)))
  have f41 := (((f19.le (h13_4.trans h13_9)).ch h13_10 (fun q hq => by cases hq; exact (fun he => by have := (f19.row he).2; have := h13_4.size; omega))).le (h14_2.trans (h14_7.trans h14_18)))
  have hva16_5 := apart_vec f41 (show ∀ g, rowOf Ar11_2 cr11_2 = some g → ¬ F5_2 g from (fun g hg hF => by have := f5.lt hF; have := h9_6.size; have := h9_11.size; have := h9_13.size; have := h10_6.size; have := h10_11.size; have := h10_13.size; have := (f41.row hg).1; omega))
  refine W.cl go18 rfl rfl (rnote_ok (c := cr11_2) a x failed w14_18 f40 f41.vec (by omega) hva16_5) ?_
  rintro _ w16_5 ⟨rfl, p16_5, g16_5, h16_5⟩
  have L42 := L39.chP_then h16_5 (fun i hi => Nat.le_trans L2.size (f40.old hi))
  have f43 := (((f18.le (h13_4.trans h13_9)).ch h13_10 (fun q hqq hF => by cases hqq; have := f18.lt hF; have := h13_4.size; have := hg13_9; omega)).le (h14_2.trans (h14_7.trans h14_18)))
  have zq58n := (show ∀ k, F6_2 k → ¬ F5_2 k from (fun k h1 h2 => by have := f43.old h1;  have := p5_2.lt h2; omega))
  have zq58 := f43.chP h16_5 zq58n
  have zq58g : ∀ k, F6_2 k → ¬ F5_2 k := fun k hk hF => (g16_5 _ hF).elim (zq58n k hk) (fun hz => by have := f43.lt hk; omega)
  have zq67n := (show ∀ g, rowOf Ar11_2 cr11_2 = some g → ¬ F5_2 g from (fun g hg hF => by have := f5.lt hF; have := h9_6.size; have := h9_11.size; have := h9_13.size; have := h10_6.size; have := h10_11.size; have := h10_13.size; have := (f41.row hg).1; omega))
  have zq67 := f41.chP h16_5 zq67n
  refine W.run 5 rfl ?_
  refine W.cl go19 rfl rfl (r38note_ok (c := cr11_2) a x failed w16_5 zq58 zq67.vec (by omega) (apart_vec zq67 (fun g hg hF => by have := f9.lt hF; have := h10_6.size; have := h10_11.size; have := h10_13.size; have := (zq67.row hg).1; omega)) (show n2 ≤ 99000 by omega)) ?_
  rintro _ w16_11 ⟨rfl, F16_11, N16_11, zn16_11, p16_11, g16_11, h16_11⟩
  have L74 := L42.chP_then h16_11 (fun i hi => Nat.le_trans L3.size (zq58.old hi))
  have zq75n := (show ∀ k, F5_2 k → ¬ F6_2 k from (fun k h1 h2 => zq58g k h2 h1))
  have zq75 := p16_5.chP h16_11 zq75n
  refine W.a (.dec (.neq rfl rfl) (decide_eq_false (fun h => h rfl))) ?_
  refine W.nx (WC.condF rfl (WC.sn (WC.seq (WC.sr (W.run 1 rfl (W.nx (WC.block ?_)))))))
  refine WC.loop (ι := Nat) (fun k => [(0, .slice A n c), (17, .bool true), (19, .pointer (some ⟨gp5_2, 0, none⟩)), (20, .pointer (some ⟨gp6_2, 0, none⟩)), (34, .int .i64 (((k : Nat) : Int)))]) (fun k wl0 => (k ≤ n) ∧ Le w wl0 ∧ w16_11.heap.size ≤ wl0.heap.size ∧ MPool wl0 w2_2.heap.size gp5_2 F5_2 ((noteR (mindG g l) (rowsG g ps) a x failed).1) ∧ RMPool wl0 w5_2.heap.size gp6_2 F16_11 ((noteR (mindG g l, n2).1 (rowsG g ps) a x failed).1, N16_11)) (fun k => n - k) 0 ?_ ?_ ?_
  ·exact .cons rfl (.cons rfl (.cons rfl (.cons rfl (.cons rfl (.nil _)))))
  ·exact ⟨Nat.zero_le _, L74, Nat.le_refl _, zq75, p16_11⟩
  rintro k wl0 ⟨hk, Ll0, zl0, f0_0, f0_1⟩
  refine WC.seq (WC.sr (W.run 2 rfl ?_))
  refine W.r (.len Tryz.underlying22 rfl) ?_
  refine W.run 1 rfl (W.nx ?_)
  by_cases c4 : ((k : Nat) : Int) < ((n : Nat) : Int)
  ·refine WC.condY rfl (decide_eq_true c4) ?_
   refine WC.sn (WC.seq (WC.block (WC.sr (W.run 3 rfl ?_))))
   refine W.a (.idxS (k) Tryz.underlying22 sz51 rfl rfl (hV.isSome edgeV_row (by omega)) (rfl) (by omega)) ?_
   refine W.r (.vload ag51 rfl (hV.le Ll0) edgeV_row (getS g noEdge (by omega))) ?_
   refine W.cl go20 rfl rfl (bnd_mind (g.getD k noEdge) f0_0) ?_
   rintro _ w21_5 ⟨rfl, h21_5⟩
   have L91 := Ll0.trans h21_5
   refine W.run 5 rfl (W.nx (WC.sr (W.run 3 rfl ?_)))
   refine W.a (.idxS (k) Tryz.underlying22 sz51 rfl rfl (hV.isSome edgeV_row (by omega)) (rfl) (by omega)) ?_
   refine W.r (.vload ag51 rfl (hV.le L91) edgeV_row (getS g noEdge (by omega))) ?_
   have f92 := (f0_1.le h21_5)
   refine W.cl go21 rfl rfl (rbnd_rm (g.getD k noEdge) w21_5 f92 (show N16_11 ≤ 100000 by have : N16_11 ≤ n2 + 8 := zn16_11; omega)) ?_
   rintro _ w22_5 ⟨rfl, h22_5⟩
   have L93 := L91.trans h22_5
   refine W.run 5 rfl (W.nx (WC.sr (W.run 2 rfl ?_)))
   refine W.a (.dec (.neq rfl rfl) (decide_eq_false (fun h => h rfl))) ?_
   refine W.run 3 rfl ?_
   refine W.g (Any.rd (.dec (.neq rfl rfl) (decide_eq_false (fun h => h rfl))) _) ?_
   refine W.run 1 rfl (W.nx (WC.condF rfl (WC.skip (E.blkN (E.thenN (WC.region (W.run 1 rfl ?_)))))))
   refine W.a (.add rfl rfl (by omega)) ?_
   refine W.run 1 rfl (W.nil ?_)
   have f94 := (f0_0.le (h21_5.trans h22_5))
   have f95 := (f92.le h22_5)
   refine E.again (k + 1) (.cons rfl (.cons rfl (.cons rfl (.cons rfl (.cons rfl (.nil _)))))) ?_ ?_
   ·exact ⟨by omega, L93, by have := zl0; have := h21_5.size; have := h22_5.size; omega, f94, f95⟩
   first | omega | (simp only []; omega)
  refine WC.condN rfl (decide_eq_false c4) ?_
  refine WC.exit (E.thenX (E.thenX (E.blkH (E.thenN (WC.sr (W.run 2 rfl (W.nx (WC.ret ?_))))))))
  refine E.retG1 rfl rfl ?_
  exact ⟨rfl, Ll0⟩
 refine W.a (.dec (.move rfl) (congrArg not ((Bool.eq_false_iff.2 q3_2)))) ?_
 refine W.run 4 rfl (W.nx (WC.condT rfl (WC.sr (W.run 2 rfl (W.nx (WC.ret (E.thenR ?_)))))))
 refine E.retG1 rfl rfl ?_
 exact ⟨rfl, L2⟩
end Go.Proofs.YtmkdeemjkcigkaaGreatDoor

