/- SplitOne: for every input the law answers true and leaves its arguments as they were. -/
import Derived.Test.YtocheaahlpiajaaGreatDoorSplitOneQ
import Derived.Shelf.Strconv.Itoa3
import Derived.Lib.ItoaLen
import Derived.Lib.AppendIntMem
set_option linter.unusedVariables false
set_option linter.unusedSimpArgs false
set_option maxRecDepth 20000
namespace Go.Proofs
open Go.Shelf
def Tryz.laysM171_ren : Go.Shelf.Ren := ⟨fun | 171 => 241 | 243 => 294 | 246 => 329 | 283 => 350 | 284 => 351 | 285 => 352 | 286 => 353 | 129 => 326 | 317 => 360 | 318 => 361 | 319 => 362 | 320 => 363 | 337 => 365 | 338 => 366 | n => n, fun | 3 => 3 | 9 => 9 | 2 => 2 | 4 => 4 | 171 => 398 | 0 => 0 | 53 => 27 | 37 => 26 | 5 => 5 | 173 => 400 | 212 => 410 | 51 => 273 | 20 => 20 | 213 => 411 | 46 => 287 | 232 => 29 | 233 => 413 | n => n, fun | 17 => 2 | 18 => 4 | 19 => 5 | n => n⟩
theorem Tryz.laysM171 : Go.Proofs.LaysM.n171 prog Tryz.laysM171_ren := {
  mixed := by kernel_rfl
  f129 := func326.trans (congrArg some (by kernel_rfl))
  f171 := func241.trans (congrArg some (by kernel_rfl))
  f243 := func294.trans (congrArg some (by kernel_rfl))
  f246 := func329.trans (congrArg some (by kernel_rfl))
  f283 := func350.trans (congrArg some (by kernel_rfl))
  f284 := func351.trans (congrArg some (by kernel_rfl))
  f285 := func352.trans (congrArg some (by kernel_rfl))
  f286 := func353.trans (congrArg some (by kernel_rfl))
  f317 := func360.trans (congrArg some (by kernel_rfl))
  f318 := func361.trans (congrArg some (by kernel_rfl))
  f319 := func362.trans (congrArg some (by kernel_rfl))
  f320 := func363.trans (congrArg some (by kernel_rfl))
  f337 := func365.trans (congrArg some (by kernel_rfl))
  f338 := func366.trans (congrArg some (by kernel_rfl))
  t0 := underlying0
  a0 := Tryz.isAgg0
  z0 := Tryz.sizeOf0
  v0 := Tryz.zeroValue0
  t2 := underlying2
  a2 := Tryz.isAgg2
  z2 := Tryz.sizeOf2
  v2 := Tryz.zeroValue2
  t3 := underlying3
  a3 := Tryz.isAgg3
  z3 := Tryz.sizeOf3
  v3 := Tryz.zeroValue3
  t4 := underlying4
  a4 := Tryz.isAgg4
  z4 := Tryz.sizeOf4
  v4 := Tryz.zeroValue4
  t5 := underlying5
  a5 := Tryz.isAgg5
  z5 := Tryz.sizeOf5
  v5 := Tryz.zeroValue5
  t9 := underlying9
  a9 := Tryz.isAgg9
  z9 := Tryz.sizeOf9
  v9 := Tryz.zeroValue9
  t20 := underlying20
  a20 := Tryz.isAgg20
  z20 := Tryz.sizeOf20
  v20 := Tryz.zeroValue20
  t37 := underlying26
  a37 := Tryz.isAgg26
  z37 := Tryz.sizeOf26
  v37 := Tryz.zeroValue26
  t46 := underlying287
  a46 := Tryz.isAgg287
  z46 := Tryz.sizeOf287
  v46 := Tryz.zeroValue287
  t51 := underlying273
  a51 := Tryz.isAgg273
  z51 := Tryz.sizeOf273
  v51 := Tryz.zeroValue273
  t53 := underlying27
  a53 := Tryz.isAgg27
  z53 := Tryz.sizeOf27
  v53 := Tryz.zeroValue27
  t171 := underlying398
  a171 := Tryz.isAgg398
  z171 := Tryz.sizeOf398
  v171 := Tryz.zeroValue398
  t173 := underlying400
  a173 := Tryz.isAgg400
  z173 := Tryz.sizeOf400
  v173 := Tryz.zeroValue400
  t212 := underlying410
  a212 := Tryz.isAgg410
  z212 := Tryz.sizeOf410
  v212 := Tryz.zeroValue410
  t213 := underlying411
  a213 := Tryz.isAgg411
  z213 := Tryz.sizeOf411
  t232 := underlying29
  a232 := Tryz.isAgg29
  z232 := Tryz.sizeOf29
  v232 := Tryz.zeroValue29
  t233 := underlying413
  a233 := Tryz.isAgg413
  z233 := Tryz.sizeOf413
  v233 := Tryz.zeroValue413
  g17 := by kernel_rfl
  g18 := by kernel_rfl
  g19 := by kernel_rfl
  i0 := by kernel_rfl
  i2 := by kernel_rfl
  i3 := by kernel_rfl
  i4 := by kernel_rfl
  i5 := by kernel_rfl
  i9 := by kernel_rfl
  i20 := by kernel_rfl
  i37 := by kernel_rfl
  i46 := by kernel_rfl
  i51 := by kernel_rfl
  i53 := by kernel_rfl
  i171 := by kernel_rfl
  i173 := by kernel_rfl
  i212 := by kernel_rfl
  i232 := by kernel_rfl
  i233 := by kernel_rfl
  m17 := by kernel_rfl
  m18 := by kernel_rfl
  m19 := by kernel_rfl }
end Go.Proofs
namespace Go.Proofs.YtocheaahlpiajaaGreatDoor
open Tryz
open Go Go.Sx Go.Nsp
def Tab (w : World) : Prop := Lib.TabIs prog w "internal/strconv.uint64pow10" .u64 Lib.pow10Tab
theorem Tab.le {w w' : World} (h : Tab w) (hl : Le w w') : Tab w' := Lib.tabBelow_of_tabIs h w' hl
theorem itoa_len {p : Nat} (h : p < 1000000000) : (Lib.itoa ((p : Nat) : Int)).length <= 21 := Lib.itoa_length_le _ (by omega) (by omega)
theorem itoa_ok (p : Nat) (w : World) (hT : Tab w) (h0 : 0 <= p) (h1 : p < 1000000000) : Calls prog 241 #[.int .i64 ((p : Nat) : Int)] w fun r w' => r = .returned (.string ⟨(Lib.itoa ((p : Nat) : Int)).toArray⟩) /\ Le w w' :=
  (Any.strconv_Itoa Tryz.laysM171 ((p : Nat) : Int) (by omega) (by omega) w hT).mono (by
    rintro _ w' ⟨rfl, k, os, rfl⟩
    exact ⟨rfl, Lib.below_grow _ w (Nat.le_refl _) k os⟩)
def textF (p q : Nat) : List UInt8 := if q = 1 then Lib.itoa ((p : Nat) : Int) else Lib.itoa ((p : Nat) : Int) ++ ([47] : List UInt8) ++ Lib.itoa ((q : Nat) : Int)
theorem digs_lots : digs 1000000000 = [1000000000] := by rw [digs_pos (by decide), show 1000000000 / B = 0 from rfl, digs_zero]; rfl
theorem ntext_ok {A : Option Addr} {n c p : Nat} (w : World) (hT : Tab w) (hV : Vec w dv 1 A n (digs p)) (hn : n <= 10000) (hp1 : p < 1000000000) : Calls prog 166 #[.slice A n c] w fun r w' => r = .returned (.string ⟨(Lib.itoa ((p : Nat) : Int)).toArray⟩) /\ Le w w' := by
 have hl := hV.1
 refine enter func166 rfl rfl ?_
 have L0 := Le.refl w
 refine WC.sr (W.run 1 rfl (W.nx (WC.sr (W.run 1 rfl ?_))))
 refine W.cl go211 rfl rfl (ntaken_ok w (hV.le L0) (by omega)) ?_
 rintro _ w1_1 ⟨rfl, h1_1⟩
 have L1 := L0.trans h1_1
 refine W.run 1 rfl (W.nx (WC.sr (W.run 1 rfl (W.nx (WC.block ?_)))))
 refine WC.loop (ι := Nat) (fun k => [(0, .slice A n c), (3, .string ⟨([] : List UInt8).toArray⟩)]) (fun k wl0 => Le w wl0 /\ w1_1.heap.size <= wl0.heap.size) (fun k => k) 0 ?_ ?_ ?_
 ·exact .cons rfl (.cons rfl (.nil _))
 ·exact ⟨L1, Nat.le_refl _⟩
 rintro k wl0 ⟨Ll0, zl0⟩
 refine WC.block (WC.sr (W.run 1 rfl (W.ef rfl rfl rfl ?_)))
 refine Ef.buildSliceV (len := 1) [_] underlying59 el273 rfl (by simp [Value.cells]) rfl (by decide) (by decide) ?_
 intro g3_1 w3_1 hg3_1 b3_1 h3_1
 have L2 := Ll0.trans h3_1
 have b3_1 : Blk w3_1 g3_1 273 (([1000000000]).map dv).flatten.toArray := b3_1
 have o3_1 : OVec w3_1 wl0.heap.size 273 dv 1 (some ⟨g3_1, 0, none⟩) 1 1 ([1000000000]) := b3_1.ovec hg3_1 dv_row rfl rfl (by decide)
 have o3 := o3_1.cast (m' := 1) (ys := (digs 1000000000)) (rfl) (digs_lots.symm)
 refine W.cl go209 rfl rfl (ndivmod_ok w3_1 (hV.le L2) o3.vec (by omega) (by omega) (by omega)) ?_
 rintro _ w3_2 ⟨Aq3_2, cq3_2, Ar3_2, cr3_2, rfl, oq3_2, or3_2, h3_2⟩
 have L4 := L2.trans h3_2
 refine W.run 7 rfl (W.nx (WC.sr (W.run 1 rfl ?_)))
 refine W.cl go240 rfl rfl (nint_ok w3_2 or3_2.vec (by omega)) ?_
 rintro _ w4_1 ⟨rfl, h4_1⟩
 have L5 := L4.trans h4_1
 refine W.run 5 rfl (W.nx (WC.sr (W.run 1 rfl ?_)))
 refine W.cl go241 rfl rfl (itoa_ok (p % 1000000000) w4_1 (hT.le L5) (by omega) (by omega)) ?_
 rintro _ w5_1 ⟨rfl, h5_1⟩
 have L6 := L5.trans h5_1
 refine W.run 1 rfl (W.nx (WC.seq (WC.sr (W.run 1 rfl ?_))))
 refine W.r (.len underlying59 rfl) ?_
 refine W.run 1 rfl (W.nx ?_)
 refine WC.condY rfl (decide_eq_true (by rw [Nat.div_eq_of_lt hp1, digs_zero]; rfl)) ?_
 refine WC.sr (W.run 2 rfl ?_)
 refine W.a (.addStr (a := Lib.itoa (((p % 1000000000) : Nat) : Int)) (b := ([] : List UInt8)) rfl rfl (Nat.le_trans (itoa_len (by omega)) (by decide)) (by decide)) ?_
 refine W.run 1 rfl (W.nx (WC.ret (E.thenR (E.blkR (E.thenR (E.blkR ?_))))))
 refine E.retG1 rfl rfl ?_
 exact ⟨congrArg (fun v => Ending.returned (Value.string ⟨List.toArray v⟩)) (by simp [show p % 1000000000 = p from Nat.mod_eq_of_lt hp1]), L6⟩

theorem ftext_ok {An Ad : Option Addr} {nn cn nd cd p q : Nat} (w : World) (hT : Tab w) (hn : Vec w dv 1 An nn (digs p)) (hd : Vec w dv 1 Ad nd (digs q)) (bn : nn <= 10000) (bd : nd <= 10000) (hok : okB p q = true) (hp1 : p < 1000000000) (hq1 : q < 1000000000) : Calls prog 71 #[.agg #[.slice An nn cn, .slice Ad nd cd]] w fun r w' => r = .returned (.string ⟨(textF p q).toArray⟩) /\ Le w w' := by
 have hln := hn.1; have hld := hd.1
 have h1l := digs_len_one (d := 1) (by decide)
 refine enter func71 rfl rfl ?_
 have L0 := Le.refl w
 refine WC.sr (W.ef rfl rfl rfl ?_)
 refine Ef.boxA rfl ?_
 intro g0_0 w0_0 hg0_0 b0_0 h0_0
 have L1 := L0.trans h0_0
 have b0_0 : Blk w0_0 g0_0 61 #[.slice An nn cn, .slice Ad nd cd] := b0_0
 refine W.run 1 rfl (W.nx (WC.sr ?_))
 refine W.r (.loadAll ag61 (by rfl) rfl b0_0) ?_
 refine W.cl go165 rfl rfl (ftaken_yes w0_0 (hn.le L1) (hd.le L1) (by omega) (by omega) hok) ?_
 rintro _ w1_1 ⟨rfl, h1_1⟩
 have L2 := L1.trans h1_1
 have f3 := (b0_0.le h1_1)
 refine W.sA sz61 rfl rfl f3 ?_
 intro w1_2 b1_2 h1_2
 have b1_2 : Blk w1_2 g0_0 61 #[.slice An nn cn, .slice Ad nd cd] := b1_2
 have L4 := L2.tb h1_2 L0 hg0_0
 refine W.nx (WC.seq (WC.seq ?_))
 refine WC.draw [0, 1, 2, 3, 4] mixed (by kernel_rfl) ?_
 intro w2 d2
 have L5 := L4.trans d2
 refine G.a rfl (.field0 fa61_1 rfl) ?_
 have f6 := (b1_2.le d2)
 refine G.r rfl (.loadB (v := .slice Ad nd cd) na59 rfl f6 rfl) ?_
 refine G.ef rfl rfl rfl rfl rfl ?_
 refine Ef.call go111 rfl rfl (fone_ok w2) ?_
 rintro _ w2_2 ⟨Ad2_2, cd2_2, rfl, o2_2, h2_2⟩
 refine ⟨_, rfl, ?_⟩
 refine ⟨fun _ => h2_2, ?_⟩
 have L7 := L5.trans h2_2
 refine G.ef rfl rfl rfl rfl rfl ?_
 refine Ef.call go109 rfl rfl (ncmp_ok w2_2 (hd.le L7) o2_2.vec (by omega) (by omega)) ?_
 rintro _ w2_3 ⟨rfl, h2_3⟩
 refine ⟨_, rfl, ?_⟩
 refine ⟨fun _ => h2_3, ?_⟩
 have L8 := L7.trans h2_3
 refine G.run 1 rfl (G.nil (E.thenN ?_))
 by_cases c0 : (cmpN q 1) = 0
 ·refine WC.condY rfl (decide_eq_true c0) ?_
  refine WC.sr ?_
  refine W.a (.field0 fa61_0 rfl) ?_
  have f9 := (f6.le (h2_2.trans h2_3))
  refine W.r (.loadB (v := .slice An nn cn) na59 rfl f9 rfl) ?_
  refine W.cl go166 rfl rfl (ntext_ok w2_3 (hT.le L8) (hn.le L8) (by omega) (by omega)) ?_
  rintro _ w3_2 ⟨rfl, h3_2⟩
  have L10 := L8.trans h3_2
  refine W.run 1 rfl (W.nx (WC.ret (E.thenR ?_)))
  refine E.retG1 rfl rfl ?_
  exact ⟨congrArg (fun v => Ending.returned (Value.string ⟨List.toArray v⟩)) (by unfold textF; first | rw [if_pos (cmpN_eq.1 (by assumption))] | rw [if_neg (fun h => absurd (cmpN_eq.2 h) (by assumption))]), L10⟩
 refine WC.condN rfl (decide_eq_false c0) ?_
 refine WC.sn (WC.seq ?_)
 refine WC.draw [0, 1, 4, 5, 2, 3, 6, 7, 8] mixed (by kernel_rfl) ?_
 intro w4 d4
 have L11 := L8.trans d4
 refine G.a rfl (.field0 fa61_0 rfl) ?_
 have f12 := (f6.le (h2_2.trans (h2_3.trans d4)))
 refine G.r rfl (.loadB (v := .slice An nn cn) na59 rfl f12 rfl) ?_
 refine G.a rfl (.field0 fa61_1 rfl) ?_
 refine G.r rfl (.loadB (v := .slice Ad nd cd) na59 rfl f12 rfl) ?_
 refine G.ef rfl rfl rfl rfl rfl ?_
 refine Ef.call go166 rfl rfl (ntext_ok w4 (hT.le L11) (hn.le L11) (by omega) (by omega)) ?_
 rintro _ w4_2 ⟨rfl, h4_2⟩
 refine ⟨_, rfl, ?_⟩
 refine ⟨fun _ => h4_2, ?_⟩
 have L13 := L11.trans h4_2
 refine G.a rfl (.addStr (a := Lib.itoa ((p : Nat) : Int)) (b := ([47] : List UInt8)) rfl rfl (Nat.le_trans (itoa_len (by omega)) (by decide)) (by decide)) ?_
 refine G.ef rfl rfl rfl rfl rfl ?_
 refine Ef.call go166 rfl rfl (ntext_ok w4_2 (hT.le L13) (hd.le L13) (by omega) (by omega)) ?_
 rintro _ w4_6 ⟨rfl, h4_6⟩
 refine ⟨_, rfl, ?_⟩
 refine ⟨fun _ => h4_6, ?_⟩
 have L14 := L13.trans h4_6
 refine G.a rfl (.addStr (a := (Lib.itoa ((p : Nat) : Int)) ++ ([47] : List UInt8)) (b := Lib.itoa ((q : Nat) : Int)) rfl rfl (by have := itoa_len (p := p) (by omega); simp only [List.length_append, List.length_cons, List.length_nil]; omega) (Nat.le_trans (itoa_len (by omega)) (by decide))) ?_
 refine G.run 1 rfl (G.nil (E.thenN (WC.ret ?_)))
 refine E.retG1 rfl rfl ?_
 exact ⟨congrArg (fun v => Ending.returned (Value.string ⟨List.toArray v⟩)) (by unfold textF; first | rw [if_pos (cmpN_eq.1 (by assumption))] | rw [if_neg (fun h => absurd (cmpN_eq.2 h) (by assumption))]), L14⟩
end Go.Proofs.YtocheaahlpiajaaGreatDoor

namespace Go.Proofs.YtocheaahlpiajaaGreatDoor
open Tryz
open Go Go.Sx Go.Hsp Go.Num Go.Osp Go.Gsp Go.Nsp Go.Msp Go.Rtp
set_option maxRecDepth 20000
def sE (c f t r m : Int) : Gsp.Edge := ⟨f, t, c, r, ⟨0, 0, 5, 1, m⟩⟩
def sG : List Gsp.Edge := [sE 0 0 1 99 60, sE 1 0 1 49 49]
def sM0 : MF := fun _ => none
structure Sm1 (b : List Prt × Fr × Int) : Prop where
  len : b.1.length = 2
  amt : (b.1.getD 0 noPrt).amt = 40
  w0 : (b.1.getD 0 noPrt).way = [sE 0 0 1 99 60]
  w1 : (b.1.getD 1 noPrt).way = [sE 0 0 1 99 60]
  on : b.2.1.n = 1
  od : b.2.1.d = 5
  e : b.2.2 = 0
  t : totP b.1 = 80
  ok : b.1.length <= 8 /\ ∀ p ∈ b.1, ∀ s ∈ p.sent, 0 <= s /\ s <= 1125899906842624
theorem sp1 : Sm1 (splitG sG sM0 0 1 80 50 2) := ⟨by decide +kernel, by decide +kernel, by decide +kernel, by decide +kernel, by decide +kernel, by decide +kernel, by decide +kernel, by decide +kernel, by decide +kernel⟩
theorem sp2 : (splitG sG sM0 0 1 80 50 1).2.2 = 19 := by decide +kernel
theorem sp3 : (splitG sG sM0 0 1 80 50 0).2.2 = 1 := by decide +kernel
theorem sp4 : (splitG sG sM0 0 0 80 50 2).2.2 = 1 := by decide +kernel
structure Sm5 (b : List Prt × Fr × Int) : Prop where
  len : b.1.length = 1
  w0 : (b.1.getD 0 noPrt).way = [sE 0 0 1 99 60]
  on : b.2.1.n = 7
  od : b.2.1.d = 10
  e : b.2.2 = 0
theorem sp5 : Sm5 (tryG sG sM0 0 1 30 50 1) := ⟨by decide +kernel, by decide +kernel, by decide +kernel, by decide +kernel, by decide +kernel⟩
theorem stx3 : textF 1 5 = [49, 47, 53] := by simp [textF, Lib.itoa, Lib.decDigits]
theorem stx4 : textF 7 10 = [55, 47, 49, 48] := by simp [textF, Lib.itoa, Lib.decDigits]
theorem plansL_nil (s : Nat) (seed : List Byte) : plansL s seed [] = [] := by
  unfold plansL
  split <;> rfl
set_option maxHeartbeats 4000000 in
theorem small39_ok (w : World) (hT : Tab w) : Calls prog 13 #[] w fun r w' => r = .returned (.bool true) /\ Le w w' := by
 have hq1 := digs_len_one (d := 1) (by decide); have hq2 := digs_len_one (d := 5) (by decide); have hq3 := digs_len_one (d := 7) (by decide); have hq4 := digs_len_one (d := 10) (by decide)
 refine enter func13 rfl rfl ?_
 have L0 := Le.refl w
 refine WC.sr (W.run 1 rfl (W.nx (WC.sr ?_)))
 refine W.cl go43 rfl rfl (edge39_ok 0 0 1 99 60 w) ?_
 rintro _ w1_0 ⟨rfl, h1_0⟩
 have L1 := L0.trans h1_0
 refine W.cl go43 rfl rfl (edge39_ok 1 0 1 49 49 w1_0) ?_
 rintro _ w1_1 ⟨rfl, h1_1⟩
 have L2 := L1.trans h1_1
 refine W.ef rfl rfl rfl ?_
 refine Ef.buildSliceV (len := 2) [_, _] underlying32 el81 rfl (by simp [Value.cells, edgeV_row.len]) rfl (by decide) (by decide) ?_
 intro g1_2 w1_2 hg1_2 b1_2 h1_2
 have L3 := L2.trans h1_2
 have b1_2 : Blk w1_2 g1_2 81 (([(sE 0 0 1 99 60), (sE 1 0 1 49 49)]).map edgeV).flatten.toArray := b1_2
 have o1_2 : OVec w1_2 w1_1.heap.size 81 edgeV 9 (some ⟨g1_2, 0, none⟩) 2 2 ([(sE 0 0 1 99 60), (sE 1 0 1 49 49)]) := b1_2.ovec hg1_2 edgeV_row rfl rfl (by decide)
 have o4 := o1_2.cast (m' := 2) (ys := sG) (rfl) (rfl)
 refine W.run 1 rfl (W.nx (WC.sr ?_))
 refine W.cl go64 rfl rfl (new_mind w1_2) ?_
 rintro _ w2_0 ⟨gp2_0, F2_0, rfl, p2_0, h2_0⟩
 have L5 := L3.trans h2_0
 refine W.run 1 rfl (W.nx (WC.seq (WC.sr (W.run 1 rfl ?_))))
 refine W.a (.dec (.isNilP (by kernel_rfl) rfl) rfl) ?_
 refine W.nx (WC.condF rfl (WC.sn (WC.sr (W.run 2 rfl ?_))))
 have f6 := (o4.le h2_0)
 obtain ⟨b1, heb1⟩ : ∃ z, z = (splitG sG (fun _ => none : MF) 0 1 80 50 2) := ⟨_, rfl⟩
 have hlb1 := splitG_len (g := sG) (m := (fun _ => none : MF)) (fr := 0) (to := 1) (a := 80) (x := 50) (n := 2) (show GoodM (fun _ => none) from none_good)
 rw [<- heb1] at hlb1; unfold LenF at hlb1
 refine W.cl go30 rfl rfl ((by have k := spbest_ok (c := 2) 0 1 80 50 2 w2_0 p2_0 f6.vec (by omega) (by decide); rw [<- heb1] at k; exact k)) ?_
 rintro _ w5_2 ⟨Ap5_2, cp5_2, rs5_2, An5_2, cn5_2, Ad5_2, cd5_2, rfl, op5_2, pa5_2, on5_2, od5_2, hz5_2, h5_2⟩
 have L7 := L5.trans h5_2
 have hr5_2 := pa5_2.1
 have sb1 : Sm1 b1 := heb1 ▸ sp1
 have sb1 : Sm1 b1 := heb1 ▸ sp1
 refine W.run 1 rfl ?_
 refine W.a (.extract (v := .slice Ap5_2 b1.1.length cp5_2) rfl rfl) ?_
 refine W.a (.extract (v := .agg #[.slice An5_2 ((digs b1.2.1.n).length) cn5_2, .slice Ad5_2 ((digs b1.2.1.d).length) cd5_2]) rfl rfl) ?_
 refine W.a (.extract (v := .int .i64 (b1.2.2)) rfl rfl) ?_
 refine W.ef rfl rfl rfl ?_
 refine Ef.allocA z61 ?_
 intro g5_7 w5_7 hg5_7 b5_7 h5_7
 have L8 := L7.trans h5_7
 have b5_7 : Blk w5_7 g5_7 61 #[.slice none 0 0, .slice none 0 0] := b5_7
 refine W.run 1 rfl ?_
 refine W.sA sz61 rfl rfl b5_7 ?_
 intro w5_9 b5_9 h5_9
 have b5_9 : Blk w5_9 g5_7 61 #[.slice An5_2 ((digs b1.2.1.n).length) cn5_2, .slice Ad5_2 ((digs b1.2.1.d).length) cd5_2] := b5_9
 have L9 := L8.tb h5_9 L7 hg5_7
 refine W.run 1 rfl (W.nx (WC.sr (W.run 2 rfl ?_)))
 have f10 := ((p2_0.le (h5_2.trans h5_7)).ch h5_9 (fun q hqq hF => by cases hqq; have := p2_0.lt hF; have := h5_2.size; have := hg5_7; omega))
 have f11 := ((f6.le (h5_2.trans h5_7)).ch h5_9 (fun q hq => by cases hq; exact (fun he => by have := (f6.row he).2; have := h5_2.size; omega)))
 obtain ⟨b2, heb2⟩ : ∃ z, z = (splitG sG (fun _ => none : MF) 0 1 80 50 1) := ⟨_, rfl⟩
 have hlb2 := splitG_len (g := sG) (m := (fun _ => none : MF)) (fr := 0) (to := 1) (a := 80) (x := 50) (n := 1) (show GoodM (fun _ => none) from none_good)
 rw [<- heb2] at hlb2; unfold LenF at hlb2
 refine W.cl go30 rfl rfl ((by have k := spbest_ok (c := 2) 0 1 80 50 1 w5_9 f10 f11.vec (by omega) (by decide); rw [<- heb2] at k; exact k)) ?_
 rintro _ w6_2 ⟨Ap6_2, cp6_2, rs6_2, An6_2, cn6_2, Ad6_2, cd6_2, rfl, op6_2, pa6_2, on6_2, od6_2, hz6_2, h6_2⟩
 have L12 := L9.trans h6_2
 have hr6_2 := pa6_2.1
 have sb2 : b2.2.2 = 19 := heb2 ▸ sp2
 have sb2 : b2.2.2 = 19 := heb2 ▸ sp2
 refine W.run 1 rfl ?_
 refine W.a (.extract (v := .slice Ap6_2 b2.1.length cp6_2) rfl rfl) ?_
 refine W.a (.extract (v := .agg #[.slice An6_2 ((digs b2.2.1.n).length) cn6_2, .slice Ad6_2 ((digs b2.2.1.d).length) cd6_2]) rfl rfl) ?_
 refine W.a (.extract (v := .int .i64 (b2.2.2)) rfl rfl) ?_
 refine W.ef rfl rfl rfl ?_
 refine Ef.allocA z61 ?_
 intro g6_7 w6_7 hg6_7 b6_7 h6_7
 have L13 := L12.trans h6_7
 have b6_7 : Blk w6_7 g6_7 61 #[.slice none 0 0, .slice none 0 0] := b6_7
 refine W.run 1 rfl ?_
 refine W.sA sz61 rfl rfl b6_7 ?_
 intro w6_9 b6_9 h6_9
 have L14 := L13.tb h6_9 L12 hg6_7
 refine W.run 1 rfl (W.nx (WC.sr (W.run 2 rfl ?_)))
 have f15 := ((f10.le (h6_2.trans h6_7)).ch h6_9 (fun q hqq hF => by cases hqq; have := f10.lt hF; have := h6_2.size; have := hg6_7; omega))
 have f16 := ((f11.le (h6_2.trans h6_7)).ch h6_9 (fun q hq => by cases hq; exact (fun he => by have := (f11.row he).2; have := h6_2.size; omega)))
 obtain ⟨b3, heb3⟩ : ∃ z, z = (splitG sG (fun _ => none : MF) 0 1 80 50 0) := ⟨_, rfl⟩
 have hlb3 := splitG_len (g := sG) (m := (fun _ => none : MF)) (fr := 0) (to := 1) (a := 80) (x := 50) (n := 0) (show GoodM (fun _ => none) from none_good)
 rw [<- heb3] at hlb3; unfold LenF at hlb3
 refine W.cl go30 rfl rfl ((by have k := spbest_ok (c := 2) 0 1 80 50 0 w6_9 f15 f16.vec (by omega) (by decide); rw [<- heb3] at k; exact k)) ?_
 rintro _ w7_2 ⟨Ap7_2, cp7_2, rs7_2, An7_2, cn7_2, Ad7_2, cd7_2, rfl, op7_2, pa7_2, on7_2, od7_2, hz7_2, h7_2⟩
 have L17 := L14.trans h7_2
 have hr7_2 := pa7_2.1
 have sb3 : b3.2.2 = 1 := heb3 ▸ sp3
 have sb3 : b3.2.2 = 1 := heb3 ▸ sp3
 refine W.run 1 rfl ?_
 refine W.a (.extract (v := .slice Ap7_2 b3.1.length cp7_2) rfl rfl) ?_
 refine W.a (.extract (v := .agg #[.slice An7_2 ((digs b3.2.1.n).length) cn7_2, .slice Ad7_2 ((digs b3.2.1.d).length) cd7_2]) rfl rfl) ?_
 refine W.a (.extract (v := .int .i64 (b3.2.2)) rfl rfl) ?_
 refine W.ef rfl rfl rfl ?_
 refine Ef.allocA z61 ?_
 intro g7_7 w7_7 hg7_7 b7_7 h7_7
 have L18 := L17.trans h7_7
 have b7_7 : Blk w7_7 g7_7 61 #[.slice none 0 0, .slice none 0 0] := b7_7
 refine W.run 1 rfl ?_
 refine W.sA sz61 rfl rfl b7_7 ?_
 intro w7_9 b7_9 h7_9
 have L19 := L18.tb h7_9 L17 hg7_7
 refine W.run 1 rfl (W.nx (WC.sr (W.run 2 rfl ?_)))
 have f20 := ((f15.le (h7_2.trans h7_7)).ch h7_9 (fun q hqq hF => by cases hqq; have := f15.lt hF; have := h7_2.size; have := hg7_7; omega))
 have f21 := ((f16.le (h7_2.trans h7_7)).ch h7_9 (fun q hq => by cases hq; exact (fun he => by have := (f16.row he).2; have := h7_2.size; omega)))
 obtain ⟨b4, heb4⟩ : ∃ z, z = (splitG sG (fun _ => none : MF) 0 0 80 50 2) := ⟨_, rfl⟩
 have hlb4 := splitG_len (g := sG) (m := (fun _ => none : MF)) (fr := 0) (to := 0) (a := 80) (x := 50) (n := 2) (show GoodM (fun _ => none) from none_good)
 rw [<- heb4] at hlb4; unfold LenF at hlb4
 refine W.cl go30 rfl rfl ((by have k := spbest_ok (c := 2) 0 0 80 50 2 w7_9 f20 f21.vec (by omega) (by decide); rw [<- heb4] at k; exact k)) ?_
 rintro _ w8_2 ⟨Ap8_2, cp8_2, rs8_2, An8_2, cn8_2, Ad8_2, cd8_2, rfl, op8_2, pa8_2, on8_2, od8_2, hz8_2, h8_2⟩
 have L22 := L19.trans h8_2
 have hr8_2 := pa8_2.1
 have sb4 : b4.2.2 = 1 := heb4 ▸ sp4
 have sb4 : b4.2.2 = 1 := heb4 ▸ sp4
 refine W.run 1 rfl ?_
 refine W.a (.extract (v := .slice Ap8_2 b4.1.length cp8_2) rfl rfl) ?_
 refine W.a (.extract (v := .agg #[.slice An8_2 ((digs b4.2.1.n).length) cn8_2, .slice Ad8_2 ((digs b4.2.1.d).length) cd8_2]) rfl rfl) ?_
 refine W.a (.extract (v := .int .i64 (b4.2.2)) rfl rfl) ?_
 refine W.ef rfl rfl rfl ?_
 refine Ef.allocA z61 ?_
 intro g8_7 w8_7 hg8_7 b8_7 h8_7
 have L23 := L22.trans h8_7
 have b8_7 : Blk w8_7 g8_7 61 #[.slice none 0 0, .slice none 0 0] := b8_7
 refine W.run 1 rfl ?_
 refine W.sA sz61 rfl rfl b8_7 ?_
 intro w8_9 b8_9 h8_9
 have L24 := L23.tb h8_9 L22 hg8_7
 refine W.run 1 rfl (W.nx (WC.sr (W.run 2 rfl ?_)))
 have f25 := ((f20.le (h8_2.trans h8_7)).ch h8_9 (fun q hqq hF => by cases hqq; have := f20.lt hF; have := h8_2.size; have := hg8_7; omega))
 have f26 := ((f21.le (h8_2.trans h8_7)).ch h8_9 (fun q hq => by cases hq; exact (fun he => by have := (f21.row he).2; have := h8_2.size; omega)))
 obtain ⟨b5, heb5⟩ : ∃ z, z = (tryG sG (fun _ => none : MF) 0 1 30 50 1) := ⟨_, rfl⟩
 have hlb5 := tryG_len (g := sG) (m := (fun _ => none : MF)) (fr := 0) (to := 1) (a := 30) (x := 50) (n := 1) (show GoodM (fun _ => none) from none_good)
 rw [<- heb5] at hlb5; unfold LenF at hlb5
 refine W.cl go28 rfl rfl ((by have k := sptry_ok (c := 2) 0 1 30 50 1 w8_9 f25 f26.vec (by omega) (by decide); rw [<- heb5] at k; exact k)) ?_
 rintro _ w9_2 ⟨Ap9_2, cp9_2, rs9_2, An9_2, cn9_2, Ad9_2, cd9_2, rfl, op9_2, pa9_2, on9_2, od9_2, hz9_2, h9_2⟩
 have L27 := L24.trans h9_2
 have hr9_2 := pa9_2.1
 have sb5 : Sm5 b5 := heb5 ▸ sp5
 have sb5 : Sm5 b5 := heb5 ▸ sp5
 refine W.run 1 rfl ?_
 refine W.a (.extract (v := .slice Ap9_2 b5.1.length cp9_2) rfl rfl) ?_
 refine W.a (.extract (v := .agg #[.slice An9_2 ((digs b5.2.1.n).length) cn9_2, .slice Ad9_2 ((digs b5.2.1.d).length) cd9_2]) rfl rfl) ?_
 refine W.a (.extract (v := .int .i64 (b5.2.2)) rfl rfl) ?_
 refine W.ef rfl rfl rfl ?_
 refine Ef.allocA z61 ?_
 intro g9_7 w9_7 hg9_7 b9_7 h9_7
 have L28 := L27.trans h9_7
 have b9_7 : Blk w9_7 g9_7 61 #[.slice none 0 0, .slice none 0 0] := b9_7
 refine W.run 1 rfl ?_
 refine W.sA sz61 rfl rfl b9_7 ?_
 intro w9_9 b9_9 h9_9
 have b9_9 : Blk w9_9 g9_7 61 #[.slice An9_2 ((digs b5.2.1.n).length) cn9_2, .slice Ad9_2 ((digs b5.2.1.d).length) cd9_2] := b9_9
 have L29 := L28.tb h9_9 L27 hg9_7
 refine W.run 1 rfl (W.nx (WC.seq (WC.sr ?_)))
 have l1 := sb1.len; have l5 := sb5.len
 have f30 := ((((((((((pa5_2.le h5_7).chB h5_9 b5_7 (by decide) (by decide)).le (h6_2.trans h6_7)).chB h6_9 b6_7 (by decide) (by decide)).le (h7_2.trans h7_7)).chB h7_9 b7_7 (by decide) (by decide)).le (h8_2.trans h8_7)).chB h8_9 b8_7 (by decide) (by decide)).le (h9_2.trans h9_7)).chB h9_9 b9_7 (by decide) (by decide))
 have pa := f30.2 0 (by omega)
 have paa := pa.amt; have paw := pa.way.1; have pas := pa.sent.1; have pat := pa.till.1
 have pb := f30.2 1 (by omega)
 have pba := pb.amt; have pbw := pb.way.1; have pbs := pb.sent.1; have pbt := pb.till.1
 have f31 := ((pa9_2.le h9_7).chB h9_9 b9_7 (by decide) (by decide))
 have pc := f31.2 0 (by omega)
 have pca := pc.amt; have pcw := pc.way.1; have pcs := pc.sent.1; have pct := pc.till.1
 have w0l : (b1.1.getD 0 noPrt).way.length = 1 := by rw [sb1.w0]; rfl
 have w1l : (b1.1.getD 1 noPrt).way.length = 1 := by rw [sb1.w1]; rfl
 have w5l : (b5.1.getD 0 noPrt).way.length = 1 := by rw [sb5.w0]; rfl
 refine W.run 1 rfl ?_
 refine W.r (.len underlying31 rfl) ?_
 refine W.a (.dec (.neq rfl rfl) (decide_eq_false (by omega))) ?_
 refine W.run 2 rfl ?_
 refine W.g (Any.rd (.idxS (0) underlying31 sz34 rfl rfl (op5_2.vec.isSome prV_row (by omega)) (rfl) (by omega)) _) ?_
 refine W.g (Any.rd (.vfield fa34_1 (op5_2.vec.isSome prV_row (by omega)) rfl) _) ?_
 have f32 := ((((((((((op5_2.le h5_7).ch h5_9 (fun q hq => by cases hq; exact (fun he => by have := (op5_2.row he).2; omega))).le (h6_2.trans h6_7)).ch h6_9 (fun q hq => by cases hq; exact (fun he => by have := (op5_2.row he).2; have := h5_7.size; have := h5_9.size; have := h6_2.size; omega))).le (h7_2.trans h7_7)).ch h7_9 (fun q hq => by cases hq; exact (fun he => by have := (op5_2.row he).2; have := h5_7.size; have := h5_9.size; have := h6_2.size; have := h6_7.size; have := h6_9.size; have := h7_2.size; omega))).le (h8_2.trans h8_7)).ch h8_9 (fun q hq => by cases hq; exact (fun he => by have := (op5_2.row he).2; have := h5_7.size; have := h5_9.size; have := h6_2.size; have := h6_7.size; have := h6_9.size; have := h7_2.size; have := h7_7.size; have := h7_9.size; have := h8_2.size; omega))).le (h9_2.trans h9_7)).ch h9_9 (fun q hq => by cases hq; exact (fun he => by have := (op5_2.row he).2; have := h5_7.size; have := h5_9.size; have := h6_2.size; have := h6_7.size; have := h6_9.size; have := h7_2.size; have := h7_7.size; have := h7_9.size; have := h8_2.size; have := h8_7.size; have := h8_9.size; have := h9_2.size; omega)))
 refine W.g (.vcell (j := 0) (o := 1) (v := .slice ((rs5_2.getD 0 noPaR).wA) ((rs5_2.getD 0 noPaR).wN) ((rs5_2.getD 0 noPaR).wC)) na32 rfl f32.vec prV_row (getS rs5_2 noPaR (by omega)) rfl) ?_
 refine W.g (.len underlying32 rfl) ?_
 refine W.g (Any.rd (.dec (.neq rfl rfl) (decide_eq_false (by omega))) _) ?_
 refine W.run 3 rfl ?_
 refine W.g (Any.rd (.idxS (1) underlying31 sz34 rfl rfl (op5_2.vec.isSome prV_row (by omega)) (rfl) (by omega)) _) ?_
 refine W.g (Any.rd (.vfield fa34_1 (op5_2.vec.isSome prV_row (by omega)) rfl) _) ?_
 refine W.g (.vcell (j := 1) (o := 1) (v := .slice ((rs5_2.getD 1 noPaR).wA) ((rs5_2.getD 1 noPaR).wN) ((rs5_2.getD 1 noPaR).wC)) na32 rfl f32.vec prV_row (getS rs5_2 noPaR (by omega)) rfl) ?_
 refine W.g (.len underlying32 rfl) ?_
 refine W.g (Any.rd (.dec (.neq rfl rfl) (decide_eq_false (by omega))) _) ?_
 refine W.run 3 rfl ?_
 refine W.g (.len underlying31 rfl) ?_
 refine W.g (Any.rd (.dec (.neq rfl rfl) (decide_eq_false (by omega))) _) ?_
 refine W.run 3 rfl ?_
 refine W.g (Any.rd (.idxS (0) underlying31 sz34 rfl rfl (op9_2.vec.isSome prV_row (by omega)) (rfl) (by omega)) _) ?_
 refine W.g (Any.rd (.vfield fa34_1 (op9_2.vec.isSome prV_row (by omega)) rfl) _) ?_
 have f33 := ((op9_2.le h9_7).ch h9_9 (fun q hq => by cases hq; exact (fun he => by have := (op9_2.row he).2; omega)))
 refine W.g (.vcell (j := 0) (o := 1) (v := .slice ((rs9_2.getD 0 noPaR).wA) ((rs9_2.getD 0 noPaR).wN) ((rs9_2.getD 0 noPaR).wC)) na32 rfl f33.vec prV_row (getS rs9_2 noPaR (by omega)) rfl) ?_
 refine W.g (.len underlying32 rfl) ?_
 refine W.g (Any.rd (.dec (.neq rfl rfl) (decide_eq_false (by omega))) _) ?_
 refine W.run 1 rfl (W.nx (WC.condF rfl (WC.sn (WC.sr (W.run 1 rfl ?_)))))
 refine W.a (.idxS (0) underlying31 sz34 rfl rfl (op5_2.vec.isSome prV_row (by omega)) (rfl) (by omega)) ?_
 refine W.a (.vfield fa34_0 (op5_2.vec.isSome prV_row (by omega)) rfl) ?_
 refine W.r (.vcell (j := 0) (o := 0) (v := .int .i64 ((rs5_2.getD 0 noPaR).amt)) na3 rfl f32.vec prV_row (getS rs5_2 noPaR (by omega)) rfl) ?_
 refine W.a (.dec (.eql rfl rfl) (decide_eq_true (by rw [paa]; exact sb1.amt))) ?_
 refine W.run 2 rfl ?_
 refine W.g (Any.rd (.idxS (0) underlying31 sz34 rfl rfl (op5_2.vec.isSome prV_row (by omega)) (rfl) (by omega)) _) ?_
 refine W.g (Any.rd (.vfield fa34_1 (op5_2.vec.isSome prV_row (by omega)) rfl) _) ?_
 refine W.g (.vcell (j := 0) (o := 1) (v := .slice ((rs5_2.getD 0 noPaR).wA) ((rs5_2.getD 0 noPaR).wN) ((rs5_2.getD 0 noPaR).wC)) na32 rfl f32.vec prV_row (getS rs5_2 noPaR (by omega)) rfl) ?_
 refine W.g (Any.rd (.idxS (0) underlying32 sz81 rfl rfl (pa.way.vec.isSome edgeV_row (by omega)) (rfl) (by omega)) _) ?_
 refine W.g (Any.rd (.vfield fa81_2 (pa.way.vec.isSome edgeV_row (by omega)) rfl) _) ?_
 refine W.g (.vcell (j := 0) (o := 2) (v := .int .i64 ((((b1.1.getD 0 noPrt).way).getD 0 noEdge).c)) na3 rfl pa.way.vec edgeV_row (getS ((b1.1.getD 0 noPrt).way) noEdge (by first | omega | (simp only [List.length_cons, List.length_nil]; omega))) rfl) ?_
 refine W.g (Any.rd (.dec (.eql rfl rfl) (decide_eq_true (by rw [sb1.w0]; rfl))) _) ?_
 refine W.run 3 rfl ?_
 refine W.g (Any.rd (.idxS (1) underlying31 sz34 rfl rfl (op5_2.vec.isSome prV_row (by omega)) (rfl) (by omega)) _) ?_
 refine W.g (Any.rd (.vfield fa34_1 (op5_2.vec.isSome prV_row (by omega)) rfl) _) ?_
 refine W.g (.vcell (j := 1) (o := 1) (v := .slice ((rs5_2.getD 1 noPaR).wA) ((rs5_2.getD 1 noPaR).wN) ((rs5_2.getD 1 noPaR).wC)) na32 rfl f32.vec prV_row (getS rs5_2 noPaR (by omega)) rfl) ?_
 refine W.g (Any.rd (.idxS (0) underlying32 sz81 rfl rfl (pb.way.vec.isSome edgeV_row (by omega)) (rfl) (by omega)) _) ?_
 refine W.g (Any.rd (.vfield fa81_2 (pb.way.vec.isSome edgeV_row (by omega)) rfl) _) ?_
 refine W.g (.vcell (j := 0) (o := 2) (v := .int .i64 ((((b1.1.getD 1 noPrt).way).getD 0 noEdge).c)) na3 rfl pb.way.vec edgeV_row (getS ((b1.1.getD 1 noPrt).way) noEdge (by first | omega | (simp only [List.length_cons, List.length_nil]; omega))) rfl) ?_
 refine W.g (Any.rd (.dec (.eql rfl rfl) (decide_eq_true (by rw [sb1.w1]; rfl))) _) ?_
 refine W.run 2 rfl ?_
 have f34 := ((((((((b5_9.le (h6_2.trans h6_7)).ch h6_9 (fun h => (show g6_7 ≠ g5_7 from by have := b5_9.lt; have := h6_2.size; omega) (Option.some.inj h))).le (h7_2.trans h7_7)).ch h7_9 (fun h => (show g7_7 ≠ g5_7 from by have := b5_9.lt; have := h6_2.size; have := h6_7.size; have := h6_9.size; have := h7_2.size; omega) (Option.some.inj h))).le (h8_2.trans h8_7)).ch h8_9 (fun h => (show g8_7 ≠ g5_7 from by have := b5_9.lt; have := h6_2.size; have := h6_7.size; have := h6_9.size; have := h7_2.size; have := h7_7.size; have := h7_9.size; have := h8_2.size; omega) (Option.some.inj h))).le (h9_2.trans h9_7)).ch h9_9 (fun h => (show g9_7 ≠ g5_7 from by have := b5_9.lt; have := h6_2.size; have := h6_7.size; have := h6_9.size; have := h7_2.size; have := h7_7.size; have := h7_9.size; have := h8_2.size; have := h8_7.size; have := h8_9.size; have := h9_2.size; omega) (Option.some.inj h)))
 refine W.g (.loadAll ag61 (by rfl) rfl f34) ?_
 have f35 := ((((((((((on5_2.le h5_7).ch h5_9 (fun q hq => by cases hq; exact (fun he => by have := (on5_2.row he).2; omega))).le (h6_2.trans h6_7)).ch h6_9 (fun q hq => by cases hq; exact (fun he => by have := (on5_2.row he).2; have := h5_7.size; have := h5_9.size; have := h6_2.size; omega))).le (h7_2.trans h7_7)).ch h7_9 (fun q hq => by cases hq; exact (fun he => by have := (on5_2.row he).2; have := h5_7.size; have := h5_9.size; have := h6_2.size; have := h6_7.size; have := h6_9.size; have := h7_2.size; omega))).le (h8_2.trans h8_7)).ch h8_9 (fun q hq => by cases hq; exact (fun he => by have := (on5_2.row he).2; have := h5_7.size; have := h5_9.size; have := h6_2.size; have := h6_7.size; have := h6_9.size; have := h7_2.size; have := h7_7.size; have := h7_9.size; have := h8_2.size; omega))).le (h9_2.trans h9_7)).ch h9_9 (fun q hq => by cases hq; exact (fun he => by have := (on5_2.row he).2; have := h5_7.size; have := h5_9.size; have := h6_2.size; have := h6_7.size; have := h6_9.size; have := h7_2.size; have := h7_7.size; have := h7_9.size; have := h8_2.size; have := h8_7.size; have := h8_9.size; have := h9_2.size; omega)))
 have f36 := ((((((((((od5_2.le h5_7).ch h5_9 (fun q hq => by cases hq; exact (fun he => by have := (od5_2.row he).2; omega))).le (h6_2.trans h6_7)).ch h6_9 (fun q hq => by cases hq; exact (fun he => by have := (od5_2.row he).2; have := h5_7.size; have := h5_9.size; have := h6_2.size; omega))).le (h7_2.trans h7_7)).ch h7_9 (fun q hq => by cases hq; exact (fun he => by have := (od5_2.row he).2; have := h5_7.size; have := h5_9.size; have := h6_2.size; have := h6_7.size; have := h6_9.size; have := h7_2.size; omega))).le (h8_2.trans h8_7)).ch h8_9 (fun q hq => by cases hq; exact (fun he => by have := (od5_2.row he).2; have := h5_7.size; have := h5_9.size; have := h6_2.size; have := h6_7.size; have := h6_9.size; have := h7_2.size; have := h7_7.size; have := h7_9.size; have := h8_2.size; omega))).le (h9_2.trans h9_7)).ch h9_9 (fun q hq => by cases hq; exact (fun he => by have := (od5_2.row he).2; have := h5_7.size; have := h5_9.size; have := h6_2.size; have := h6_7.size; have := h6_9.size; have := h7_2.size; have := h7_7.size; have := h7_9.size; have := h8_2.size; have := h8_7.size; have := h8_9.size; have := h9_2.size; omega)))
 refine W.efg rfl rfl rfl (rfl) rfl rfl ?_
 refine Ef.call go71 rfl rfl (ftext_ok w9_9 (hT.le L29) f35.vec f36.vec (by omega) (by omega) (by rw [sb1.on, sb1.od]; decide +kernel) (by rw [sb1.on]; decide) (by rw [sb1.od]; decide)) ?_
 rintro _ w12_27 ⟨rfl, h12_27⟩
 refine ⟨_, rfl, ?_⟩
 have L37 := L29.trans h12_27
 refine W.g (Any.rd (.eqlYes (a := textF b1.2.1.n b1.2.1.d) (b := ([49, 47, 53] : List UInt8)) rfl rfl ((by rw [sb1.on, sb1.od]; exact stx3))) _) ?_
 refine W.run 3 rfl ?_
 have f38 := (f30.le h12_27)
 have f39 := (f32.le h12_27)
 refine W.efg rfl rfl rfl (rfl) rfl rfl ?_
 refine Ef.call go42 rfl rfl (sptotal_ok (c := cp5_2) w12_27 f39.vec f38 (by omega) sb1.ok) ?_
 rintro _ w12_32 ⟨rfl, h12_32⟩
 refine ⟨_, rfl, ?_⟩
 have L40 := L37.trans h12_32
 refine W.g (Any.rd (.dec (.eql rfl rfl) (decide_eq_true (sb1.t))) _) ?_
 refine W.run 2 rfl (W.nx (WC.sr (W.run 2 rfl ?_)))
 refine W.a (.idxS (0) underlying32 sz81 rfl rfl (o1_2.vec.isSome edgeV_row (by omega)) (rfl) (by omega)) ?_
 have f41 := (((f26.le (h9_2.trans h9_7)).ch h9_9 (fun q hq => by cases hq; exact (fun he => by have := (f26.row he).2; have := h9_2.size; omega))).le (h12_27.trans h12_32))
 refine W.r (.vload ag81 rfl f41.vec edgeV_row (getS sG noEdge (show 0 < sG.length by decide))) ?_
 have f42 := (((f25.le (h9_2.trans h9_7)).ch h9_9 (fun q hqq hF => by cases hqq; have := f25.lt hF; have := h9_2.size; have := hg9_7; omega)).le (h12_27.trans h12_32))
 refine W.cl go72 rfl rfl (bnd_mind (sG.getD 0 noEdge) f42) ?_
 rintro _ w13_4 ⟨rfl, h13_4⟩
 have L43 := L40.trans h13_4
 refine W.run 1 rfl ?_
 refine W.a (.extract (v := .int .i64 ((bndM (fun _ => none : MF) (sG.getD 0 noEdge)).1)) rfl rfl) ?_
 refine W.a (.extract (v := .int .i64 ((bndM (fun _ => none : MF) (sG.getD 0 noEdge)).2)) rfl rfl) ?_
 refine W.run 2 rfl (W.nx (WC.sr (W.run 1 rfl ?_)))
 refine W.a (.dec (.eql rfl rfl) (decide_eq_true (sb1.e))) ?_
 refine W.run 2 rfl ?_
 refine W.g (Any.rd (.dec (.eql rfl rfl) (decide_eq_true (sb2))) _) ?_
 refine W.run 3 rfl ?_
 refine W.g (Any.rd (.dec (.eql rfl rfl) (decide_eq_true (sb3))) _) ?_
 refine W.run 3 rfl ?_
 refine W.g (Any.rd (.dec (.eql rfl rfl) (decide_eq_true (sb4))) _) ?_
 refine W.run 3 rfl ?_
 refine W.g (Any.rd (.dec (.eql rfl rfl) (decide_eq_true (sb5.e))) _) ?_
 refine W.run 6 rfl ?_
 refine W.g (Any.rd (.idxS (0) underlying31 sz34 rfl rfl (op9_2.vec.isSome prV_row (by omega)) (rfl) (by omega)) _) ?_
 refine W.g (Any.rd (.vfield fa34_1 (op9_2.vec.isSome prV_row (by omega)) rfl) _) ?_
 have f44 := (f33.le (h12_27.trans (h12_32.trans h13_4)))
 refine W.g (.vcell (j := 0) (o := 1) (v := .slice ((rs9_2.getD 0 noPaR).wA) ((rs9_2.getD 0 noPaR).wN) ((rs9_2.getD 0 noPaR).wC)) na32 rfl f44.vec prV_row (getS rs9_2 noPaR (by omega)) rfl) ?_
 refine W.g (Any.rd (.idxS (0) underlying32 sz81 rfl rfl (pc.way.vec.isSome edgeV_row (by omega)) (rfl) (by omega)) _) ?_
 refine W.g (Any.rd (.vfield fa81_2 (pc.way.vec.isSome edgeV_row (by omega)) rfl) _) ?_
 have f45 := (pc.way.le (h12_27.trans (h12_32.trans h13_4)))
 refine W.g (.vcell (j := 0) (o := 2) (v := .int .i64 ((((b5.1.getD 0 noPrt).way).getD 0 noEdge).c)) na3 rfl f45.vec edgeV_row (getS ((b5.1.getD 0 noPrt).way) noEdge (by first | omega | (simp only [List.length_cons, List.length_nil]; omega))) rfl) ?_
 refine W.g (Any.rd (.dec (.eql rfl rfl) (decide_eq_true (by rw [sb5.w0]; rfl))) _) ?_
 refine W.run 2 rfl ?_
 have f46 := (b9_9.le (h12_27.trans (h12_32.trans h13_4)))
 refine W.g (.loadAll ag61 (by rfl) rfl f46) ?_
 have f47 := (((on9_2.le h9_7).ch h9_9 (fun q hq => by cases hq; exact (fun he => by have := (on9_2.row he).2; omega))).le (h12_27.trans (h12_32.trans h13_4)))
 have f48 := (((od9_2.le h9_7).ch h9_9 (fun q hq => by cases hq; exact (fun he => by have := (od9_2.row he).2; omega))).le (h12_27.trans (h12_32.trans h13_4)))
 refine W.efg rfl rfl rfl (rfl) rfl rfl ?_
 refine Ef.call go71 rfl rfl (ftext_ok w13_4 (hT.le L43) f47.vec f48.vec (by omega) (by omega) (by rw [sb5.on, sb5.od]; decide +kernel) (by rw [sb5.on]; decide) (by rw [sb5.od]; decide)) ?_
 rintro _ w14_33 ⟨rfl, h14_33⟩
 refine ⟨_, rfl, ?_⟩
 have L49 := L43.trans h14_33
 refine W.g (Any.rd (.eqlYes (a := textF b5.2.1.n b5.2.1.d) (b := ([55, 47, 49, 48] : List UInt8)) rfl rfl ((by rw [sb5.on, sb5.od]; exact stx4))) _) ?_
 refine W.run 2 rfl ?_
 refine W.efg rfl rfl rfl (rfl) rfl rfl ?_
 refine Ef.call go14 rfl rfl (shares_ok 10 4 w14_33 (by omega)) ?_
 rintro _ w14_37 ⟨As14_37, cs14_37, rfl, os14_37, hn14_37, h14_37⟩
 refine ⟨_, rfl, ?_⟩
 have L50 := L49.trans h14_37
 refine W.efg rfl rfl rfl (rfl) rfl rfl ?_
 refine Ef.buildSliceV (len := 4) [_, _, _, _] underlying23 el3 rfl (by simp [Value.cells]) rfl (by decide) (by decide) ?_
 intro g14_38 w14_38 hg14_38 b14_38 h14_38
 have L51 := L50.trans h14_38
 have b14_38 : Blk w14_38 g14_38 3 (([3, 3, 2, 2]).map iv).flatten.toArray := b14_38
 have o14_38 : OVec w14_38 w14_37.heap.size 3 iv 1 (some ⟨g14_38, 0, none⟩) 4 4 ([3, 3, 2, 2]) := b14_38.ovec hg14_38 iv_row rfl rfl (by decide)
 have f52 := (os14_37.le h14_38)
 refine W.efg rfl rfl rfl (rfl) rfl rfl ?_
 refine Ef.call go34 rfl rfl ((by have q := ints_ok (c := cs14_37) (d := 4) w14_38 f52.vec o14_38.vec (by decide); rw [decide_eq_true (show sharesL 10 4 = [3, 3, 2, 2] by decide)] at q; exact q)) ?_
 rintro _ w14_39 ⟨rfl, h14_39⟩
 refine ⟨_, rfl, ?_⟩
 have L53 := L51.trans h14_39
 refine W.run 2 rfl ?_
 refine W.efg rfl rfl rfl (rfl) rfl rfl ?_
 refine Ef.call go14 rfl rfl (shares_ok 3 4 w14_39 (by omega)) ?_
 rintro _ w14_42 ⟨As14_42, cs14_42, rfl, os14_42, hn14_42, h14_42⟩
 refine ⟨_, rfl, ?_⟩
 have L54 := L53.trans h14_42
 refine W.g (.len underlying23 rfl) ?_
 refine W.g (Any.rd (.dec (.eql rfl rfl) (decide_eq_true (by decide))) _) ?_
 refine W.run 2 rfl ?_
 refine W.efg rfl rfl rfl (rfl) rfl rfl ?_
 refine Ef.call go14 rfl rfl (shares_ok 3 0 w14_42 (by omega)) ?_
 rintro _ w14_47 ⟨As14_47, cs14_47, rfl, os14_47, hn14_47, h14_47⟩
 refine ⟨_, rfl, ?_⟩
 have L55 := L54.trans h14_47
 refine W.g (.len underlying23 rfl) ?_
 refine W.g (Any.rd (.dec (.eql rfl rfl) (decide_eq_true (by decide))) _) ?_
 refine W.run 3 rfl ?_
 refine W.g (Any.rd (.dec (.eql rfl rfl) (decide_eq_true (by decide))) _) ?_
 refine W.run 3 rfl ?_
 refine W.g (Any.rd (.dec (.eql rfl rfl) (decide_eq_true (by decide))) _) ?_
 refine W.run 2 rfl ?_
 refine W.g (Any.rd (.buildA (cells := ((List.replicate 32 0#8).map u8v).toArray) underlying30 sz5 z30 rfl rfl) _) ?_
 refine W.efg rfl rfl rfl (rfl) rfl rfl ?_
 refine Ef.call go16 rfl rfl (plans_ok (c := 0) 1 (show (List.replicate 32 0#8).length = 32 from rfl) w14_47 (Vec.nil _ _ _ _) (by omega)) ?_
 rintro _ w14_61 ⟨Aq14_61, cq14_61, qs14_61, rfl, oq14_61, qa14_61, h14_61⟩
 refine ⟨_, rfl, ?_⟩
 have L56 := L55.trans h14_61
 refine W.g (.len underlying37 rfl) ?_
 refine W.g (Any.rd (.dec (.eql rfl rfl) (decide_eq_true (by rw [show (([] : List PaR).map (·.wN)) = [] from rfl, plansL_nil]; rfl))) _) ?_
 refine W.run 2 rfl (W.nx (WC.ret ?_))
 refine E.retG1 rfl rfl ?_
 exact ⟨rfl, L56⟩
end Go.Proofs.YtocheaahlpiajaaGreatDoor

namespace Go.Sx
theorem Any.rem8 {P : Program} {env : Env} {n : Nat} {d : Option Nat} {T : TypeId} {p : String} {af : Array Edge} {g : Option (Nat × Bool)} {t ty : TypeId} {x y : Operand} {a b : Int} (hx : ev env x = some (.int .u8 a)) (hy : ev env y = some (.int .u8 b)) (hb : 0 <= a /\ 1 <= b) :
    Any P env n ⟨d, .binOp .rem t x y ty, T, p, af, g⟩ (.int .u8 (a % b)) := .int hx hy fun w => by
  have : b ≠ 0 := by omega
  simp [binOp, Op.intDiv, this, IntWalk.rem_in _ b hb.1]
end Go.Sx
namespace Go.Proofs.YtocheaahlpiajaaGreatDoor
open Tryz
open Go Go.Sx Go.Hsp Go.Num Go.Osp Go.Gsp Go.Nsp Go.Msp Go.Rtp
set_option maxRecDepth 20000
theorem SplitOne_ok (room most amount nq : Nat) {A2 : Option Addr} {n2 c2 : Nat} {l : List Kn} (w : World) (hT : Tab w) (hr : room < 65536) (hm : most < 65536) (hL : Vec w knV 3 A2 n2 l) (hgl : ∀ q ∈ l, I64n q.d) (hn2 : n2 <= 9223372036854775807) (ha : amount < 65536) (hq : nq < 256) : Calls prog 7 #[.int .u16 (((room : Nat) : Int)), .int .u16 (((most : Nat) : Int)), .slice A2 n2 c2, .int .u16 (((amount : Nat) : Int)), .int .u8 (((nq : Nat) : Int))] w fun r w' => r = .returned (.bool true) /\ Le w w' := by
 have hl2 := hL.1
 have hgm : GoodM (mindG [(sE 7 2 5 (1 + ((room : Nat) : Int)) (1 + ((most : Nat) : Int)))] l) := mindG_good _ l _ none_good
 have hE : edgeOk (sE 7 2 5 (1 + ((room : Nat) : Int)) (1 + ((most : Nat) : Int))) = true := by unfold edgeOk sE polOk inB; simp; omega
 have hol := oddsM_len hgm (sE 7 2 5 (1 + ((room : Nat) : Int)) (1 + ((most : Nat) : Int))) ((amount : Nat) : Int)
 have hq6 : nq % 6 < 6 := Nat.mod_lt _ (by decide)
 refine enter func7 rfl rfl ?_
 have L0 := Le.refl w
 refine WC.sr (W.run 1 rfl (W.nx (WC.sr ?_)))
 refine W.cl go13 rfl rfl (small39_ok w (hT.le L0)) ?_
 rintro _ w1_0 ⟨rfl, h1_0⟩
 have L1 := L0.trans h1_0
 refine W.run 1 rfl (W.nx (WC.sr (W.run 1 rfl ?_)))
 refine W.r (.idI (isS underlying88) underlying3 rfl (IntWalk.i64_in _ (by omega))) ?_
 refine W.a (.add rfl rfl (by omega)) ?_
 refine W.run 1 rfl ?_
 refine W.r (.idI (isS underlying88) underlying3 rfl (IntWalk.i64_in _ (by omega))) ?_
 refine W.a (.add rfl rfl (by omega)) ?_
 refine W.cl go43 rfl rfl (edge39_ok 7 2 5 (1 + ((room : Nat) : Int)) (1 + ((most : Nat) : Int)) w1_0) ?_
 rintro _ w2_6 ⟨rfl, h2_6⟩
 have L2 := L1.trans h2_6
 refine W.ef rfl rfl rfl ?_
 refine Ef.allocA z81 ?_
 intro g2_7 w2_7 hg2_7 b2_7 h2_7
 have L3 := L2.trans h2_7
 have b2_7 : Blk w2_7 g2_7 81 (edgeV noEdge).toArray := b2_7
 refine W.ef0 rfl rfl ?_
 refine Ef.storeAll sz81 (by rfl) rfl rfl b2_7 (by simp only [List.size_toArray, edgeV_row.len]) (edgeV_row.one (sE 7 2 5 (1 + ((room : Nat) : Int)) (1 + ((most : Nat) : Int)))) ?_
 intro w2_8 b2_8 h2_8
 have b2_8 : Blk w2_8 g2_7 81 (edgeV (sE 7 2 5 (1 + ((room : Nat) : Int)) (1 + ((most : Nat) : Int)))).toArray := b2_8
 have L4 := L3.tb h2_8 L2 hg2_7
 refine W.nx (WC.sr ?_)
 refine W.r (.loadAll ag81 (by rfl) rfl b2_8) ?_
 refine W.ef rfl rfl rfl ?_
 refine Ef.buildSliceV (len := 1) [_] underlying32 el81 rfl (by simp [Value.cells, edgeV_row.len]) rfl (by decide) (by decide) ?_
 intro g3_1 w3_1 hg3_1 b3_1 h3_1
 have L5 := L4.trans h3_1
 have b3_1 : Blk w3_1 g3_1 81 (([(sE 7 2 5 (1 + ((room : Nat) : Int)) (1 + ((most : Nat) : Int)))]).map edgeV).flatten.toArray := b3_1
 have o3_1 : OVec w3_1 w2_8.heap.size 81 edgeV 9 (some ⟨g3_1, 0, none⟩) 1 1 ([(sE 7 2 5 (1 + ((room : Nat) : Int)) (1 + ((most : Nat) : Int)))]) := b3_1.ovec hg3_1 edgeV_row rfl rfl (by decide)
 have o6 := o3_1.cast (m' := 1) (ys := [(sE 7 2 5 (1 + ((room : Nat) : Int)) (1 + ((most : Nat) : Int)))]) (rfl) (rfl)
 refine W.run 1 rfl (W.nx (WC.seq (WC.sr (W.run 1 rfl ?_))))
 refine W.r (.len underlying53 rfl) ?_
 refine W.run 1 rfl (W.nx ?_)
 by_cases c0 : 20 < ((n2 : Nat) : Int)
 ·refine WC.condY rfl (decide_eq_true c0) ?_
  refine WC.sr (W.run 2 rfl (W.nx (WC.ret (E.thenR ?_))))
  refine E.retG1 rfl rfl ?_
  exact ⟨rfl, L5⟩
 refine WC.condN rfl (decide_eq_false c0) ?_
 refine WC.sn (WC.sr (W.run 2 rfl ?_))
 refine W.cl go26 rfl rfl (mind_ok w3_1 o6.vec (hL.le L5) hgl (by omega) (by omega)) ?_
 rintro _ w6_2 ⟨gp6_2, F6_2, rfl, p6_2, h6_2⟩
 have L7 := L5.trans h6_2
 refine W.run 1 rfl (W.nx (WC.seq (WC.sr (W.run 1 rfl ?_))))
 refine W.a (.dec (.isNilP (by kernel_rfl) rfl) rfl) ?_
 refine W.nx (WC.condF rfl (WC.sn (WC.sr (W.run 1 rfl ?_))))
 refine W.a (.rem8 rfl rfl (by omega)) ?_
 refine W.r (.idI (isS underlying5) underlying3 rfl (IntWalk.i64_in _ (by omega))) ?_
 refine W.a (.add rfl rfl (by omega)) ?_
 refine W.run 1 rfl (W.nx (WC.sr (W.run 1 rfl ?_)))
 have f8 := (b2_8.le (h3_1.trans h6_2))
 refine W.r (.loadAll ag81 (by rfl) rfl f8) ?_
 refine W.run 1 rfl ?_
 refine W.r (.idI (isS underlying88) underlying3 rfl (IntWalk.i64_in _ (by omega))) ?_
 refine W.cl go44 rfl rfl (odds_mind (sE 7 2 5 (1 + ((room : Nat) : Int)) (1 + ((most : Nat) : Int))) ((amount : Nat) : Int) p6_2) ?_
 rintro _ w10_4 ⟨An10_4, cn10_4, Ad10_4, cd10_4, rfl, on10_4, od10_4, h10_4⟩
 have L9 := L7.trans h10_4
 refine W.run 1 rfl ?_
 refine W.a (.extract (v := .agg #[.slice An10_4 ((digs ((oddsM (mindG ([(sE 7 2 5 (1 + ((room : Nat) : Int)) (1 + ((most : Nat) : Int)))]) l) (sE 7 2 5 (1 + ((room : Nat) : Int)) (1 + ((most : Nat) : Int))) ((amount : Nat) : Int)).n)).length) cn10_4, .slice Ad10_4 ((digs ((oddsM (mindG ([(sE 7 2 5 (1 + ((room : Nat) : Int)) (1 + ((most : Nat) : Int)))]) l) (sE 7 2 5 (1 + ((room : Nat) : Int)) (1 + ((most : Nat) : Int))) ((amount : Nat) : Int)).d)).length) cd10_4]) rfl rfl) ?_
 refine W.run 1 rfl (W.ef rfl rfl rfl ?_)
 refine Ef.allocA z61 ?_
 intro g10_8 w10_8 hg10_8 b10_8 h10_8
 have L10 := L9.trans h10_8
 have b10_8 : Blk w10_8 g10_8 61 #[.slice none 0 0, .slice none 0 0] := b10_8
 refine W.sA sz61 rfl rfl b10_8 ?_
 intro w10_9 b10_9 h10_9
 have b10_9 : Blk w10_9 g10_8 61 #[.slice An10_4 ((digs ((oddsM (mindG ([(sE 7 2 5 (1 + ((room : Nat) : Int)) (1 + ((most : Nat) : Int)))]) l) (sE 7 2 5 (1 + ((room : Nat) : Int)) (1 + ((most : Nat) : Int))) ((amount : Nat) : Int)).n)).length) cn10_4, .slice Ad10_4 ((digs ((oddsM (mindG ([(sE 7 2 5 (1 + ((room : Nat) : Int)) (1 + ((most : Nat) : Int)))]) l) (sE 7 2 5 (1 + ((room : Nat) : Int)) (1 + ((most : Nat) : Int))) ((amount : Nat) : Int)).d)).length) cd10_4] := b10_9
 have L11 := L10.tb h10_9 L9 hg10_8
 refine W.run 1 rfl (W.nx (WC.sr (W.run 3 rfl ?_)))
 refine W.r (.idI (isS underlying88) underlying3 rfl (IntWalk.i64_in _ (by omega))) ?_
 refine W.run 1 rfl ?_
 have f12 := ((p6_2.le (h10_4.trans h10_8)).ch h10_9 (fun q hqq hF => by cases hqq; have := p6_2.lt hF; have := h10_4.size; have := hg10_8; omega))
 have f13 := ((o6.le (h6_2.trans (h10_4.trans h10_8))).ch h10_9 (fun q hq => by cases hq; exact (fun he => by have := (o3_1.row he).2; have := h6_2.size; have := h10_4.size; omega)))
 obtain ⟨t1, het1⟩ : ∃ z, z = (tryG ([(sE 7 2 5 (1 + ((room : Nat) : Int)) (1 + ((most : Nat) : Int)))]) (mindG ([(sE 7 2 5 (1 + ((room : Nat) : Int)) (1 + ((most : Nat) : Int)))]) l) 2 5 ((amount : Nat) : Int) 50 (1 + (((nq : Nat) : Int) % 6))) := ⟨_, rfl⟩
 have hlt1 := tryG_len (g := ([(sE 7 2 5 (1 + ((room : Nat) : Int)) (1 + ((most : Nat) : Int)))])) (m := (mindG ([(sE 7 2 5 (1 + ((room : Nat) : Int)) (1 + ((most : Nat) : Int)))]) l)) (fr := 2) (to := 5) (a := ((amount : Nat) : Int)) (x := 50) (n := (1 + (((nq : Nat) : Int) % 6))) hgm
 rw [<- het1] at hlt1; unfold LenF at hlt1
 refine W.cl go28 rfl rfl ((by have k := sptry_ok (c := 1) 2 5 ((amount : Nat) : Int) 50 (1 + (((nq : Nat) : Int) % 6)) w10_9 f12 f13.vec (by omega) (by omega); rw [<- het1] at k; exact k)) ?_
 rintro _ w11_5 ⟨Ap11_5, cp11_5, rs11_5, An11_5, cn11_5, Ad11_5, cd11_5, rfl, op11_5, pa11_5, on11_5, od11_5, hz11_5, h11_5⟩
 have L14 := L11.trans h11_5
 have hr11_5 := pa11_5.1
 have hone : (t1.2.2 = 0 /\ goesM (sE 7 2 5 (1 + ((room : Nat) : Int)) (1 + ((most : Nat) : Int))) ((amount : Nat) : Int) = true /\ t1.2.1 = oddsM (mindG [(sE 7 2 5 (1 + ((room : Nat) : Int)) (1 + ((most : Nat) : Int)))] l) (sE 7 2 5 (1 + ((room : Nat) : Int)) (1 + ((most : Nat) : Int))) ((amount : Nat) : Int) /\ okF (oddsM (mindG [(sE 7 2 5 (1 + ((room : Nat) : Int)) (1 + ((most : Nat) : Int)))] l) (sE 7 2 5 (1 + ((room : Nat) : Int)) (1 + ((most : Nat) : Int))) ((amount : Nat) : Int)) /\ t1.1.length = ((1 + ((nq % 6 : Nat) : Int))).toNat) \/ (t1.2.2 ≠ 0 /\ t1.1 = [] /\ (goesM (sE 7 2 5 (1 + ((room : Nat) : Int)) (1 + ((most : Nat) : Int))) ((amount : Nat) : Int) = false \/ oddsM (mindG [(sE 7 2 5 (1 + ((room : Nat) : Int)) (1 + ((most : Nat) : Int)))] l) (sE 7 2 5 (1 + ((room : Nat) : Int)) (1 + ((most : Nat) : Int))) ((amount : Nat) : Int) = ⟨0, 1⟩ \/ ((amount : Nat) : Int) < (1 + ((nq % 6 : Nat) : Int)) \/ 1 + ((most : Nat) : Int) < (((amount : Nat) : Int) + (1 + ((nq % 6 : Nat) : Int)) - 1) / (1 + ((nq % 6 : Nat) : Int)))) := by rw [het1]; exact one_law hgm hE rfl rfl (by omega) (by omega) (by omega)
 have hone : (t1.2.2 = 0 /\ goesM (sE 7 2 5 (1 + ((room : Nat) : Int)) (1 + ((most : Nat) : Int))) ((amount : Nat) : Int) = true /\ t1.2.1 = oddsM (mindG [(sE 7 2 5 (1 + ((room : Nat) : Int)) (1 + ((most : Nat) : Int)))] l) (sE 7 2 5 (1 + ((room : Nat) : Int)) (1 + ((most : Nat) : Int))) ((amount : Nat) : Int) /\ okF (oddsM (mindG [(sE 7 2 5 (1 + ((room : Nat) : Int)) (1 + ((most : Nat) : Int)))] l) (sE 7 2 5 (1 + ((room : Nat) : Int)) (1 + ((most : Nat) : Int))) ((amount : Nat) : Int)) /\ t1.1.length = ((1 + ((nq % 6 : Nat) : Int))).toNat) \/ (t1.2.2 ≠ 0 /\ t1.1 = [] /\ (goesM (sE 7 2 5 (1 + ((room : Nat) : Int)) (1 + ((most : Nat) : Int))) ((amount : Nat) : Int) = false \/ oddsM (mindG [(sE 7 2 5 (1 + ((room : Nat) : Int)) (1 + ((most : Nat) : Int)))] l) (sE 7 2 5 (1 + ((room : Nat) : Int)) (1 + ((most : Nat) : Int))) ((amount : Nat) : Int) = ⟨0, 1⟩ \/ ((amount : Nat) : Int) < (1 + ((nq % 6 : Nat) : Int)) \/ 1 + ((most : Nat) : Int) < (((amount : Nat) : Int) + (1 + ((nq % 6 : Nat) : Int)) - 1) / (1 + ((nq % 6 : Nat) : Int)))) := by rw [het1]; exact one_law hgm hE rfl rfl (by omega) (by omega) (by omega)
 refine W.run 2 rfl ?_
 refine W.a (.extract (v := .agg #[.slice An11_5 ((digs t1.2.1.n).length) cn11_5, .slice Ad11_5 ((digs t1.2.1.d).length) cd11_5]) rfl rfl) ?_
 refine W.run 1 rfl (W.ef rfl rfl rfl ?_)
 refine Ef.allocA z61 ?_
 intro g11_10 w11_10 hg11_10 b11_10 h11_10
 have L15 := L14.trans h11_10
 have b11_10 : Blk w11_10 g11_10 61 #[.slice none 0 0, .slice none 0 0] := b11_10
 refine W.run 1 rfl ?_
 refine W.sA sz61 rfl rfl b11_10 ?_
 intro w11_12 b11_12 h11_12
 have b11_12 : Blk w11_12 g11_10 61 #[.slice An11_5 ((digs t1.2.1.n).length) cn11_5, .slice Ad11_5 ((digs t1.2.1.d).length) cd11_5] := b11_12
 have L16 := L15.tb h11_12 L14 hg11_10
 refine W.run 1 rfl (W.nx (WC.seq (WC.sr (W.run 2 rfl (W.nx ?_)))))
 by_cases c2 : t1.2.2 ≠ 0
 ·refine WC.condY rfl (decide_eq_true c2) ?_
  obtain ⟨_, k2, k3⟩ := hone.resolve_left (fun h => absurd h.1 (by assumption))
  have k4 : goesM (sE 7 2 5 (1 + ((room : Nat) : Int)) (1 + ((most : Nat) : Int))) ((amount : Nat) : Int) = false \/ (cmpF (takF (⟨(oddsM (mindG [(sE 7 2 5 (1 + ((room : Nat) : Int)) (1 + ((most : Nat) : Int)))] l) (sE 7 2 5 (1 + ((room : Nat) : Int)) (1 + ((most : Nat) : Int))) ((amount : Nat) : Int)).n, (oddsM (mindG [(sE 7 2 5 (1 + ((room : Nat) : Int)) (1 + ((most : Nat) : Int)))] l) (sE 7 2 5 (1 + ((room : Nat) : Int)) (1 + ((most : Nat) : Int))) ((amount : Nat) : Int)).d⟩ : Fr)) (takF (⟨(lowF 0 1).n, (lowF 0 1).d⟩ : Fr)) = 0) \/ ((amount : Nat) : Int) < (1 + ((nq % 6 : Nat) : Int)) \/ 1 + ((most : Nat) : Int) < (((amount : Nat) : Int) + (1 + ((nq % 6 : Nat) : Int)) - 1) / (1 + ((nq % 6 : Nat) : Int)) := k3.imp id (Or.imp (fun h => by rw [h]; decide) id)
  have k5 : t1.1.length = 0 := by rw [k2]; rfl
  have hz1 : (digs (lowF 0 1).n).length <= 1 /\ (digs (lowF 0 1).d).length <= 1 := by rw [lowF_zero (by decide)]; exact ⟨digs_len_one (by decide), digs_len_one (by decide)⟩
  refine WC.sr ?_
  refine W.cl go39 rfl rfl (fof_ok 0 1 w11_12 (by omega) (by omega) (by omega)) ?_
  rintro _ w13_0 ⟨An13_0, cn13_0, Ad13_0, cd13_0, rfl, on13_0, od13_0, h13_0⟩
  have L17 := L16.trans h13_0
  refine W.run 1 rfl ?_
  refine W.a (.extract (v := .agg #[.slice An13_0 ((digs ((lowF 0 1).n)).length) cn13_0, .slice Ad13_0 ((digs ((lowF 0 1).d)).length) cd13_0]) rfl rfl) ?_
  refine W.run 1 rfl (W.ef rfl rfl rfl ?_)
  refine Ef.allocA z61 ?_
  intro g13_4 w13_4 hg13_4 b13_4 h13_4
  have L18 := L17.trans h13_4
  have b13_4 : Blk w13_4 g13_4 61 #[.slice none 0 0, .slice none 0 0] := b13_4
  refine W.sA sz61 rfl rfl b13_4 ?_
  intro w13_5 b13_5 h13_5
  have b13_5 : Blk w13_5 g13_4 61 #[.slice An13_0 ((digs ((lowF 0 1).n)).length) cn13_0, .slice Ad13_0 ((digs ((lowF 0 1).d)).length) cd13_0] := b13_5
  have L19 := L18.tb h13_5 L17 hg13_4
  refine W.run 1 rfl (W.nx (WC.sr (W.run 2 rfl ?_)))
  by_cases q14_2 : (goesM (sE 7 2 5 (1 + ((room : Nat) : Int)) (1 + ((most : Nat) : Int))) ((amount : Nat) : Int)) = true
  ·refine W.a (.dec (.move rfl) (congrArg not (q14_2))) ?_
   have f20 := ((((b10_9.le (h11_5.trans h11_10)).ch h11_12 (fun h => (show g11_10 ≠ g10_8 from by have := b10_9.lt; have := h11_5.size; omega) (Option.some.inj h))).le (h13_0.trans h13_4)).ch h13_5 (fun h => (show g13_4 ≠ g10_8 from by have := b10_9.lt; have := h11_5.size; have := h11_10.size; have := h11_12.size; have := h13_0.size; omega) (Option.some.inj h)))
   refine W.g (.loadAll ag61 (by rfl) rfl f20) ?_
   refine W.g (.loadAll ag61 (by rfl) rfl b13_5) ?_
   have f21 := ((((((on10_4.le h10_8).ch h10_9 (fun q hq => by cases hq; exact (fun he => by have := (on10_4.row he).2; omega))).le (h11_5.trans h11_10)).ch h11_12 (fun q hq => by cases hq; exact (fun he => by have := (on10_4.row he).2; have := h10_8.size; have := h10_9.size; have := h11_5.size; omega))).le (h13_0.trans h13_4)).ch h13_5 (fun q hq => by cases hq; exact (fun he => by have := (on10_4.row he).2; have := h10_8.size; have := h10_9.size; have := h11_5.size; have := h11_10.size; have := h11_12.size; have := h13_0.size; omega)))
   have f22 := ((((((od10_4.le h10_8).ch h10_9 (fun q hq => by cases hq; exact (fun he => by have := (od10_4.row he).2; omega))).le (h11_5.trans h11_10)).ch h11_12 (fun q hq => by cases hq; exact (fun he => by have := (od10_4.row he).2; have := h10_8.size; have := h10_9.size; have := h11_5.size; omega))).le (h13_0.trans h13_4)).ch h13_5 (fun q hq => by cases hq; exact (fun he => by have := (od10_4.row he).2; have := h10_8.size; have := h10_9.size; have := h11_5.size; have := h11_10.size; have := h11_12.size; have := h13_0.size; omega)))
   have f23 := ((on13_0.le h13_4).ch h13_5 (fun q hq => by cases hq; exact (fun he => by have := (on13_0.row he).2; omega)))
   have f24 := ((od13_0.le h13_4).ch h13_5 (fun q hq => by cases hq; exact (fun he => by have := (od13_0.row he).2; omega)))
   refine W.efg rfl rfl rfl (rfl) rfl rfl ?_
   refine Ef.call go41 rfl rfl (fcmp_ok w13_5 f21.vec f22.vec (by omega) (by omega) f23.vec f24.vec (by omega) (by omega)) ?_
   rintro _ w14_5 ⟨rfl, h14_5⟩
   refine ⟨_, rfl, ?_⟩
   have L25 := L19.trans h14_5
   refine W.run 3 rfl (W.nx (WC.sr (W.run 3 rfl ?_)))
   refine W.g (.len underlying31 rfl) ?_
   refine W.run 2 rfl ?_
   by_cases q15_6 : ((t1.1.length : Nat) : Int) = 0
   ·refine W.dt q15_6 rfl rfl (W.run 1 rfl ?_)
    by_cases q15_8 : (cmpF (takF (⟨((oddsM (mindG ([(sE 7 2 5 (1 + ((room : Nat) : Int)) (1 + ((most : Nat) : Int)))]) l) (sE 7 2 5 (1 + ((room : Nat) : Int)) (1 + ((most : Nat) : Int))) ((amount : Nat) : Int)).n), ((oddsM (mindG ([(sE 7 2 5 (1 + ((room : Nat) : Int)) (1 + ((most : Nat) : Int)))]) l) (sE 7 2 5 (1 + ((room : Nat) : Int)) (1 + ((most : Nat) : Int))) ((amount : Nat) : Int)).d)⟩ : Fr)) (takF (⟨((lowF 0 1).n), ((lowF 0 1).d)⟩ : Fr))) = 0
    ·refine W.g (Any.rd (.dec (.move rfl) (decide_eq_true q15_8)) _) ?_
     refine W.run 4 rfl ?_
     refine W.g (Any.rd (.pickT rfl rfl rfl) _) ?_
     refine W.run 12 rfl ?_
     refine W.g (Any.rd (.pickT rfl rfl rfl) _) ?_
     refine W.run 2 rfl (W.nx (WC.ret (E.thenR ?_)))
     refine E.retG1 rfl rfl ?_
     exact ⟨rfl, L25⟩
    refine W.g (Any.rd (.dec (.move rfl) (decide_eq_false q15_8)) _) ?_
    refine W.run 1 rfl ?_
    refine W.g (.idI (isS underlying88) underlying3 rfl (IntWalk.i64_in _ (by omega))) ?_
    refine W.run 2 rfl ?_
    refine W.g (Any.rd (.pickF rfl rfl rfl) _) ?_
    by_cases q15_14 : ((amount : Nat) : Int) < (1 + (((nq : Nat) : Int) % 6))
    ·refine W.g (Any.rd (.dec (.move rfl) (decide_eq_true q15_14)) _) ?_
     refine W.run 11 rfl ?_
     refine W.g (Any.rd (.pickT rfl rfl rfl) _) ?_
     refine W.run 2 rfl (W.nx (WC.ret (E.thenR ?_)))
     refine E.retG1 rfl rfl ?_
     exact ⟨rfl, L25⟩
    refine W.g (Any.rd (.dec (.move rfl) (decide_eq_false q15_14)) _) ?_
    refine W.run 1 rfl ?_
    refine W.g (.idI (isS underlying88) underlying3 rfl (IntWalk.i64_in _ (by omega))) ?_
    refine W.run 1 rfl ?_
    refine W.g (Any.rd (.add rfl rfl (by omega)) _) ?_
    refine W.g (Any.rd (.sub rfl rfl (by omega)) _) ?_
    refine W.run 1 rfl ?_
    refine W.g (Any.rd (.quo rfl rfl (by omega)) _) ?_
    refine W.run 1 rfl ?_
    refine W.g (.idI (isS underlying88) underlying3 rfl (IntWalk.i64_in _ (by omega))) ?_
    refine W.g (Any.rd (.add rfl rfl (by omega)) _) ?_
    refine W.run 1 rfl ?_
    refine W.g (Any.rd (.pickF rfl rfl rfl) _) ?_
    refine W.run 2 rfl (W.nx (WC.ret (E.thenR ?_)))
    refine E.retG1 rfl rfl ?_
    exact ⟨rB (decide_eq_true (by first | omega | (rcases k4 with h | h | h | h <;> first | omega | exact h | exact absurd h (by assumption) | exact Bool.noConfusion (h.symm.trans (by assumption : goesM (sE 7 2 5 (1 + ((room : Nat) : Int)) (1 + ((most : Nat) : Int))) ((amount : Nat) : Int) = true)) | (exfalso; simp_all)))), L25⟩
   refine W.df q15_6 rfl rfl (W.run 2 rfl ?_)
   refine W.skipu rfl rfl rfl rfl rfl ?_
   refine W.skipu rfl rfl rfl rfl rfl ?_
   refine W.skipu rfl rfl rfl rfl rfl ?_
   refine W.skipu rfl rfl rfl rfl rfl ?_
   refine W.run 2 rfl ?_
   refine W.skipu rfl rfl rfl rfl rfl ?_
   refine W.skipu rfl rfl rfl rfl rfl ?_
   refine W.skipu rfl rfl rfl rfl rfl ?_
   refine W.skipu rfl rfl rfl rfl rfl ?_
   refine W.skipu rfl rfl rfl rfl rfl ?_
   refine W.skipu rfl rfl rfl rfl rfl ?_
   refine W.skipu rfl rfl rfl rfl rfl ?_
   refine W.skipu rfl rfl rfl rfl rfl ?_
   refine W.skipu rfl rfl rfl rfl rfl ?_
   refine W.skipu rfl rfl rfl rfl rfl ?_
   refine W.skipu rfl rfl rfl rfl rfl ?_
   refine W.run 3 rfl (W.nx (WC.ret (E.thenR ?_)))
   refine E.retG1 rfl rfl ?_
   exfalso
   first | omega | (rcases k4 with h | h | h | h <;> first | omega | exact h | exact absurd h (by assumption) | exact Bool.noConfusion (h.symm.trans (by assumption : goesM (sE 7 2 5 (1 + ((room : Nat) : Int)) (1 + ((most : Nat) : Int))) ((amount : Nat) : Int) = true)) | (exfalso; simp_all))
  refine W.a (.dec (.move rfl) (congrArg not ((Bool.eq_false_iff.2 q14_2)))) ?_
  refine W.run 6 rfl (W.nx (WC.sr (W.run 3 rfl ?_)))
  refine W.g (.len underlying31 rfl) ?_
  refine W.run 2 rfl ?_
  by_cases q15_6 : ((t1.1.length : Nat) : Int) = 0
  ·refine W.dt q15_6 rfl rfl (W.run 6 rfl ?_)
   refine W.g (Any.rd (.pickT rfl rfl rfl) _) ?_
   refine W.run 12 rfl ?_
   refine W.g (Any.rd (.pickT rfl rfl rfl) _) ?_
   refine W.run 2 rfl (W.nx (WC.ret (E.thenR ?_)))
   refine E.retG1 rfl rfl ?_
   exact ⟨rfl, L19⟩
  refine W.df q15_6 rfl rfl (W.run 2 rfl ?_)
  refine W.skipu rfl rfl rfl rfl rfl ?_
  refine W.skipu rfl rfl rfl rfl rfl ?_
  refine W.skipu rfl rfl rfl rfl rfl ?_
  refine W.skipu rfl rfl rfl rfl rfl ?_
  refine W.run 2 rfl ?_
  refine W.skipu rfl rfl rfl rfl rfl ?_
  refine W.skipu rfl rfl rfl rfl rfl ?_
  refine W.skipu rfl rfl rfl rfl rfl ?_
  refine W.skipu rfl rfl rfl rfl rfl ?_
  refine W.skipu rfl rfl rfl rfl rfl ?_
  refine W.skipu rfl rfl rfl rfl rfl ?_
  refine W.skipu rfl rfl rfl rfl rfl ?_
  refine W.skipu rfl rfl rfl rfl rfl ?_
  refine W.skipu rfl rfl rfl rfl rfl ?_
  refine W.skipu rfl rfl rfl rfl rfl ?_
  refine W.skipu rfl rfl rfl rfl rfl ?_
  refine W.run 3 rfl (W.nx (WC.ret (E.thenR ?_)))
  refine E.retG1 rfl rfl ?_
  exfalso
  first | omega | (rcases k4 with h | h | h | h <;> first | omega | exact h | exact absurd h (by assumption) | exact Bool.noConfusion (h.symm.trans (by assumption : goesM (sE 7 2 5 (1 + ((room : Nat) : Int)) (1 + ((most : Nat) : Int))) ((amount : Nat) : Int) = true)) | (exfalso; simp_all))
 refine WC.condN rfl (decide_eq_false c2) ?_
 obtain ⟨_, k2, k3, k6, k5⟩ := hone.resolve_right (fun h => absurd (Decidable.not_not.1 (by assumption)) h.1)
 refine WC.sn (WC.sr (W.run 2 rfl ?_))
 refine W.g (Any.rd (.dec (.move rfl) (k2)) _) ?_
 refine W.run 2 rfl ?_
 refine W.g (.loadAll ag61 (by rfl) rfl b11_12) ?_
 have f26 := ((b10_9.le (h11_5.trans h11_10)).ch h11_12 (fun h => (show g11_10 ≠ g10_8 from by have := b10_9.lt; have := h11_5.size; omega) (Option.some.inj h)))
 refine W.g (.loadAll ag61 (by rfl) rfl f26) ?_
 have f27 := ((on11_5.le h11_10).ch h11_12 (fun q hq => by cases hq; exact (fun he => by have := (on11_5.row he).2; omega)))
 have f28 := ((od11_5.le h11_10).ch h11_12 (fun q hq => by cases hq; exact (fun he => by have := (od11_5.row he).2; omega)))
 have f29 := ((((on10_4.le h10_8).ch h10_9 (fun q hq => by cases hq; exact (fun he => by have := (on10_4.row he).2; omega))).le (h11_5.trans h11_10)).ch h11_12 (fun q hq => by cases hq; exact (fun he => by have := (on10_4.row he).2; have := h10_8.size; have := h10_9.size; have := h11_5.size; omega)))
 have f30 := ((((od10_4.le h10_8).ch h10_9 (fun q hq => by cases hq; exact (fun he => by have := (od10_4.row he).2; omega))).le (h11_5.trans h11_10)).ch h11_12 (fun q hq => by cases hq; exact (fun he => by have := (od10_4.row he).2; have := h10_8.size; have := h10_9.size; have := h11_5.size; omega)))
 refine W.efg rfl rfl rfl (rfl) rfl rfl ?_
 refine Ef.call go41 rfl rfl (fcmp_ok w11_12 f27.vec f28.vec (by omega) (by omega) f29.vec f30.vec (by omega) (by omega)) ?_
 rintro _ w16_7 ⟨rfl, h16_7⟩
 refine ⟨_, rfl, ?_⟩
 have L31 := L16.trans h16_7
 refine W.g (Any.rd (.dec (.eql rfl rfl) (decide_eq_true (by rw [show (⟨t1.2.1.n, t1.2.1.d⟩ : Fr) = oddsM (mindG [(sE 7 2 5 (1 + ((room : Nat) : Int)) (1 + ((most : Nat) : Int)))] l) (sE 7 2 5 (1 + ((room : Nat) : Int)) (1 + ((most : Nat) : Int))) ((amount : Nat) : Int) from k3]; exact TP.cmpF.refl _))) _) ?_
 refine W.run 3 rfl ?_
 refine W.g (.len underlying31 rfl) ?_
 refine W.run 4 rfl (W.nx (WC.ret ?_))
 refine E.retG1 rfl rfl ?_
 exact ⟨rB (decide_eq_true (by first | omega | (rcases k4 with h | h | h | h <;> first | omega | exact h | exact absurd h (by assumption) | exact Bool.noConfusion (h.symm.trans (by assumption : goesM (sE 7 2 5 (1 + ((room : Nat) : Int)) (1 + ((most : Nat) : Int))) ((amount : Nat) : Int) = true)) | (exfalso; simp_all)))), L31⟩
end Go.Proofs.YtocheaahlpiajaaGreatDoor

