/- SplitProofs: for every input the law answers true and leaves its arguments as they were. -/
import Derived.Test.YtocheaahlpiajaaGreatDoorSplitProofsQ
import Derived.Shelf.Strconv.Itoa3
import Derived.Lib.ItoaLen
import Derived.Lib.AppendIntMem
set_option linter.unusedVariables false
set_option linter.unusedSimpArgs false
set_option maxRecDepth 20000
namespace Go.Proofs
open Go.Shelf
def Tryz.laysM171_ren : Go.Shelf.Ren := ⟨fun | 171 => 241 | 243 => 294 | 246 => 329 | 283 => 350 | 284 => 351 | 285 => 352 | 286 => 353 | 129 => 326 | 317 => 360 | 318 => 361 | 319 => 362 | 320 => 363 | 337 => 365 | 338 => 366 | n => n, fun | 3 => 3 | 9 => 9 | 2 => 2 | 4 => 4 | 171 => 398 | 0 => 0 | 53 => 27 | 37 => 26 | 5 => 5 | 173 => 400 | 212 => 410 | 51 => 273 | 20 => 20 | 213 => 411 | 46 => 287 | 232 => 29 | 233 => 413 | n => n, fun | 17 => 2 | 18 => 4 | 19 => 5 | n => n⟩
theorem Tryz.laysM171 : Go.Proofs.LaysM.n171 prog Tryz.laysM171_ren := {
  mixed := by kernel_rfl
  f129 := func326.trans (congrArg some (by kernel_rfl))
  f171 := func241.trans (congrArg some (by kernel_rfl))
  f243 := func294.trans (congrArg some (by kernel_rfl))
  f246 := func329.trans (congrArg some (by kernel_rfl))
  f283 := func350.trans (congrArg some (by kernel_rfl))
  f284 := func351.trans (congrArg some (by kernel_rfl))
  f285 := func352.trans (congrArg some (by kernel_rfl))
  f286 := func353.trans (congrArg some (by kernel_rfl))
  f317 := func360.trans (congrArg some (by kernel_rfl))
  f318 := func361.trans (congrArg some (by kernel_rfl))
  f319 := func362.trans (congrArg some (by kernel_rfl))
  f320 := func363.trans (congrArg some (by kernel_rfl))
  f337 := func365.trans (congrArg some (by kernel_rfl))
  f338 := func366.trans (congrArg some (by kernel_rfl))
  t0 := underlying0
  a0 := Tryz.isAgg0
  z0 := Tryz.sizeOf0
  v0 := Tryz.zeroValue0
  t2 := underlying2
  a2 := Tryz.isAgg2
  z2 := Tryz.sizeOf2
  v2 := Tryz.zeroValue2
  t3 := underlying3
  a3 := Tryz.isAgg3
  z3 := Tryz.sizeOf3
  v3 := Tryz.zeroValue3
  t4 := underlying4
  a4 := Tryz.isAgg4
  z4 := Tryz.sizeOf4
  v4 := Tryz.zeroValue4
  t5 := underlying5
  a5 := Tryz.isAgg5
  z5 := Tryz.sizeOf5
  v5 := Tryz.zeroValue5
  t9 := underlying9
  a9 := Tryz.isAgg9
  z9 := Tryz.sizeOf9
  v9 := Tryz.zeroValue9
  t20 := underlying20
  a20 := Tryz.isAgg20
  z20 := Tryz.sizeOf20
  v20 := Tryz.zeroValue20
  t37 := underlying26
  a37 := Tryz.isAgg26
  z37 := Tryz.sizeOf26
  v37 := Tryz.zeroValue26
  t46 := underlying287
  a46 := Tryz.isAgg287
  z46 := Tryz.sizeOf287
  v46 := Tryz.zeroValue287
  t51 := underlying273
  a51 := Tryz.isAgg273
  z51 := Tryz.sizeOf273
  v51 := Tryz.zeroValue273
  t53 := underlying27
  a53 := Tryz.isAgg27
  z53 := Tryz.sizeOf27
  v53 := Tryz.zeroValue27
  t171 := underlying398
  a171 := Tryz.isAgg398
  z171 := Tryz.sizeOf398
  v171 := Tryz.zeroValue398
  t173 := underlying400
  a173 := Tryz.isAgg400
  z173 := Tryz.sizeOf400
  v173 := Tryz.zeroValue400
  t212 := underlying410
  a212 := Tryz.isAgg410
  z212 := Tryz.sizeOf410
  v212 := Tryz.zeroValue410
  t213 := underlying411
  a213 := Tryz.isAgg411
  z213 := Tryz.sizeOf411
  t232 := underlying29
  a232 := Tryz.isAgg29
  z232 := Tryz.sizeOf29
  v232 := Tryz.zeroValue29
  t233 := underlying413
  a233 := Tryz.isAgg413
  z233 := Tryz.sizeOf413
  v233 := Tryz.zeroValue413
  g17 := by kernel_rfl
  g18 := by kernel_rfl
  g19 := by kernel_rfl
  i0 := by kernel_rfl
  i2 := by kernel_rfl
  i3 := by kernel_rfl
  i4 := by kernel_rfl
  i5 := by kernel_rfl
  i9 := by kernel_rfl
  i20 := by kernel_rfl
  i37 := by kernel_rfl
  i46 := by kernel_rfl
  i51 := by kernel_rfl
  i53 := by kernel_rfl
  i171 := by kernel_rfl
  i173 := by kernel_rfl
  i212 := by kernel_rfl
  i232 := by kernel_rfl
  i233 := by kernel_rfl
  m17 := by kernel_rfl
  m18 := by kernel_rfl
  m19 := by kernel_rfl }
end Go.Proofs
namespace Go.Proofs.YtocheaahlpiajaaGreatDoor
open Tryz
open Go Go.Sx Go.Nsp
def Tab (w : World) : Prop := Lib.TabIs prog w "internal/strconv.uint64pow10" .u64 Lib.pow10Tab
theorem Tab.le {w w' : World} (h : Tab w) (hl : Le w w') : Tab w' := Lib.tabBelow_of_tabIs h w' hl
theorem itoa_len {p : Nat} (h : p < 1000000000) : (Lib.itoa ((p : Nat) : Int)).length <= 21 := Lib.itoa_length_le _ (by omega) (by omega)
theorem itoa_ok (p : Nat) (w : World) (hT : Tab w) (h0 : 0 <= p) (h1 : p < 1000000000) : Calls prog 241 #[.int .i64 ((p : Nat) : Int)] w fun r w' => r = .returned (.string ⟨(Lib.itoa ((p : Nat) : Int)).toArray⟩) /\ Le w w' :=
  (Any.strconv_Itoa Tryz.laysM171 ((p : Nat) : Int) (by omega) (by omega) w hT).mono (by
    rintro _ w' ⟨rfl, k, os, rfl⟩
    exact ⟨rfl, Lib.below_grow _ w (Nat.le_refl _) k os⟩)
def textF (p q : Nat) : List UInt8 := if q = 1 then Lib.itoa ((p : Nat) : Int) else Lib.itoa ((p : Nat) : Int) ++ ([47] : List UInt8) ++ Lib.itoa ((q : Nat) : Int)
theorem digs_lots : digs 1000000000 = [1000000000] := by rw [digs_pos (by decide), show 1000000000 / B = 0 from rfl, digs_zero]; rfl
theorem ntext_ok {A : Option Addr} {n c p : Nat} (w : World) (hT : Tab w) (hV : Vec w dv 1 A n (digs p)) (hn : n <= 10000) (hp1 : p < 1000000000) : Calls prog 166 #[.slice A n c] w fun r w' => r = .returned (.string ⟨(Lib.itoa ((p : Nat) : Int)).toArray⟩) /\ Le w w' := by
 have hl := hV.1
 refine enter func166 rfl rfl ?_
 have L0 := Le.refl w
 refine WC.sr (W.run 1 rfl (W.nx (WC.sr (W.run 1 rfl ?_))))
 refine W.cl go211 rfl rfl (ntaken_ok w (hV.le L0) (by omega)) ?_
 rintro _ w1_1 ⟨rfl, h1_1⟩
 have L1 := L0.trans h1_1
 refine W.run 1 rfl (W.nx (WC.sr (W.run 1 rfl (W.nx (WC.block ?_)))))
 refine WC.loop (ι := Nat) (fun k => [(0, .slice A n c), (3, .string ⟨([] : List UInt8).toArray⟩)]) (fun k wl0 => Le w wl0 /\ w1_1.heap.size <= wl0.heap.size) (fun k => k) 0 ?_ ?_ ?_
 ·exact .cons rfl (.cons rfl (.nil _))
 ·exact ⟨L1, Nat.le_refl _⟩
 rintro k wl0 ⟨Ll0, zl0⟩
 refine WC.block (WC.sr (W.run 1 rfl (W.ef rfl rfl rfl ?_)))
 refine Ef.buildSliceV (len := 1) [_] underlying59 el273 rfl (by simp [Value.cells]) rfl (by decide) (by decide) ?_
 intro g3_1 w3_1 hg3_1 b3_1 h3_1
 have L2 := Ll0.trans h3_1
 have b3_1 : Blk w3_1 g3_1 273 (([1000000000]).map dv).flatten.toArray := b3_1
 have o3_1 : OVec w3_1 wl0.heap.size 273 dv 1 (some ⟨g3_1, 0, none⟩) 1 1 ([1000000000]) := b3_1.ovec hg3_1 dv_row rfl rfl (by decide)
 have o3 := o3_1.cast (m' := 1) (ys := (digs 1000000000)) (rfl) (digs_lots.symm)
 refine W.cl go209 rfl rfl (ndivmod_ok w3_1 (hV.le L2) o3.vec (by omega) (by omega) (by omega)) ?_
 rintro _ w3_2 ⟨Aq3_2, cq3_2, Ar3_2, cr3_2, rfl, oq3_2, or3_2, h3_2⟩
 have L4 := L2.trans h3_2
 refine W.run 7 rfl (W.nx (WC.sr (W.run 1 rfl ?_)))
 refine W.cl go240 rfl rfl (nint_ok w3_2 or3_2.vec (by omega)) ?_
 rintro _ w4_1 ⟨rfl, h4_1⟩
 have L5 := L4.trans h4_1
 refine W.run 5 rfl (W.nx (WC.sr (W.run 1 rfl ?_)))
 refine W.cl go241 rfl rfl (itoa_ok (p % 1000000000) w4_1 (hT.le L5) (by omega) (by omega)) ?_
 rintro _ w5_1 ⟨rfl, h5_1⟩
 have L6 := L5.trans h5_1
 refine W.run 1 rfl (W.nx (WC.seq (WC.sr (W.run 1 rfl ?_))))
 refine W.r (.len underlying59 rfl) ?_
 refine W.run 1 rfl (W.nx ?_)
 refine WC.condY rfl (decide_eq_true (by rw [Nat.div_eq_of_lt hp1, digs_zero]; rfl)) ?_
 refine WC.sr (W.run 2 rfl ?_)
 refine W.a (.addStr (a := Lib.itoa (((p % 1000000000) : Nat) : Int)) (b := ([] : List UInt8)) rfl rfl (Nat.le_trans (itoa_len (by omega)) (by decide)) (by decide)) ?_
 refine W.run 1 rfl (W.nx (WC.ret (E.thenR (E.blkR (E.thenR (E.blkR ?_))))))
 refine E.retG1 rfl rfl ?_
 exact ⟨congrArg (fun v => Ending.returned (Value.string ⟨List.toArray v⟩)) (by simp [show p % 1000000000 = p from Nat.mod_eq_of_lt hp1]), L6⟩

theorem ftext_ok {An Ad : Option Addr} {nn cn nd cd p q : Nat} (w : World) (hT : Tab w) (hn : Vec w dv 1 An nn (digs p)) (hd : Vec w dv 1 Ad nd (digs q)) (bn : nn <= 10000) (bd : nd <= 10000) (hok : okB p q = true) (hp1 : p < 1000000000) (hq1 : q < 1000000000) : Calls prog 71 #[.agg #[.slice An nn cn, .slice Ad nd cd]] w fun r w' => r = .returned (.string ⟨(textF p q).toArray⟩) /\ Le w w' := by
 have hln := hn.1; have hld := hd.1
 have h1l := digs_len_one (d := 1) (by decide)
 refine enter func71 rfl rfl ?_
 have L0 := Le.refl w
 refine WC.sr (W.ef rfl rfl rfl ?_)
 refine Ef.boxA rfl ?_
 intro g0_0 w0_0 hg0_0 b0_0 h0_0
 have L1 := L0.trans h0_0
 have b0_0 : Blk w0_0 g0_0 61 #[.slice An nn cn, .slice Ad nd cd] := b0_0
 refine W.run 1 rfl (W.nx (WC.sr ?_))
 refine W.r (.loadAll ag61 (by rfl) rfl b0_0) ?_
 refine W.cl go165 rfl rfl (ftaken_yes w0_0 (hn.le L1) (hd.le L1) (by omega) (by omega) hok) ?_
 rintro _ w1_1 ⟨rfl, h1_1⟩
 have L2 := L1.trans h1_1
 have f3 := (b0_0.le h1_1)
 refine W.sA sz61 rfl rfl f3 ?_
 intro w1_2 b1_2 h1_2
 have b1_2 : Blk w1_2 g0_0 61 #[.slice An nn cn, .slice Ad nd cd] := b1_2
 have L4 := L2.tb h1_2 L0 hg0_0
 refine W.nx (WC.seq (WC.seq ?_))
 refine WC.draw [0, 1, 2, 3, 4] mixed (by kernel_rfl) ?_
 intro w2 d2
 have L5 := L4.trans d2
 refine G.a rfl (.field0 fa61_1 rfl) ?_
 have f6 := (b1_2.le d2)
 refine G.r rfl (.loadB (v := .slice Ad nd cd) na59 rfl f6 rfl) ?_
 refine G.ef rfl rfl rfl rfl rfl ?_
 refine Ef.call go111 rfl rfl (fone_ok w2) ?_
 rintro _ w2_2 ⟨Ad2_2, cd2_2, rfl, o2_2, h2_2⟩
 refine ⟨_, rfl, ?_⟩
 refine ⟨fun _ => h2_2, ?_⟩
 have L7 := L5.trans h2_2
 refine G.ef rfl rfl rfl rfl rfl ?_
 refine Ef.call go109 rfl rfl (ncmp_ok w2_2 (hd.le L7) o2_2.vec (by omega) (by omega)) ?_
 rintro _ w2_3 ⟨rfl, h2_3⟩
 refine ⟨_, rfl, ?_⟩
 refine ⟨fun _ => h2_3, ?_⟩
 have L8 := L7.trans h2_3
 refine G.run 1 rfl (G.nil (E.thenN ?_))
 by_cases c0 : (cmpN q 1) = 0
 ·refine WC.condY rfl (decide_eq_true c0) ?_
  refine WC.sr ?_
  refine W.a (.field0 fa61_0 rfl) ?_
  have f9 := (f6.le (h2_2.trans h2_3))
  refine W.r (.loadB (v := .slice An nn cn) na59 rfl f9 rfl) ?_
  refine W.cl go166 rfl rfl (ntext_ok w2_3 (hT.le L8) (hn.le L8) (by omega) (by omega)) ?_
  rintro _ w3_2 ⟨rfl, h3_2⟩
  have L10 := L8.trans h3_2
  refine W.run 1 rfl (W.nx (WC.ret (E.thenR ?_)))
  refine E.retG1 rfl rfl ?_
  exact ⟨congrArg (fun v => Ending.returned (Value.string ⟨List.toArray v⟩)) (by unfold textF; first | rw [if_pos (cmpN_eq.1 (by assumption))] | rw [if_neg (fun h => absurd (cmpN_eq.2 h) (by assumption))]), L10⟩
 refine WC.condN rfl (decide_eq_false c0) ?_
 refine WC.sn (WC.seq ?_)
 refine WC.draw [0, 1, 4, 5, 2, 3, 6, 7, 8] mixed (by kernel_rfl) ?_
 intro w4 d4
 have L11 := L8.trans d4
 refine G.a rfl (.field0 fa61_0 rfl) ?_
 have f12 := (f6.le (h2_2.trans (h2_3.trans d4)))
 refine G.r rfl (.loadB (v := .slice An nn cn) na59 rfl f12 rfl) ?_
 refine G.a rfl (.field0 fa61_1 rfl) ?_
 refine G.r rfl (.loadB (v := .slice Ad nd cd) na59 rfl f12 rfl) ?_
 refine G.ef rfl rfl rfl rfl rfl ?_
 refine Ef.call go166 rfl rfl (ntext_ok w4 (hT.le L11) (hn.le L11) (by omega) (by omega)) ?_
 rintro _ w4_2 ⟨rfl, h4_2⟩
 refine ⟨_, rfl, ?_⟩
 refine ⟨fun _ => h4_2, ?_⟩
 have L13 := L11.trans h4_2
 refine G.a rfl (.addStr (a := Lib.itoa ((p : Nat) : Int)) (b := ([47] : List UInt8)) rfl rfl (Nat.le_trans (itoa_len (by omega)) (by decide)) (by decide)) ?_
 refine G.ef rfl rfl rfl rfl rfl ?_
 refine Ef.call go166 rfl rfl (ntext_ok w4_2 (hT.le L13) (hd.le L13) (by omega) (by omega)) ?_
 rintro _ w4_6 ⟨rfl, h4_6⟩
 refine ⟨_, rfl, ?_⟩
 refine ⟨fun _ => h4_6, ?_⟩
 have L14 := L13.trans h4_6
 refine G.a rfl (.addStr (a := (Lib.itoa ((p : Nat) : Int)) ++ ([47] : List UInt8)) (b := Lib.itoa ((q : Nat) : Int)) rfl rfl (by have := itoa_len (p := p) (by omega); simp only [List.length_append, List.length_cons, List.length_nil]; omega) (Nat.le_trans (itoa_len (by omega)) (by decide))) ?_
 refine G.run 1 rfl (G.nil (E.thenN (WC.ret ?_)))
 refine E.retG1 rfl rfl ?_
 exact ⟨congrArg (fun v => Ending.returned (Value.string ⟨List.toArray v⟩)) (by unfold textF; first | rw [if_pos (cmpN_eq.1 (by assumption))] | rw [if_neg (fun h => absurd (cmpN_eq.2 h) (by assumption))]), L14⟩
end Go.Proofs.YtocheaahlpiajaaGreatDoor

namespace Go.Proofs.YtocheaahlpiajaaGreatDoor
open Tryz
open Go Go.Sx Go.Hsp Go.Num Go.Osp Go.Gsp Go.Nsp Go.Msp Go.Rtp
set_option maxRecDepth 20000
def sE (c f t r m : Int) : Gsp.Edge := ⟨f, t, c, r, ⟨0, 0, 5, 1, m⟩⟩
def sG : List Gsp.Edge := [sE 0 0 1 99 60, sE 1 0 1 49 49]
def sM0 : MF := fun _ => none
structure Sm1 (b : List Prt × Fr × Int) : Prop where
  len : b.1.length = 2
  amt : (b.1.getD 0 noPrt).amt = 40
  w0 : (b.1.getD 0 noPrt).way = [sE 0 0 1 99 60]
  w1 : (b.1.getD 1 noPrt).way = [sE 0 0 1 99 60]
  on : b.2.1.n = 1
  od : b.2.1.d = 5
  e : b.2.2 = 0
  t : totP b.1 = 80
  ok : b.1.length <= 8 /\ ∀ p ∈ b.1, ∀ s ∈ p.sent, 0 <= s /\ s <= 1125899906842624
theorem sp1 : Sm1 (splitG sG sM0 0 1 80 50 2) := ⟨by decide +kernel, by decide +kernel, by decide +kernel, by decide +kernel, by decide +kernel, by decide +kernel, by decide +kernel, by decide +kernel, by decide +kernel⟩
theorem sp2 : (splitG sG sM0 0 1 80 50 1).2.2 = 19 := by decide +kernel
theorem sp3 : (splitG sG sM0 0 1 80 50 0).2.2 = 1 := by decide +kernel
theorem sp4 : (splitG sG sM0 0 0 80 50 2).2.2 = 1 := by decide +kernel
structure Sm5 (b : List Prt × Fr × Int) : Prop where
  len : b.1.length = 1
  w0 : (b.1.getD 0 noPrt).way = [sE 0 0 1 99 60]
  on : b.2.1.n = 7
  od : b.2.1.d = 10
  e : b.2.2 = 0
theorem sp5 : Sm5 (tryG sG sM0 0 1 30 50 1) := ⟨by decide +kernel, by decide +kernel, by decide +kernel, by decide +kernel, by decide +kernel⟩
theorem stx3 : textF 1 5 = [49, 47, 53] := by simp [textF, Lib.itoa, Lib.decDigits]
theorem stx4 : textF 7 10 = [55, 47, 49, 48] := by simp [textF, Lib.itoa, Lib.decDigits]
theorem plansL_nil (s : Nat) (seed : List Byte) : plansL s seed [] = [] := by
  unfold plansL
  split <;> rfl
set_option maxHeartbeats 4000000 in
theorem small39_ok (w : World) (hT : Tab w) : Calls prog 13 #[] w fun r w' => r = .returned (.bool true) /\ Le w w' := by
 have hq1 := digs_len_one (d := 1) (by decide); have hq2 := digs_len_one (d := 5) (by decide); have hq3 := digs_len_one (d := 7) (by decide); have hq4 := digs_len_one (d := 10) (by decide)
 refine enter func13 rfl rfl ?_
 have L0 := Le.refl w
 refine WC.sr (W.run 1 rfl (W.nx (WC.sr ?_)))
 refine W.cl go43 rfl rfl (edge39_ok 0 0 1 99 60 w) ?_
 rintro _ w1_0 ⟨rfl, h1_0⟩
 have L1 := L0.trans h1_0
 refine W.cl go43 rfl rfl (edge39_ok 1 0 1 49 49 w1_0) ?_
 rintro _ w1_1 ⟨rfl, h1_1⟩
 have L2 := L1.trans h1_1
 refine W.ef rfl rfl rfl ?_
 refine Ef.buildSliceV (len := 2) [_, _] underlying32 el81 rfl (by simp [Value.cells, edgeV_row.len]) rfl (by decide) (by decide) ?_
 intro g1_2 w1_2 hg1_2 b1_2 h1_2
 have L3 := L2.trans h1_2
 have b1_2 : Blk w1_2 g1_2 81 (([(sE 0 0 1 99 60), (sE 1 0 1 49 49)]).map edgeV).flatten.toArray := b1_2
 have o1_2 : OVec w1_2 w1_1.heap.size 81 edgeV 9 (some ⟨g1_2, 0, none⟩) 2 2 ([(sE 0 0 1 99 60), (sE 1 0 1 49 49)]) := b1_2.ovec hg1_2 edgeV_row rfl rfl (by decide)
 have o4 := o1_2.cast (m' := 2) (ys := sG) (rfl) (rfl)
 refine W.run 1 rfl (W.nx (WC.sr ?_))
 refine W.cl go64 rfl rfl (new_mind w1_2) ?_
 rintro _ w2_0 ⟨gp2_0, F2_0, rfl, p2_0, h2_0⟩
 have L5 := L3.trans h2_0
 refine W.run 1 rfl (W.nx (WC.seq (WC.sr (W.run 1 rfl ?_))))
 refine W.a (.dec (.isNilP (by kernel_rfl) rfl) rfl) ?_
 refine W.nx (WC.condF rfl (WC.sn (WC.sr (W.run 2 rfl ?_))))
 have f6 := (o4.le h2_0)
 obtain ⟨b1, heb1⟩ : ∃ z, z = (splitG sG (fun _ => none : MF) 0 1 80 50 2) := ⟨_, rfl⟩
 have hlb1 := splitG_len (g := sG) (m := (fun _ => none : MF)) (fr := 0) (to := 1) (a := 80) (x := 50) (n := 2) (show GoodM (fun _ => none) from none_good)
 rw [<- heb1] at hlb1; unfold LenF at hlb1
 refine W.cl go30 rfl rfl ((by have k := spbest_ok (c := 2) 0 1 80 50 2 w2_0 p2_0 f6.vec (by omega) (by decide); rw [<- heb1] at k; exact k)) ?_
 rintro _ w5_2 ⟨Ap5_2, cp5_2, rs5_2, An5_2, cn5_2, Ad5_2, cd5_2, rfl, op5_2, pa5_2, on5_2, od5_2, hz5_2, h5_2⟩
 have L7 := L5.trans h5_2
 have hr5_2 := pa5_2.1
 have sb1 : Sm1 b1 := heb1 ▸ sp1
 have sb1 : Sm1 b1 := heb1 ▸ sp1
 refine W.run 1 rfl ?_
 refine W.a (.extract (v := .slice Ap5_2 b1.1.length cp5_2) rfl rfl) ?_
 refine W.a (.extract (v := .agg #[.slice An5_2 ((digs b1.2.1.n).length) cn5_2, .slice Ad5_2 ((digs b1.2.1.d).length) cd5_2]) rfl rfl) ?_
 refine W.a (.extract (v := .int .i64 (b1.2.2)) rfl rfl) ?_
 refine W.ef rfl rfl rfl ?_
 refine Ef.allocA z61 ?_
 intro g5_7 w5_7 hg5_7 b5_7 h5_7
 have L8 := L7.trans h5_7
 have b5_7 : Blk w5_7 g5_7 61 #[.slice none 0 0, .slice none 0 0] := b5_7
 refine W.run 1 rfl ?_
 refine W.sA sz61 rfl rfl b5_7 ?_
 intro w5_9 b5_9 h5_9
 have b5_9 : Blk w5_9 g5_7 61 #[.slice An5_2 ((digs b1.2.1.n).length) cn5_2, .slice Ad5_2 ((digs b1.2.1.d).length) cd5_2] := b5_9
 have L9 := L8.tb h5_9 L7 hg5_7
 refine W.run 1 rfl (W.nx (WC.sr (W.run 2 rfl ?_)))
 have f10 := ((p2_0.le (h5_2.trans h5_7)).ch h5_9 (fun q hqq hF => by cases hqq; have := p2_0.lt hF; have := h5_2.size; have := hg5_7; omega))
 have f11 := ((f6.le (h5_2.trans h5_7)).ch h5_9 (fun q hq => by cases hq; exact (fun he => by have := (f6.row he).2; have := h5_2.size; omega)))
 obtain ⟨b2, heb2⟩ : ∃ z, z = (splitG sG (fun _ => none : MF) 0 1 80 50 1) := ⟨_, rfl⟩
 have hlb2 := splitG_len (g := sG) (m := (fun _ => none : MF)) (fr := 0) (to := 1) (a := 80) (x := 50) (n := 1) (show GoodM (fun _ => none) from none_good)
 rw [<- heb2] at hlb2; unfold LenF at hlb2
 refine W.cl go30 rfl rfl ((by have k := spbest_ok (c := 2) 0 1 80 50 1 w5_9 f10 f11.vec (by omega) (by decide); rw [<- heb2] at k; exact k)) ?_
 rintro _ w6_2 ⟨Ap6_2, cp6_2, rs6_2, An6_2, cn6_2, Ad6_2, cd6_2, rfl, op6_2, pa6_2, on6_2, od6_2, hz6_2, h6_2⟩
 have L12 := L9.trans h6_2
 have hr6_2 := pa6_2.1
 have sb2 : b2.2.2 = 19 := heb2 ▸ sp2
 have sb2 : b2.2.2 = 19 := heb2 ▸ sp2
 refine W.run 1 rfl ?_
 refine W.a (.extract (v := .slice Ap6_2 b2.1.length cp6_2) rfl rfl) ?_
 refine W.a (.extract (v := .agg #[.slice An6_2 ((digs b2.2.1.n).length) cn6_2, .slice Ad6_2 ((digs b2.2.1.d).length) cd6_2]) rfl rfl) ?_
 refine W.a (.extract (v := .int .i64 (b2.2.2)) rfl rfl) ?_
 refine W.ef rfl rfl rfl ?_
 refine Ef.allocA z61 ?_
 intro g6_7 w6_7 hg6_7 b6_7 h6_7
 have L13 := L12.trans h6_7
 have b6_7 : Blk w6_7 g6_7 61 #[.slice none 0 0, .slice none 0 0] := b6_7
 refine W.run 1 rfl ?_
 refine W.sA sz61 rfl rfl b6_7 ?_
 intro w6_9 b6_9 h6_9
 have L14 := L13.tb h6_9 L12 hg6_7
 refine W.run 1 rfl (W.nx (WC.sr (W.run 2 rfl ?_)))
 have f15 := ((f10.le (h6_2.trans h6_7)).ch h6_9 (fun q hqq hF => by cases hqq; have := f10.lt hF; have := h6_2.size; have := hg6_7; omega))
 have f16 := ((f11.le (h6_2.trans h6_7)).ch h6_9 (fun q hq => by cases hq; exact (fun he => by have := (f11.row he).2; have := h6_2.size; omega)))
 obtain ⟨b3, heb3⟩ : ∃ z, z = (splitG sG (fun _ => none : MF) 0 1 80 50 0) := ⟨_, rfl⟩
 have hlb3 := splitG_len (g := sG) (m := (fun _ => none : MF)) (fr := 0) (to := 1) (a := 80) (x := 50) (n := 0) (show GoodM (fun _ => none) from none_good)
 rw [<- heb3] at hlb3; unfold LenF at hlb3
 refine W.cl go30 rfl rfl ((by have k := spbest_ok (c := 2) 0 1 80 50 0 w6_9 f15 f16.vec (by omega) (by decide); rw [<- heb3] at k; exact k)) ?_
 rintro _ w7_2 ⟨Ap7_2, cp7_2, rs7_2, An7_2, cn7_2, Ad7_2, cd7_2, rfl, op7_2, pa7_2, on7_2, od7_2, hz7_2, h7_2⟩
 have L17 := L14.trans h7_2
 have hr7_2 := pa7_2.1
 have sb3 : b3.2.2 = 1 := heb3 ▸ sp3
 have sb3 : b3.2.2 = 1 := heb3 ▸ sp3
 refine W.run 1 rfl ?_
 refine W.a (.extract (v := .slice Ap7_2 b3.1.length cp7_2) rfl rfl) ?_
 refine W.a (.extract (v := .agg #[.slice An7_2 ((digs b3.2.1.n).length) cn7_2, .slice Ad7_2 ((digs b3.2.1.d).length) cd7_2]) rfl rfl) ?_
 refine W.a (.extract (v := .int .i64 (b3.2.2)) rfl rfl) ?_
 refine W.ef rfl rfl rfl ?_
 refine Ef.allocA z61 ?_
 intro g7_7 w7_7 hg7_7 b7_7 h7_7
 have L18 := L17.trans h7_7
 have b7_7 : Blk w7_7 g7_7 61 #[.slice none 0 0, .slice none 0 0] := b7_7
 refine W.run 1 rfl ?_
 refine W.sA sz61 rfl rfl b7_7 ?_
 intro w7_9 b7_9 h7_9
 have L19 := L18.tb h7_9 L17 hg7_7
 refine W.run 1 rfl (W.nx (WC.sr (W.run 2 rfl ?_)))
 have f20 := ((f15.le (h7_2.trans h7_7)).ch h7_9 (fun q hqq hF => by cases hqq; have := f15.lt hF; have := h7_2.size; have := hg7_7; omega))
 have f21 := ((f16.le (h7_2.trans h7_7)).ch h7_9 (fun q hq => by cases hq; exact (fun he => by have := (f16.row he).2; have := h7_2.size; omega)))
 obtain ⟨b4, heb4⟩ : ∃ z, z = (splitG sG (fun _ => none : MF) 0 0 80 50 2) := ⟨_, rfl⟩
 have hlb4 := splitG_len (g := sG) (m := (fun _ => none : MF)) (fr := 0) (to := 0) (a := 80) (x := 50) (n := 2) (show GoodM (fun _ => none) from none_good)
 rw [<- heb4] at hlb4; unfold LenF at hlb4
 refine W.cl go30 rfl rfl ((by have k := spbest_ok (c := 2) 0 0 80 50 2 w7_9 f20 f21.vec (by omega) (by decide); rw [<- heb4] at k; exact k)) ?_
 rintro _ w8_2 ⟨Ap8_2, cp8_2, rs8_2, An8_2, cn8_2, Ad8_2, cd8_2, rfl, op8_2, pa8_2, on8_2, od8_2, hz8_2, h8_2⟩
 have L22 := L19.trans h8_2
 have hr8_2 := pa8_2.1
 have sb4 : b4.2.2 = 1 := heb4 ▸ sp4
 have sb4 : b4.2.2 = 1 := heb4 ▸ sp4
 refine W.run 1 rfl ?_
 refine W.a (.extract (v := .slice Ap8_2 b4.1.length cp8_2) rfl rfl) ?_
 refine W.a (.extract (v := .agg #[.slice An8_2 ((digs b4.2.1.n).length) cn8_2, .slice Ad8_2 ((digs b4.2.1.d).length) cd8_2]) rfl rfl) ?_
 refine W.a (.extract (v := .int .i64 (b4.2.2)) rfl rfl) ?_
 refine W.ef rfl rfl rfl ?_
 refine Ef.allocA z61 ?_
 intro g8_7 w8_7 hg8_7 b8_7 h8_7
 have L23 := L22.trans h8_7
 have b8_7 : Blk w8_7 g8_7 61 #[.slice none 0 0, .slice none 0 0] := b8_7
 refine W.run 1 rfl ?_
 refine W.sA sz61 rfl rfl b8_7 ?_
 intro w8_9 b8_9 h8_9
 have L24 := L23.tb h8_9 L22 hg8_7
 refine W.run 1 rfl (W.nx (WC.sr (W.run 2 rfl ?_)))
 have f25 := ((f20.le (h8_2.trans h8_7)).ch h8_9 (fun q hqq hF => by cases hqq; have := f20.lt hF; have := h8_2.size; have := hg8_7; omega))
 have f26 := ((f21.le (h8_2.trans h8_7)).ch h8_9 (fun q hq => by cases hq; exact (fun he => by have := (f21.row he).2; have := h8_2.size; omega)))
 obtain ⟨b5, heb5⟩ : ∃ z, z = (tryG sG (fun _ => none : MF) 0 1 30 50 1) := ⟨_, rfl⟩
 have hlb5 := tryG_len (g := sG) (m := (fun _ => none : MF)) (fr := 0) (to := 1) (a := 30) (x := 50) (n := 1) (show GoodM (fun _ => none) from none_good)
 rw [<- heb5] at hlb5; unfold LenF at hlb5
 refine W.cl go28 rfl rfl ((by have k := sptry_ok (c := 2) 0 1 30 50 1 w8_9 f25 f26.vec (by omega) (by decide); rw [<- heb5] at k; exact k)) ?_
 rintro _ w9_2 ⟨Ap9_2, cp9_2, rs9_2, An9_2, cn9_2, Ad9_2, cd9_2, rfl, op9_2, pa9_2, on9_2, od9_2, hz9_2, h9_2⟩
 have L27 := L24.trans h9_2
 have hr9_2 := pa9_2.1
 have sb5 : Sm5 b5 := heb5 ▸ sp5
 have sb5 : Sm5 b5 := heb5 ▸ sp5
 refine W.run 1 rfl ?_
 refine W.a (.extract (v := .slice Ap9_2 b5.1.length cp9_2) rfl rfl) ?_
 refine W.a (.extract (v := .agg #[.slice An9_2 ((digs b5.2.1.n).length) cn9_2, .slice Ad9_2 ((digs b5.2.1.d).length) cd9_2]) rfl rfl) ?_
 refine W.a (.extract (v := .int .i64 (b5.2.2)) rfl rfl) ?_
 refine W.ef rfl rfl rfl ?_
 refine Ef.allocA z61 ?_
 intro g9_7 w9_7 hg9_7 b9_7 h9_7
 have L28 := L27.trans h9_7
 have b9_7 : Blk w9_7 g9_7 61 #[.slice none 0 0, .slice none 0 0] := b9_7
 refine W.run 1 rfl ?_
 refine W.sA sz61 rfl rfl b9_7 ?_
 intro w9_9 b9_9 h9_9
 have b9_9 : Blk w9_9 g9_7 61 #[.slice An9_2 ((digs b5.2.1.n).length) cn9_2, .slice Ad9_2 ((digs b5.2.1.d).length) cd9_2] := b9_9
 have L29 := L28.tb h9_9 L27 hg9_7
 refine W.run 1 rfl (W.nx (WC.seq (WC.sr ?_)))
 have l1 := sb1.len; have l5 := sb5.len
 have f30 := ((((((((((pa5_2.le h5_7).chB h5_9 b5_7 (by decide) (by decide)).le (h6_2.trans h6_7)).chB h6_9 b6_7 (by decide) (by decide)).le (h7_2.trans h7_7)).chB h7_9 b7_7 (by decide) (by decide)).le (h8_2.trans h8_7)).chB h8_9 b8_7 (by decide) (by decide)).le (h9_2.trans h9_7)).chB h9_9 b9_7 (by decide) (by decide))
 have pa := f30.2 0 (by omega)
 have paa := pa.amt; have paw := pa.way.1; have pas := pa.sent.1; have pat := pa.till.1
 have pb := f30.2 1 (by omega)
 have pba := pb.amt; have pbw := pb.way.1; have pbs := pb.sent.1; have pbt := pb.till.1
 have f31 := ((pa9_2.le h9_7).chB h9_9 b9_7 (by decide) (by decide))
 have pc := f31.2 0 (by omega)
 have pca := pc.amt; have pcw := pc.way.1; have pcs := pc.sent.1; have pct := pc.till.1
 have w0l : (b1.1.getD 0 noPrt).way.length = 1 := by rw [sb1.w0]; rfl
 have w1l : (b1.1.getD 1 noPrt).way.length = 1 := by rw [sb1.w1]; rfl
 have w5l : (b5.1.getD 0 noPrt).way.length = 1 := by rw [sb5.w0]; rfl
 refine W.run 1 rfl ?_
 refine W.r (.len underlying31 rfl) ?_
 refine W.a (.dec (.neq rfl rfl) (decide_eq_false (by omega))) ?_
 refine W.run 2 rfl ?_
 refine W.g (Any.rd (.idxS (0) underlying31 sz34 rfl rfl (op5_2.vec.isSome prV_row (by omega)) (rfl) (by omega)) _) ?_
 refine W.g (Any.rd (.vfield fa34_1 (op5_2.vec.isSome prV_row (by omega)) rfl) _) ?_
 have f32 := ((((((((((op5_2.le h5_7).ch h5_9 (fun q hq => by cases hq; exact (fun he => by have := (op5_2.row he).2; omega))).le (h6_2.trans h6_7)).ch h6_9 (fun q hq => by cases hq; exact (fun he => by have := (op5_2.row he).2; have := h5_7.size; have := h5_9.size; have := h6_2.size; omega))).le (h7_2.trans h7_7)).ch h7_9 (fun q hq => by cases hq; exact (fun he => by have := (op5_2.row he).2; have := h5_7.size; have := h5_9.size; have := h6_2.size; have := h6_7.size; have := h6_9.size; have := h7_2.size; omega))).le (h8_2.trans h8_7)).ch h8_9 (fun q hq => by cases hq; exact (fun he => by have := (op5_2.row he).2; have := h5_7.size; have := h5_9.size; have := h6_2.size; have := h6_7.size; have := h6_9.size; have := h7_2.size; have := h7_7.size; have := h7_9.size; have := h8_2.size; omega))).le (h9_2.trans h9_7)).ch h9_9 (fun q hq => by cases hq; exact (fun he => by have := (op5_2.row he).2; have := h5_7.size; have := h5_9.size; have := h6_2.size; have := h6_7.size; have := h6_9.size; have := h7_2.size; have := h7_7.size; have := h7_9.size; have := h8_2.size; have := h8_7.size; have := h8_9.size; have := h9_2.size; omega)))
 refine W.g (.vcell (j := 0) (o := 1) (v := .slice ((rs5_2.getD 0 noPaR).wA) ((rs5_2.getD 0 noPaR).wN) ((rs5_2.getD 0 noPaR).wC)) na32 rfl f32.vec prV_row (getS rs5_2 noPaR (by omega)) rfl) ?_
 refine W.g (.len underlying32 rfl) ?_
 refine W.g (Any.rd (.dec (.neq rfl rfl) (decide_eq_false (by omega))) _) ?_
 refine W.run 3 rfl ?_
 refine W.g (Any.rd (.idxS (1) underlying31 sz34 rfl rfl (op5_2.vec.isSome prV_row (by omega)) (rfl) (by omega)) _) ?_
 refine W.g (Any.rd (.vfield fa34_1 (op5_2.vec.isSome prV_row (by omega)) rfl) _) ?_
 refine W.g (.vcell (j := 1) (o := 1) (v := .slice ((rs5_2.getD 1 noPaR).wA) ((rs5_2.getD 1 noPaR).wN) ((rs5_2.getD 1 noPaR).wC)) na32 rfl f32.vec prV_row (getS rs5_2 noPaR (by omega)) rfl) ?_
 refine W.g (.len underlying32 rfl) ?_
 refine W.g (Any.rd (.dec (.neq rfl rfl) (decide_eq_false (by omega))) _) ?_
 refine W.run 3 rfl ?_
 refine W.g (.len underlying31 rfl) ?_
 refine W.g (Any.rd (.dec (.neq rfl rfl) (decide_eq_false (by omega))) _) ?_
 refine W.run 3 rfl ?_
 refine W.g (Any.rd (.idxS (0) underlying31 sz34 rfl rfl (op9_2.vec.isSome prV_row (by omega)) (rfl) (by omega)) _) ?_
 refine W.g (Any.rd (.vfield fa34_1 (op9_2.vec.isSome prV_row (by omega)) rfl) _) ?_
 have f33 := ((op9_2.le h9_7).ch h9_9 (fun q hq => by cases hq; exact (fun he => by have := (op9_2.row he).2; omega)))
 refine W.g (.vcell (j := 0) (o := 1) (v := .slice ((rs9_2.getD 0 noPaR).wA) ((rs9_2.getD 0 noPaR).wN) ((rs9_2.getD 0 noPaR).wC)) na32 rfl f33.vec prV_row (getS rs9_2 noPaR (by omega)) rfl) ?_
 refine W.g (.len underlying32 rfl) ?_
 refine W.g (Any.rd (.dec (.neq rfl rfl) (decide_eq_false (by omega))) _) ?_
 refine W.run 1 rfl (W.nx (WC.condF rfl (WC.sn (WC.sr (W.run 1 rfl ?_)))))
 refine W.a (.idxS (0) underlying31 sz34 rfl rfl (op5_2.vec.isSome prV_row (by omega)) (rfl) (by omega)) ?_
 refine W.a (.vfield fa34_0 (op5_2.vec.isSome prV_row (by omega)) rfl) ?_
 refine W.r (.vcell (j := 0) (o := 0) (v := .int .i64 ((rs5_2.getD 0 noPaR).amt)) na3 rfl f32.vec prV_row (getS rs5_2 noPaR (by omega)) rfl) ?_
 refine W.a (.dec (.eql rfl rfl) (decide_eq_true (by rw [paa]; exact sb1.amt))) ?_
 refine W.run 2 rfl ?_
 refine W.g (Any.rd (.idxS (0) underlying31 sz34 rfl rfl (op5_2.vec.isSome prV_row (by omega)) (rfl) (by omega)) _) ?_
 refine W.g (Any.rd (.vfield fa34_1 (op5_2.vec.isSome prV_row (by omega)) rfl) _) ?_
 refine W.g (.vcell (j := 0) (o := 1) (v := .slice ((rs5_2.getD 0 noPaR).wA) ((rs5_2.getD 0 noPaR).wN) ((rs5_2.getD 0 noPaR).wC)) na32 rfl f32.vec prV_row (getS rs5_2 noPaR (by omega)) rfl) ?_
 refine W.g (Any.rd (.idxS (0) underlying32 sz81 rfl rfl (pa.way.vec.isSome edgeV_row (by omega)) (rfl) (by omega)) _) ?_
 refine W.g (Any.rd (.vfield fa81_2 (pa.way.vec.isSome edgeV_row (by omega)) rfl) _) ?_
 refine W.g (.vcell (j := 0) (o := 2) (v := .int .i64 ((((b1.1.getD 0 noPrt).way).getD 0 noEdge).c)) na3 rfl pa.way.vec edgeV_row (getS ((b1.1.getD 0 noPrt).way) noEdge (by first | omega | (simp only [List.length_cons, List.length_nil]; omega))) rfl) ?_
 refine W.g (Any.rd (.dec (.eql rfl rfl) (decide_eq_true (by rw [sb1.w0]; rfl))) _) ?_
 refine W.run 3 rfl ?_
 refine W.g (Any.rd (.idxS (1) underlying31 sz34 rfl rfl (op5_2.vec.isSome prV_row (by omega)) (rfl) (by omega)) _) ?_
 refine W.g (Any.rd (.vfield fa34_1 (op5_2.vec.isSome prV_row (by omega)) rfl) _) ?_
 refine W.g (.vcell (j := 1) (o := 1) (v := .slice ((rs5_2.getD 1 noPaR).wA) ((rs5_2.getD 1 noPaR).wN) ((rs5_2.getD 1 noPaR).wC)) na32 rfl f32.vec prV_row (getS rs5_2 noPaR (by omega)) rfl) ?_
 refine W.g (Any.rd (.idxS (0) underlying32 sz81 rfl rfl (pb.way.vec.isSome edgeV_row (by omega)) (rfl) (by omega)) _) ?_
 refine W.g (Any.rd (.vfield fa81_2 (pb.way.vec.isSome edgeV_row (by omega)) rfl) _) ?_
 refine W.g (.vcell (j := 0) (o := 2) (v := .int .i64 ((((b1.1.getD 1 noPrt).way).getD 0 noEdge).c)) na3 rfl pb.way.vec edgeV_row (getS ((b1.1.getD 1 noPrt).way) noEdge (by first | omega | (simp only [List.length_cons, List.length_nil]; omega))) rfl) ?_
 refine W.g (Any.rd (.dec (.eql rfl rfl) (decide_eq_true (by rw [sb1.w1]; rfl))) _) ?_
 refine W.run 2 rfl ?_
 have f34 := ((((((((b5_9.le (h6_2.trans h6_7)).ch h6_9 (fun h => (show g6_7 ≠ g5_7 from by have := b5_9.lt; have := h6_2.size; omega) (Option.some.inj h))).le (h7_2.trans h7_7)).ch h7_9 (fun h => (show g7_7 ≠ g5_7 from by have := b5_9.lt; have := h6_2.size; have := h6_7.size; have := h6_9.size; have := h7_2.size; omega) (Option.some.inj h))).le (h8_2.trans h8_7)).ch h8_9 (fun h => (show g8_7 ≠ g5_7 from by have := b5_9.lt; have := h6_2.size; have := h6_7.size; have := h6_9.size; have := h7_2.size; have := h7_7.size; have := h7_9.size; have := h8_2.size; omega) (Option.some.inj h))).le (h9_2.trans h9_7)).ch h9_9 (fun h => (show g9_7 ≠ g5_7 from by have := b5_9.lt; have := h6_2.size; have := h6_7.size; have := h6_9.size; have := h7_2.size; have := h7_7.size; have := h7_9.size; have := h8_2.size; have := h8_7.size; have := h8_9.size; have := h9_2.size; omega) (Option.some.inj h)))
 refine W.g (.loadAll ag61 (by rfl) rfl f34) ?_
 have f35 := ((((((((((on5_2.le h5_7).ch h5_9 (fun q hq => by cases hq; exact (fun he => by have := (on5_2.row he).2; omega))).le (h6_2.trans h6_7)).ch h6_9 (fun q hq => by cases hq; exact (fun he => by have := (on5_2.row he).2; have := h5_7.size; have := h5_9.size; have := h6_2.size; omega))).le (h7_2.trans h7_7)).ch h7_9 (fun q hq => by cases hq; exact (fun he => by have := (on5_2.row he).2; have := h5_7.size; have := h5_9.size; have := h6_2.size; have := h6_7.size; have := h6_9.size; have := h7_2.size; omega))).le (h8_2.trans h8_7)).ch h8_9 (fun q hq => by cases hq; exact (fun he => by have := (on5_2.row he).2; have := h5_7.size; have := h5_9.size; have := h6_2.size; have := h6_7.size; have := h6_9.size; have := h7_2.size; have := h7_7.size; have := h7_9.size; have := h8_2.size; omega))).le (h9_2.trans h9_7)).ch h9_9 (fun q hq => by cases hq; exact (fun he => by have := (on5_2.row he).2; have := h5_7.size; have := h5_9.size; have := h6_2.size; have := h6_7.size; have := h6_9.size; have := h7_2.size; have := h7_7.size; have := h7_9.size; have := h8_2.size; have := h8_7.size; have := h8_9.size; have := h9_2.size; omega)))
 have f36 := ((((((((((od5_2.le h5_7).ch h5_9 (fun q hq => by cases hq; exact (fun he => by have := (od5_2.row he).2; omega))).le (h6_2.trans h6_7)).ch h6_9 (fun q hq => by cases hq; exact (fun he => by have := (od5_2.row he).2; have := h5_7.size; have := h5_9.size; have := h6_2.size; omega))).le (h7_2.trans h7_7)).ch h7_9 (fun q hq => by cases hq; exact (fun he => by have := (od5_2.row he).2; have := h5_7.size; have := h5_9.size; have := h6_2.size; have := h6_7.size; have := h6_9.size; have := h7_2.size; omega))).le (h8_2.trans h8_7)).ch h8_9 (fun q hq => by cases hq; exact (fun he => by have := (od5_2.row he).2; have := h5_7.size; have := h5_9.size; have := h6_2.size; have := h6_7.size; have := h6_9.size; have := h7_2.size; have := h7_7.size; have := h7_9.size; have := h8_2.size; omega))).le (h9_2.trans h9_7)).ch h9_9 (fun q hq => by cases hq; exact (fun he => by have := (od5_2.row he).2; have := h5_7.size; have := h5_9.size; have := h6_2.size; have := h6_7.size; have := h6_9.size; have := h7_2.size; have := h7_7.size; have := h7_9.size; have := h8_2.size; have := h8_7.size; have := h8_9.size; have := h9_2.size; omega)))
 refine W.efg rfl rfl rfl (rfl) rfl rfl ?_
 refine Ef.call go71 rfl rfl (ftext_ok w9_9 (hT.le L29) f35.vec f36.vec (by omega) (by omega) (by rw [sb1.on, sb1.od]; decide +kernel) (by rw [sb1.on]; decide) (by rw [sb1.od]; decide)) ?_
 rintro _ w12_27 ⟨rfl, h12_27⟩
 refine ⟨_, rfl, ?_⟩
 have L37 := L29.trans h12_27
 refine W.g (Any.rd (.eqlYes (a := textF b1.2.1.n b1.2.1.d) (b := ([49, 47, 53] : List UInt8)) rfl rfl ((by rw [sb1.on, sb1.od]; exact stx3))) _) ?_
 refine W.run 3 rfl ?_
 have f38 := (f30.le h12_27)
 have f39 := (f32.le h12_27)
 refine W.efg rfl rfl rfl (rfl) rfl rfl ?_
 refine Ef.call go42 rfl rfl (sptotal_ok (c := cp5_2) w12_27 f39.vec f38 (by omega) sb1.ok) ?_
 rintro _ w12_32 ⟨rfl, h12_32⟩
 refine ⟨_, rfl, ?_⟩
 have L40 := L37.trans h12_32
 refine W.g (Any.rd (.dec (.eql rfl rfl) (decide_eq_true (sb1.t))) _) ?_
 refine W.run 2 rfl (W.nx (WC.sr (W.run 2 rfl ?_)))
 refine W.a (.idxS (0) underlying32 sz81 rfl rfl (o1_2.vec.isSome edgeV_row (by omega)) (rfl) (by omega)) ?_
 have f41 := (((f26.le (h9_2.trans h9_7)).ch h9_9 (fun q hq => by cases hq; exact (fun he => by have := (f26.row he).2; have := h9_2.size; omega))).le (h12_27.trans h12_32))
 refine W.r (.vload ag81 rfl f41.vec edgeV_row (getS sG noEdge (show 0 < sG.length by decide))) ?_
 have f42 := (((f25.le (h9_2.trans h9_7)).ch h9_9 (fun q hqq hF => by cases hqq; have := f25.lt hF; have := h9_2.size; have := hg9_7; omega)).le (h12_27.trans h12_32))
 refine W.cl go72 rfl rfl (bnd_mind (sG.getD 0 noEdge) f42) ?_
 rintro _ w13_4 ⟨rfl, h13_4⟩
 have L43 := L40.trans h13_4
 refine W.run 1 rfl ?_
 refine W.a (.extract (v := .int .i64 ((bndM (fun _ => none : MF) (sG.getD 0 noEdge)).1)) rfl rfl) ?_
 refine W.a (.extract (v := .int .i64 ((bndM (fun _ => none : MF) (sG.getD 0 noEdge)).2)) rfl rfl) ?_
 refine W.run 2 rfl (W.nx (WC.sr (W.run 1 rfl ?_)))
 refine W.a (.dec (.eql rfl rfl) (decide_eq_true (sb1.e))) ?_
 refine W.run 2 rfl ?_
 refine W.g (Any.rd (.dec (.eql rfl rfl) (decide_eq_true (sb2))) _) ?_
 refine W.run 3 rfl ?_
 refine W.g (Any.rd (.dec (.eql rfl rfl) (decide_eq_true (sb3))) _) ?_
 refine W.run 3 rfl ?_
 refine W.g (Any.rd (.dec (.eql rfl rfl) (decide_eq_true (sb4))) _) ?_
 refine W.run 3 rfl ?_
 refine W.g (Any.rd (.dec (.eql rfl rfl) (decide_eq_true (sb5.e))) _) ?_
 refine W.run 6 rfl ?_
 refine W.g (Any.rd (.idxS (0) underlying31 sz34 rfl rfl (op9_2.vec.isSome prV_row (by omega)) (rfl) (by omega)) _) ?_
 refine W.g (Any.rd (.vfield fa34_1 (op9_2.vec.isSome prV_row (by omega)) rfl) _) ?_
 have f44 := (f33.le (h12_27.trans (h12_32.trans h13_4)))
 refine W.g (.vcell (j := 0) (o := 1) (v := .slice ((rs9_2.getD 0 noPaR).wA) ((rs9_2.getD 0 noPaR).wN) ((rs9_2.getD 0 noPaR).wC)) na32 rfl f44.vec prV_row (getS rs9_2 noPaR (by omega)) rfl) ?_
 refine W.g (Any.rd (.idxS (0) underlying32 sz81 rfl rfl (pc.way.vec.isSome edgeV_row (by omega)) (rfl) (by omega)) _) ?_
 refine W.g (Any.rd (.vfield fa81_2 (pc.way.vec.isSome edgeV_row (by omega)) rfl) _) ?_
 have f45 := (pc.way.le (h12_27.trans (h12_32.trans h13_4)))
 refine W.g (.vcell (j := 0) (o := 2) (v := .int .i64 ((((b5.1.getD 0 noPrt).way).getD 0 noEdge).c)) na3 rfl f45.vec edgeV_row (getS ((b5.1.getD 0 noPrt).way) noEdge (by first | omega | (simp only [List.length_cons, List.length_nil]; omega))) rfl) ?_
 refine W.g (Any.rd (.dec (.eql rfl rfl) (decide_eq_true (by rw [sb5.w0]; rfl))) _) ?_
 refine W.run 2 rfl ?_
 have f46 := (b9_9.le (h12_27.trans (h12_32.trans h13_4)))
 refine W.g (.loadAll ag61 (by rfl) rfl f46) ?_
 have f47 := (((on9_2.le h9_7).ch h9_9 (fun q hq => by cases hq; exact (fun he => by have := (on9_2.row he).2; omega))).le (h12_27.trans (h12_32.trans h13_4)))
 have f48 := (((od9_2.le h9_7).ch h9_9 (fun q hq => by cases hq; exact (fun he => by have := (od9_2.row he).2; omega))).le (h12_27.trans (h12_32.trans h13_4)))
 refine W.efg rfl rfl rfl (rfl) rfl rfl ?_
 refine Ef.call go71 rfl rfl (ftext_ok w13_4 (hT.le L43) f47.vec f48.vec (by omega) (by omega) (by rw [sb5.on, sb5.od]; decide +kernel) (by rw [sb5.on]; decide) (by rw [sb5.od]; decide)) ?_
 rintro _ w14_33 ⟨rfl, h14_33⟩
 refine ⟨_, rfl, ?_⟩
 have L49 := L43.trans h14_33
 refine W.g (Any.rd (.eqlYes (a := textF b5.2.1.n b5.2.1.d) (b := ([55, 47, 49, 48] : List UInt8)) rfl rfl ((by rw [sb5.on, sb5.od]; exact stx4))) _) ?_
 refine W.run 2 rfl ?_
 refine W.efg rfl rfl rfl (rfl) rfl rfl ?_
 refine Ef.call go14 rfl rfl (shares_ok 10 4 w14_33 (by omega)) ?_
 rintro _ w14_37 ⟨As14_37, cs14_37, rfl, os14_37, hn14_37, h14_37⟩
 refine ⟨_, rfl, ?_⟩
 have L50 := L49.trans h14_37
 refine W.efg rfl rfl rfl (rfl) rfl rfl ?_
 refine Ef.buildSliceV (len := 4) [_, _, _, _] underlying23 el3 rfl (by simp [Value.cells]) rfl (by decide) (by decide) ?_
 intro g14_38 w14_38 hg14_38 b14_38 h14_38
 have L51 := L50.trans h14_38
 have b14_38 : Blk w14_38 g14_38 3 (([3, 3, 2, 2]).map iv).flatten.toArray := b14_38
 have o14_38 : OVec w14_38 w14_37.heap.size 3 iv 1 (some ⟨g14_38, 0, none⟩) 4 4 ([3, 3, 2, 2]) := b14_38.ovec hg14_38 iv_row rfl rfl (by decide)
 have f52 := (os14_37.le h14_38)
 refine W.efg rfl rfl rfl (rfl) rfl rfl ?_
 refine Ef.call go34 rfl rfl ((by have q := ints_ok (c := cs14_37) (d := 4) w14_38 f52.vec o14_38.vec (by decide); rw [decide_eq_true (show sharesL 10 4 = [3, 3, 2, 2] by decide)] at q; exact q)) ?_
 rintro _ w14_39 ⟨rfl, h14_39⟩
 refine ⟨_, rfl, ?_⟩
 have L53 := L51.trans h14_39
 refine W.run 2 rfl ?_
 refine W.efg rfl rfl rfl (rfl) rfl rfl ?_
 refine Ef.call go14 rfl rfl (shares_ok 3 4 w14_39 (by omega)) ?_
 rintro _ w14_42 ⟨As14_42, cs14_42, rfl, os14_42, hn14_42, h14_42⟩
 refine ⟨_, rfl, ?_⟩
 have L54 := L53.trans h14_42
 refine W.g (.len underlying23 rfl) ?_
 refine W.g (Any.rd (.dec (.eql rfl rfl) (decide_eq_true (by decide))) _) ?_
 refine W.run 2 rfl ?_
 refine W.efg rfl rfl rfl (rfl) rfl rfl ?_
 refine Ef.call go14 rfl rfl (shares_ok 3 0 w14_42 (by omega)) ?_
 rintro _ w14_47 ⟨As14_47, cs14_47, rfl, os14_47, hn14_47, h14_47⟩
 refine ⟨_, rfl, ?_⟩
 have L55 := L54.trans h14_47
 refine W.g (.len underlying23 rfl) ?_
 refine W.g (Any.rd (.dec (.eql rfl rfl) (decide_eq_true (by decide))) _) ?_
 refine W.run 3 rfl ?_
 refine W.g (Any.rd (.dec (.eql rfl rfl) (decide_eq_true (by decide))) _) ?_
 refine W.run 3 rfl ?_
 refine W.g (Any.rd (.dec (.eql rfl rfl) (decide_eq_true (by decide))) _) ?_
 refine W.run 2 rfl ?_
 refine W.g (Any.rd (.buildA (cells := ((List.replicate 32 0#8).map u8v).toArray) underlying30 sz5 z30 rfl rfl) _) ?_
 refine W.efg rfl rfl rfl (rfl) rfl rfl ?_
 refine Ef.call go16 rfl rfl (plans_ok (c := 0) 1 (show (List.replicate 32 0#8).length = 32 from rfl) w14_47 (Vec.nil _ _ _ _) (by omega)) ?_
 rintro _ w14_61 ⟨Aq14_61, cq14_61, qs14_61, rfl, oq14_61, qa14_61, h14_61⟩
 refine ⟨_, rfl, ?_⟩
 have L56 := L55.trans h14_61
 refine W.g (.len underlying37 rfl) ?_
 refine W.g (Any.rd (.dec (.eql rfl rfl) (decide_eq_true (by rw [show (([] : List PaR).map (·.wN)) = [] from rfl, plansL_nil]; rfl))) _) ?_
 refine W.run 2 rfl (W.nx (WC.ret ?_))
 refine E.retG1 rfl rfl ?_
 exact ⟨rfl, L56⟩
end Go.Proofs.YtocheaahlpiajaaGreatDoor

namespace Go.Sx
theorem Any.rem8 {P : Program} {env : Env} {n : Nat} {d : Option Nat} {T : TypeId} {p : String} {af : Array Edge} {g : Option (Nat × Bool)} {t ty : TypeId} {x y : Operand} {a b : Int} (hx : ev env x = some (.int .u8 a)) (hy : ev env y = some (.int .u8 b)) (hb : 0 <= a /\ 1 <= b) :
    Any P env n ⟨d, .binOp .rem t x y ty, T, p, af, g⟩ (.int .u8 (a % b)) := .int hx hy fun w => by
  have : b ≠ 0 := by omega
  simp [binOp, Op.intDiv, this, IntWalk.rem_in _ b hb.1]
end Go.Sx
namespace Go.Proofs.YtocheaahlpiajaaGreatDoor
open Go Go.Sx Go.Hsp Go.Num Go.Osp Go.Gsp Go.Nsp Go.Msp Go.Rtp
set_option maxRecDepth 20000
end Go.Proofs.YtocheaahlpiajaaGreatDoor

namespace Go.Proofs.YtocheaahlpiajaaGreatDoor
open Tryz
open Go Go.Sx Go.Hsp Go.Num Go.Osp Go.Gsp Go.Nsp Go.Msp Go.Rtp
set_option maxRecDepth 20000
def mkB (b : BitVec 8) : Prt := ⟨1, List.replicate (1 + b.toNat % 8) noEdge, [], []⟩
def mkP (bs : List (BitVec 8)) (k : Nat) : List Prt := (bs.take k).map mkB
theorem mkP_next {bs : List (BitVec 8)} {k : Nat} (h : k < bs.length) : mkP bs (k + 1) = mkP bs k ++ [mkB (bs.getD k 0)] := by
  unfold mkP
  rw [List.take_add_one, List.map_append]
  simp [List.getD, h]
theorem mkP_len (bs : List (BitVec 8)) {k : Nat} (h : k <= bs.length) : (mkP bs k).length = k := by simp [mkP]; omega
theorem mkP_at {bs : List (BitVec 8)} {i : Nat} (h : i < bs.length) : (mkP bs bs.length).getD i noPrt = mkB (bs.getD i 0) := by
  unfold mkP
  rw [List.take_length]
  simp [List.getD, h]
theorem parts_len_n {s n : Nat} (h : n <= 8) : (partsL s ((n : Nat) : Int)).length = n := by
  rcases Nat.eq_zero_or_pos n with h0 | h0
  · subst h0; rfl
  · rw [partsL_len (by omega) (by omega)]; omega
theorem sb_vec39 {w : World} {A : Option Addr} {n : Nat} {xs : List (BitVec 8)} (h : Sb w A n xs) : Vec w byteV 1 A n xs := by
  refine ⟨by have := h.len; simpa using this, ?_⟩
  rw [byte_flat]
  exact h
theorem PasAt.wn {w : World} {b : Nat} {rs : List PaR} {ps : List Prt} (h : PasAt w b rs ps) {i : Nat} (hi : i < ps.length) : (rs.getD i noPaR).wN = (ps.getD i noPrt).way.length := (h.2 i hi).way.1.symm
theorem list_eq {l k : List Nat} (hl : l.length = k.length) (h : ∀ j, j < l.length -> l.getD j 0 = k.getD j 0) : l = k := by
  apply List.ext_getElem hl
  intro i h1 h2
  have := h i h1
  simpa [List.getD, h1, h2] using this
theorem rpoints_ok {A B : Option Addr} {n c m d : Nat} {xs ys : List Nat} (w : World) (hV : Vec w pv1 1 A n xs) (hY : Vec w pv1 1 B m ys) (hn : n <= 1000000) : Calls prog 23 #[.slice A n c, .slice B m d] w fun r w' => r = .returned (.bool (decide (xs = ys))) /\ Le w w' := by
 have hl := hV.1; have hl2 := hY.1
 refine enter func23 rfl rfl ?_
 have L0 := Le.refl w
 refine WC.sr (W.run 1 rfl (W.nx (WC.seq (WC.sr (W.run 1 rfl ?_)))))
 refine W.r (.len underlying39 rfl) ?_
 refine W.run 1 rfl ?_
 refine W.r (.len underlying39 rfl) ?_
 refine W.run 1 rfl (W.nx ?_)
 by_cases c0 : ((n : Nat) : Int) ≠ ((m : Nat) : Int)
 ·refine WC.condY rfl (decide_eq_true c0) ?_
  refine WC.sr (W.run 1 rfl (W.nx (WC.ret (E.thenR ?_))))
  refine E.retG1 rfl rfl ?_
  exact ⟨rB (by first | exact (decide_eq_true (list_eq (by omega) (fun j hj => hall j (by omega)))).symm | exact (decide_eq_false (fun hh => by subst hh; omega)).symm), L0⟩
 refine WC.condN rfl (decide_eq_false c0) ?_
 refine WC.sn (WC.seq (WC.sr (W.run 1 rfl (W.nx (WC.block ?_)))))
 refine WC.loop (ι := Nat) (fun k => [(0, .slice A n c), (1, .slice B m d), (5, .int .i64 (((k : Nat) : Int)))]) (fun k wl0 => (k <= n) /\ (∀ j, j < k -> xs.getD j 0 = ys.getD j 0) /\ Le w wl0 /\ w.heap.size <= wl0.heap.size) (fun k => n - k) 0 ?_ ?_ ?_
 ·exact .cons rfl (.cons rfl (.cons rfl (.nil _)))
 ·exact ⟨Nat.zero_le _, fun j hj => absurd hj (Nat.not_lt_zero _), L0, Nat.le_refl _⟩
 rintro k wl0 ⟨hk, hall, Ll0, zl0⟩
 refine WC.seq (WC.sr (W.run 2 rfl ?_))
 refine W.r (.len underlying39 rfl) ?_
 refine W.run 1 rfl (W.nx ?_)
 by_cases c1 : ((k : Nat) : Int) < ((n : Nat) : Int)
 ·refine WC.condY rfl (decide_eq_true c1) ?_
  refine WC.sn (WC.seq (WC.block (WC.seq ?_)))
  refine WC.draw [0, 1, 2, 3, 4, 5, 6, 7, 8] mixed (by kernel_rfl) ?_
  intro w6 d6
  have L1 := Ll0.trans d6
  refine G.run 2 rfl ?_
  refine G.a rfl (.idxS (k) underlying39 sz43 rfl rfl (hV.isSome pv1_row (by omega)) (rfl) (by omega)) ?_
  refine G.r rfl (.vone (v := .int .u64 ((((xs.getD k 0) : Nat) : Int))) na43 rfl (hV.le L1) pv1_row (getS xs 0 (by omega)) rfl) ?_
  refine G.run 2 rfl ?_
  refine G.a rfl (.idxS (k) underlying39 sz43 rfl rfl (hY.isSome pv1_row (by omega)) (rfl) (by omega)) ?_
  refine G.r rfl (.vone (v := .int .u64 ((((ys.getD k 0) : Nat) : Int))) na43 rfl (hY.le L1) pv1_row (getS ys 0 (by omega)) rfl) ?_
  refine G.run 1 rfl (G.nil (E.thenN ?_))
  by_cases c2 : (((xs.getD k 0) : Nat) : Int) ≠ (((ys.getD k 0) : Nat) : Int)
  ·refine WC.condY rfl (decide_eq_true c2) ?_
   refine WC.sr (W.run 1 rfl (W.nx (WC.ret (E.blkR (E.thenR (E.thenR (E.blkR (E.thenR ?_))))))))
   refine E.retG1 rfl rfl ?_
   exact ⟨rB (by first | exact (decide_eq_true (list_eq (by omega) (fun j hj => hall j (by omega)))).symm | exact (decide_eq_false (fun hh => by subst hh; omega)).symm), L1⟩
  refine WC.condN rfl (decide_eq_false c2) ?_
  refine WC.skip (E.blkN (E.thenN (WC.region (W.run 1 rfl ?_))))
  refine W.a (.add rfl rfl (by omega)) ?_
  refine W.run 1 rfl (W.nil ?_)
  refine E.again (k + 1) (.cons rfl (.cons rfl (.cons rfl (.nil _)))) ?_ ?_
  ·exact ⟨by omega, fun j hj => (Nat.lt_succ_iff_lt_or_eq.1 hj).elim (hall j) (fun hh => by subst hh; omega), L1, by have := zl0; have := d6.size; omega⟩
  first | omega | (simp only []; omega)
 refine WC.condN rfl (decide_eq_false c1) ?_
 refine WC.exit (E.thenX (E.thenX (E.blkH (E.thenN (WC.sr (W.run 1 rfl (W.nx (WC.ret ?_))))))))
 refine E.retG1 rfl rfl ?_
 exact ⟨rB (by first | exact (decide_eq_true (list_eq (by omega) (fun j hj => hall j (by omega)))).symm | exact (decide_eq_false (fun hh => by subst hh; omega)).symm), Ll0⟩

set_option maxHeartbeats 4000000 in
theorem SplitProofs_ok (s : Nat) {seed : List Byte} (hse : seed.length = 32) {A : Option Addr} {n c : Nat} {bs : List Byte} (w : World) (hT : Tab w) (hV : Vec w byteV 1 A n bs) (hn : n <= 9223372036854775807) : Calls prog 4 #[.slice A n c, .int .u64 (((s : Nat) : Int)), .agg (seed.map u8v).toArray] w fun r w' => r = .returned (.bool true) /\ Le w w' := by
 have hl := hV.1
 refine enter func4 rfl rfl ?_
 have L0 := Le.refl w
 refine WC.sr (W.ef rfl rfl rfl ?_)
 refine Ef.boxA rfl ?_
 intro g0_0 w0_0 hg0_0 b0_0 h0_0
 have L1 := L0.trans h0_0
 have b0_0 : Blk w0_0 g0_0 30 (seed.map u8v).toArray := b0_0
 refine W.run 1 rfl (W.nx (WC.sr ?_))
 refine W.cl go13 rfl rfl (small39_ok w0_0 (hT.le L1)) ?_
 rintro _ w1_0 ⟨rfl, h1_0⟩
 have L2 := L1.trans h1_0
 refine W.run 1 rfl (W.nx (WC.seq (WC.sr (W.run 1 rfl ?_))))
 refine W.r (.len underlying26 rfl) ?_
 refine W.run 1 rfl (W.nx ?_)
 by_cases c0 : 8 < ((n : Nat) : Int)
 ·refine WC.condY rfl (decide_eq_true c0) ?_
  refine WC.sr (W.run 2 rfl (W.nx (WC.ret (E.thenR ?_))))
  refine E.retG1 rfl rfl ?_
  exact ⟨rfl, L2⟩
 refine WC.condN rfl (decide_eq_false c0) ?_
 refine WC.sn (WC.sr (W.run 1 rfl (W.nx (WC.seq (WC.sr (W.run 1 rfl (W.nx (WC.block ?_))))))))
 have f3 := (b0_0.le h1_0)
 refine WC.loop (ι := Nat × ((Option Addr)) × Nat × ((List PaR))) (fun ⟨i, Ao, co, rs⟩ => [(0, .slice A n c), (1, .int .u64 (((s : Nat) : Int))), (5, .pointer (some ⟨g0_0, 0, none⟩)), (7, .bool true), (8, .slice Ao i co), (9, .int .i64 (((i : Nat) : Int)))]) (fun ⟨i, Ao, co, rs⟩ wl0 => (i <= n) /\ Le w wl0 /\ w1_0.heap.size <= wl0.heap.size /\ Blk wl0 g0_0 30 (seed.map u8v).toArray /\ OVec wl0 w1_0.heap.size 34 prV 4 Ao i co rs /\ PasAt wl0 w1_0.heap.size rs (mkP bs i)) (fun ⟨i, Ao, co, rs⟩ => n - i) (0, none, 0, ([])) ?_ ?_ ?_
 ·exact .cons rfl (.cons rfl (.cons rfl (.cons rfl (.cons rfl (.cons rfl (.nil _))))))
 ·exact ⟨Nat.zero_le _, L2, Nat.le_refl _, f3, (OVec.nil w1_0 w1_0.heap.size 34 prV 4 none), (PasAt.nil w1_0 w1_0.heap.size)⟩
 rintro ⟨i, Ao, co, rs⟩ wl0 ⟨hi, Ll0, zl0, f0_0, f0_1, f0_2⟩
 have lb0_3 : w1_0.heap.size <= wl0.heap.size := by omega
 have lb0_4 : w1_0.heap.size <= wl0.heap.size := by omega
 refine WC.seq (WC.sr (W.run 2 rfl ?_))
 refine W.r (.len underlying26 rfl) ?_
 refine W.run 1 rfl (W.nx ?_)
 by_cases c1 : ((i : Nat) : Int) < ((n : Nat) : Int)
 ·refine WC.condY rfl (decide_eq_true c1) ?_
  refine WC.sn (WC.seq (WC.block (WC.region (W.run 3 rfl ?_))))
  refine W.a (.idxS (i) underlying26 sz5 rfl rfl (hV.isSome byteV_row (by omega)) (rfl) (by omega)) ?_
  refine W.r (.vone (v := u8v ((bs.getD i (0 : BitVec 8)))) na5 rfl (hV.le Ll0) byteV_row (getS bs (0 : BitVec 8) (by first | omega | (simp only [List.length_cons, List.length_nil]; omega))) rfl) ?_
  refine W.a (.rem8 rfl rfl (by omega)) ?_
  refine W.r (.idI (isS underlying5) underlying3 rfl (IntWalk.i64_in _ (by omega))) ?_
  refine W.a (.add rfl rfl (by omega)) ?_
  refine W.ef rfl rfl rfl ?_
  refine Ef.vmake noEdge (1 + ((bs.getD i 0).toNat % 8)) underlying32 el81 edgeV_row rfl rfl (by omega) rfl (by omega) (by omega) (by unfold maxLen; omega) ?_
  intro g8_8 w8_8 hg8_8 o8_8 h8_8
  have L4 := Ll0.trans h8_8
  refine W.a (.buildP (prV (⟨1, some ⟨g8_8, 0, none⟩, (1 + (bs.getD i 0).toNat % 8), (1 + (bs.getD i 0).toNat % 8), none, 0, 0, none, 0, 0⟩ : PaR)) pl34 z34 rfl rfl) ?_
  refine W.ef rfl rfl rfl ?_
  refine Ef.buildSliceV (len := 1) [_] underlying31 el34 rfl (by simp [Value.cells, prV_row.len]) rfl (by decide) (by decide) ?_
  intro g8_10 w8_10 hg8_10 b8_10 h8_10
  have L5 := L4.trans h8_10
  have b8_10 : Blk w8_10 g8_10 34 (([(⟨1, some ⟨g8_8, 0, none⟩, (1 + (bs.getD i 0).toNat % 8), (1 + (bs.getD i 0).toNat % 8), none, 0, 0, none, 0, 0⟩ : PaR)]).map prV).flatten.toArray := b8_10
  have o8_10 : OVec w8_10 w8_8.heap.size 34 prV 4 (some ⟨g8_10, 0, none⟩) 1 1 ([(⟨1, some ⟨g8_8, 0, none⟩, (1 + (bs.getD i 0).toNat % 8), (1 + (bs.getD i 0).toNat % 8), none, 0, 0, none, 0, 0⟩ : PaR)]) := b8_10.ovec hg8_10 prV_row rfl rfl (by decide)
  have f6 := (f0_1.le (h8_8.trans h8_10))
  refine W.ef rfl rfl rfl ?_
  refine Ef.vpush (a := (⟨1, some ⟨g8_8, 0, none⟩, (1 + (bs.getD i 0).toNat % 8), (1 + (bs.getD i 0).toNat % 8), none, 0, 0, none, 0, 0⟩ : PaR)) underlying31 el34 underlying31 prV_row rfl f6 rfl b8_10 (by omega) (by unfold maxLen; omega) (by have := lb0_4; have := h8_8.size; have := h8_10.size; omega) ?_
  intro A8_11 c8_11 w8_11 o8_11 h8_11 at8_11
  have L7 := L5.then_ h8_11 (fun q hq => Nat.le_trans L2.size (f6.row hq).1)
  refine W.run 1 rfl ?_
  have f8 := ((f0_2.le (h8_8.trans h8_10)).chO h8_11 f6 (by decide) (by decide))
  have f9 := ((o8_8.le h8_10).ch h8_11 ((fun q h1 h2 => by have := (f0_1.row h1).2; have := (o8_8.row h2).1; omega)))
  have zpa : PaAt w8_11 w1_0.heap.size (⟨1, some ⟨g8_8, 0, none⟩, (1 + (bs.getD i 0).toNat % 8), (1 + (bs.getD i 0).toNat % 8), none, 0, 0, none, 0, 0⟩ : PaR) (mkB (bs.getD i 0)) := ⟨rfl, f9.mono (by have := lb0_4; omega), OVec.nil _ _ _ _ _ _, OVec.nil _ _ _ _ _ _⟩
  have zpu := f8.push zpa
  refine W.nil (E.blkN (E.thenN (WC.region (W.run 1 rfl ?_))))
  refine W.a (.add rfl rfl (by omega)) ?_
  refine W.run 1 rfl (W.nil ?_)
  have f10 := ((f0_0.le (h8_8.trans h8_10)).ch h8_11 (fun he => by have := (f6.row he).1; have := f3.lt; omega))
  refine E.again (i + 1, A8_11, c8_11, (rs ++ [(⟨1, some ⟨g8_8, 0, none⟩, (1 + (bs.getD i 0).toNat % 8), (1 + (bs.getD i 0).toNat % 8), none, 0, 0, none, 0, 0⟩ : PaR)])) (.cons rfl (.cons rfl (.cons rfl (.cons rfl (.cons rfl (.cons rfl (.nil _))))))) ?_ ?_
  ·exact ⟨by omega, L7, by have := zl0; have := h8_8.size; have := h8_10.size; have := h8_11.size; omega, f10, o8_11, (zpu.cast (mkP_next (by omega)).symm)⟩
  first | omega | (simp only []; omega)
 refine WC.condN rfl (decide_eq_false c1) ?_
 refine WC.exit (E.thenX (E.thenX (E.blkH (E.thenN (WC.sr ?_)))))
 have hin : i = n := by omega
 refine W.run 2 rfl ?_
 refine W.r (.len underlying31 rfl) ?_
 obtain ⟨ts, hets⟩ : ∃ z, z = (partsL s ((i : Nat) : Int)) := ⟨_, rfl⟩
 refine W.cl go15 rfl rfl ((by have k := parts_ok s ((i : Nat) : Int) wl0; rw [<- hets] at k; exact k)) ?_
 rintro _ w9_3 ⟨At9_3, ct9_3, rfl, ot9_3, h9_3⟩
 have L11 := Ll0.trans h9_3
 have hlt9_3 := partsL_le s ((i : Nat) : Int); have hql9_3 := partsL_lt s ((i : Nat) : Int)
 refine W.run 1 rfl (W.nx (WC.sr ?_))
 have f12 := (f0_2.le h9_3)
 have hpas := f12
 have hmkl : (mkP bs i).length = i := mkP_len _ (by omega)
 have hrs := hpas.1
 rw [mkP_len _ (by omega)] at hrs
 have hnl : (rs.map (·.wN)).length = i := by rw [List.length_map]; exact hrs
 have hwnA : ∀ j, j < n -> (rs.getD j noPaR).wN = 1 + (bs.getD j 0).toNat % 8 := fun j hj => by rw [hpas.wn (by rw [mkP_len _ (by omega)]; omega), hin, <- hl, mkP_at (by omega)]; exact List.length_replicate
 have hti : ts.length = n := by rw [hets, hin]; exact parts_len_n (by omega)
 refine W.run 2 rfl ?_
 have f13 := (f0_0.le h9_3)
 refine W.r (.loadAll ag30 (by simp [hse]) rfl f13) ?_
 have f14 := (f0_1.le h9_3)
 obtain ⟨pls, hepls⟩ : ∃ z, z = (plansL s seed (rs.map (·.wN))) := ⟨_, rfl⟩
 refine W.cl go16 rfl rfl ((by have k := plans_ok (c := co) s hse w9_3 f14.vec (by omega); rw [<- hepls] at k; exact k)) ?_
 rintro _ w10_3 ⟨Aq10_3, cq10_3, qs10_3, rfl, oq10_3, qa10_3, h10_3⟩
 have L15 := L11.trans h10_3
 have hq10_3 := qa10_3.1
 refine W.run 1 rfl (W.nx (WC.seq (WC.sr (W.run 1 rfl (W.nx (WC.block ?_))))))
 have f16 := (f13.le h10_3)
 have f17 := (f14.le h10_3)
 have f18 := (f12.le h10_3)
 have f19 := (ot9_3.le h10_3)
 refine WC.loop (ι := Nat) (fun i1 => [(1, .int .u64 (((s : Nat) : Int))), (5, .pointer (some ⟨g0_0, 0, none⟩)), (7, .bool true), (8, .slice Ao i co), (10, .slice At9_3 ts.length ct9_3), (11, .slice Aq10_3 pls.length cq10_3), (12, .int .i64 (((i1 : Nat) : Int)))]) (fun i1 wl1 => (i1 <= n) /\ (∀ j, j < i1 -> ts.getD j 0 ≠ 0) /\ Le w wl1 /\ w10_3.heap.size <= wl1.heap.size /\ Blk wl1 g0_0 30 (seed.map u8v).toArray /\ OVec wl1 w1_0.heap.size 34 prV 4 Ao i co rs /\ PasAt wl1 w1_0.heap.size rs (mkP bs i) /\ OVec wl1 wl0.heap.size 28 pv1 1 At9_3 ts.length ct9_3 ts /\ OVec wl1 w9_3.heap.size 41 plV 2 Aq10_3 pls.length cq10_3 qs10_3 /\ PlnsAt wl1 w9_3.heap.size qs10_3 pls) (fun i1 => n - i1) 0 ?_ ?_ ?_
 ·exact .cons rfl (.cons rfl (.cons rfl (.cons rfl (.cons rfl (.cons rfl (.cons rfl (.nil _)))))))
 ·exact ⟨Nat.zero_le _, fun j hj => absurd hj (Nat.not_lt_zero _), L15, Nat.le_refl _, f16, f17, f18, f19, oq10_3, qa10_3⟩
 rintro i1 wl1 ⟨hi1, hnz, Ll1, zl1, f1_0, f1_1, f1_2, f1_3, f1_4, f1_5⟩
 have lb1_3 : w1_0.heap.size <= wl1.heap.size := Nat.le_trans lb0_4 (by have := h9_3.size; have := h10_3.size; omega)
 have lb1_4 : w1_0.heap.size <= wl1.heap.size := Nat.le_trans lb0_4 (by have := h9_3.size; have := h10_3.size; omega)
 have lb1_9 : wl0.heap.size <= wl1.heap.size := by have := h9_3.size; have := h10_3.size; omega
 have lb1_11 : w9_3.heap.size <= wl1.heap.size := by have := h10_3.size; omega
 have lb1_10 : w9_3.heap.size <= wl1.heap.size := by have := h10_3.size; omega
 refine WC.seq (WC.sr (W.run 2 rfl ?_))
 refine W.r (.len underlying35 rfl) ?_
 refine W.run 1 rfl (W.nx ?_)
 by_cases c2 : ((i1 : Nat) : Int) < ((ts.length : Nat) : Int)
 ·refine WC.condY rfl (decide_eq_true c2) ?_
  refine WC.sn (WC.seq (WC.block (WC.sr (W.run 2 rfl ?_))))
  refine W.a (.idxS (i1) underlying35 sz28 rfl rfl (ot9_3.vec.isSome pv1_row (by omega)) (rfl) (by omega)) ?_
  refine W.r (.vone (v := .int .u64 ((((ts.getD i1 0) : Nat) : Int))) na28 rfl f1_3.vec pv1_row (getS ts 0 (by omega)) rfl) ?_
  refine W.run 1 rfl (W.nx ?_)
  by_cases c3 : (((ts.getD i1 0) : Nat) : Int) = 0
  ·refine WC.condY rfl (decide_eq_true c3) ?_
   refine WC.sr (W.run 2 rfl (W.nx (WC.ret (E.blkR (E.thenR (E.thenR (E.blkR (E.thenR ?_))))))))
   refine E.retG1 rfl rfl ?_
   exact ⟨rfl, Ll1⟩
  refine WC.condN rfl (decide_eq_false c3) ?_
  refine WC.skip (E.blkN (E.thenN (WC.region (W.run 1 rfl ?_))))
  refine W.a (.add rfl rfl (by omega)) ?_
  refine W.run 1 rfl (W.nil ?_)
  refine E.again (i1 + 1) (.cons rfl (.cons rfl (.cons rfl (.cons rfl (.cons rfl (.cons rfl (.cons rfl (.nil _)))))))) ?_ ?_
  ·exact ⟨by omega, fun j hj => (Nat.lt_succ_iff_lt_or_eq.1 hj).elim (hnz j) (fun hh => by subst hh; omega), Ll1, by have := zl1; omega, f1_0, f1_1, f1_2, f1_3, f1_4, f1_5⟩
  first | omega | (simp only []; omega)
 refine WC.condN rfl (decide_eq_false c2) ?_
 refine WC.exit (E.thenX (E.thenX (E.blkH (E.thenN (WC.seq (WC.sr ?_))))))
 have hmay : PlansMay s (rs.map (·.wN)) := plans_may (fun j hj => by rw [hnl, <- hets] at hj ⊢; exact hnz j (by omega)) (fun j hj => by rw [ns_at]; rw [hwnA j (by omega)]; omega)
 have hpl : pls = planK s seed (rs.map (·.wN)) n := by rw [hepls, plansL_yes hmay, hnl, <- hets, hti]
 have hpll : pls.length = n := by rw [hpl, planK_len]
 refine W.run 1 rfl ?_
 refine W.r (.len underlying37 rfl) ?_
 refine W.run 1 rfl ?_
 refine W.r (.len underlying31 rfl) ?_
 refine W.a (.dec (.neq rfl rfl) (decide_eq_false (by omega))) ?_
 refine W.run 2 rfl ?_
 refine W.g (.len underlying35 rfl) ?_
 refine W.run 1 rfl ?_
 refine W.g (.len underlying31 rfl) ?_
 refine W.g (Any.rd (.dec (.neq rfl rfl) (decide_eq_false (by omega))) _) ?_
 refine W.run 1 rfl (W.nx (WC.condF rfl (WC.sn (WC.seq (WC.sr (W.run 1 rfl (W.nx (WC.block ?_))))))))
 refine WC.loop (ι := Nat) (fun i2 => [(1, .int .u64 (((s : Nat) : Int))), (5, .pointer (some ⟨g0_0, 0, none⟩)), (7, .bool true), (8, .slice Ao i co), (10, .slice At9_3 ts.length ct9_3), (11, .slice Aq10_3 pls.length cq10_3), (13, .int .i64 (((i2 : Nat) : Int)))]) (fun i2 wl2 => (i2 <= n) /\ Le w wl2 /\ wl1.heap.size <= wl2.heap.size /\ Blk wl2 g0_0 30 (seed.map u8v).toArray /\ OVec wl2 w1_0.heap.size 34 prV 4 Ao i co rs /\ PasAt wl2 w1_0.heap.size rs (mkP bs i) /\ OVec wl2 wl0.heap.size 28 pv1 1 At9_3 ts.length ct9_3 ts /\ OVec wl2 w9_3.heap.size 41 plV 2 Aq10_3 pls.length cq10_3 qs10_3 /\ PlnsAt wl2 w9_3.heap.size qs10_3 pls) (fun i2 => n - i2) 0 ?_ ?_ ?_
 ·exact .cons rfl (.cons rfl (.cons rfl (.cons rfl (.cons rfl (.cons rfl (.cons rfl (.nil _)))))))
 ·exact ⟨Nat.zero_le _, Ll1, Nat.le_refl _, f1_0, f1_1, f1_2, f1_3, f1_4, f1_5⟩
 rintro i2 wl2 ⟨hi2, Ll2, zl2, f2_0, f2_1, f2_2, f2_3, f2_4, f2_5⟩
 have lb2_3 : w1_0.heap.size <= wl2.heap.size := Nat.le_trans lb1_4 (by omega)
 have lb2_4 : w1_0.heap.size <= wl2.heap.size := Nat.le_trans lb1_4 (by omega)
 have lb2_9 : wl0.heap.size <= wl2.heap.size := Nat.le_trans lb1_9 (by omega)
 have lb2_11 : w9_3.heap.size <= wl2.heap.size := Nat.le_trans lb1_10 (by omega)
 have lb2_10 : w9_3.heap.size <= wl2.heap.size := Nat.le_trans lb1_10 (by omega)
 refine WC.seq (WC.sr (W.run 2 rfl ?_))
 refine W.r (.len underlying37 rfl) ?_
 refine W.run 1 rfl (W.nx ?_)
 by_cases c5 : ((i2 : Nat) : Int) < ((pls.length : Nat) : Int)
 ·refine WC.condY rfl (decide_eq_true c5) ?_
  refine WC.sn (WC.seq (WC.block (WC.sr ?_)))
  have pl := f2_5.2 i2 (by omega)
  have plp := pl.pts.1; have plb := pl.bl.1
  have pw := f2_2.2 i2 (by omega)
  have pwa := pw.amt; have pww := pw.way.1; have pws := pw.sent.1; have pwt := pw.till.1
  have hwn := hwnA i2 (by omega)
  have hpe : (pls.getD i2 noPln) = (planT (ts.getD i2 0) (seedD seed i2) (rs.getD i2 noPaR).wN) := by rw [hpl, planK_at _ _ _ (by omega)]; unfold planAt; rw [hnl, <- hets, ns_at]
  have hm3 : PlnMay (ts.getD i2 0) (rs.getD i2 noPaR).wN := by have k := hmay i2 (by rw [hnl, <- hets]; omega); rw [hnl, <- hets, ns_at] at k; exact k
  have hpk := planT_len (ts.getD i2 0) (seedD seed i2) hm3.2.1
  rw [<- hpe] at hpk
  have htq : (ts.getD i2 0) < q := by rw [hets]; exact parts_at_lt (by rw [<- hets]; omega)
  have hsl := planT_last (ts.getD i2 0) (seedD seed i2) hm3.2.1; have hsf := planT_first htq (seedD seed i2) hm3.2.1; have hsp := planT_proof htq (seedD seed i2) (rs.getD i2 noPaR).wN
  rw [<- hpe] at hsl hsf hsp
  refine W.run 2 rfl ?_
  refine W.a (.idxS (i2) underlying37 sz41 rfl rfl (oq10_3.vec.isSome plV_row (by omega)) (rfl) (by omega)) ?_
  refine W.r (.vload ag41 rfl f2_4.vec plV_row (getS qs10_3 noPlR (by omega))) ?_
  refine W.ef rfl rfl rfl ?_
  refine Ef.allocA z41 ?_
  intro g21_4 w21_4 hg21_4 b21_4 h21_4
  have L20 := Ll2.trans h21_4
  have b21_4 : Blk w21_4 g21_4 41 (plV noPlR).toArray := b21_4
  refine W.ef0 rfl rfl ?_
  refine Ef.storeAll sz41 (by rfl) rfl rfl b21_4 (by simp only [List.size_toArray, plV_row.len]) (plV_row.one (qs10_3.getD i2 noPlR)) ?_
  intro w21_5 b21_5 h21_5
  have b21_5 : Blk w21_5 g21_4 41 (plV (qs10_3.getD i2 noPlR)).toArray := b21_5
  have L21 := L20.tb h21_5 Ll2 hg21_4
  refine W.nx (WC.sr (W.run 2 rfl ?_))
  refine W.a (.idxS (i2) underlying31 sz34 rfl rfl (f0_1.vec.isSome prV_row (by omega)) (rfl) (by omega)) ?_
  refine W.a (.vfield fa34_1 (f0_1.vec.isSome prV_row (by omega)) rfl) ?_
  have f22 := ((f2_1.le h21_4).ch h21_5 (fun q hq => by cases hq; exact (fun he => by have := (f2_1.row he).2; omega)))
  refine W.r (.vcell (j := i2) (o := 1) (v := .slice ((rs.getD i2 noPaR).wA) ((rs.getD i2 noPaR).wN) ((rs.getD i2 noPaR).wC)) na32 rfl f22.vec prV_row (getS rs noPaR (by omega)) rfl) ?_
  refine W.r (.len underlying32 rfl) ?_
  refine W.run 1 rfl (W.nx (WC.seq (WC.seq ?_)))
  refine WC.draw [0, 1, 2, 3, 4, 5, 6, 7, 8, 9, 10, 11, 12, 13, 14, 15, 16, 17, 18, 19, 20, 21, 22, 23, 24, 25, 26] mixed (by kernel_rfl) ?_
  intro w23 d23
  have L23 := L21.trans d23
  refine G.a rfl (.field0 fa41_0 rfl) ?_
  have f24 := (b21_5.le d23)
  refine G.r rfl (.loadB (v := .slice ((qs10_3.getD i2 noPlR).pA) ((qs10_3.getD i2 noPlR).pN) ((qs10_3.getD i2 noPlR).pC)) na39 rfl f24 rfl) ?_
  refine G.r rfl (.len underlying39 rfl) ?_
  refine G.run 1 rfl ?_
  refine G.a rfl (.dec (.neq rfl rfl) (decide_eq_false (by omega))) ?_
  refine G.run 1 rfl ?_
  refine G.ag rfl (.field0 fa41_1 rfl) ?_
  refine G.rg rfl (.loadB (v := .slice ((qs10_3.getD i2 noPlR).bA) ((qs10_3.getD i2 noPlR).bN) ((qs10_3.getD i2 noPlR).bC)) na35 rfl f24 rfl) ?_
  refine G.rg rfl (.len underlying35 rfl) ?_
  refine G.run 1 rfl ?_
  refine G.ag rfl (.sub rfl rfl (by omega)) ?_
  refine G.ag rfl (.dec (.neq rfl rfl) (decide_eq_false (by omega))) ?_
  refine G.run 2 rfl ?_
  refine G.ag rfl (.field0 fa41_0 rfl) ?_
  refine G.rg rfl (.loadB (v := .slice ((qs10_3.getD i2 noPlR).pA) ((qs10_3.getD i2 noPlR).pN) ((qs10_3.getD i2 noPlR).pC)) na39 rfl f24 rfl) ?_
  refine G.run 1 rfl ?_
  refine G.ag rfl (.sub rfl rfl (by omega)) ?_
  refine G.ag rfl (.idxS (((rs.getD i2 noPaR).wN - 1)) underlying39 sz43 rfl rfl (pl.pts.vec.isSome pv1_row (by omega)) (by omega) (by omega)) ?_
  have f25 := (((pl.pts.le h21_4).ch h21_5 (fun q hq => by cases hq; exact (fun he => by have := (pl.pts.row he).2; omega))).le d23)
  refine G.rg rfl (.vone (v := .int .u64 ((((((pls.getD i2 noPln).pts).getD ((rs.getD i2 noPaR).wN - 1) 0) : Nat) : Int))) na43 rfl f25.vec pv1_row (getS ((pls.getD i2 noPln).pts) 0 (by first | omega | (simp only [List.length_cons, List.length_nil]; omega))) rfl) ?_
  refine G.run 2 rfl ?_
  refine G.ag rfl (.idxS (i2) underlying35 sz28 rfl rfl (ot9_3.vec.isSome pv1_row (by omega)) (rfl) (by omega)) ?_
  have f26 := (((f2_3.le h21_4).ch h21_5 (fun q hq => by cases hq; exact (fun he => by have := (f2_3.row he).2; omega))).le d23)
  refine G.rg rfl (.vone (v := .int .u64 ((((ts.getD i2 0) : Nat) : Int))) na28 rfl f26.vec pv1_row (getS ts 0 (by omega)) rfl) ?_
  refine G.efg rfl rfl rfl rfl rfl (rfl) rfl rfl ?_
  refine Ef.call go17 rfl rfl (shows_ok (((pls.getD i2 noPln).pts).getD ((rs.getD i2 noPaR).wN - 1) 0) (ts.getD i2 0) (by rw [hsl]; exact base_lt _) (by rw [hsl]; exact right_base _) (by rw [hsl]) w23) ?_
  rintro _ w23_24 ⟨rfl, h23_24⟩
  refine ⟨_, rfl, ?_⟩
  refine ⟨fun _ => h23_24, ?_⟩
  have L27 := L23.trans h23_24
  refine G.run 2 rfl (G.nil (E.thenN (WC.condF rfl (WC.sn (WC.sr (W.run 2 rfl ?_))))))
  refine W.a (.idxS (i2) underlying35 sz28 rfl rfl (ot9_3.vec.isSome pv1_row (by omega)) (rfl) (by omega)) ?_
  have f28 := (f26.le h23_24)
  refine W.r (.vone (v := .int .u64 ((((ts.getD i2 0) : Nat) : Int))) na28 rfl f28.vec pv1_row (getS ts 0 (by omega)) rfl) ?_
  refine W.run 1 rfl (W.nx (WC.seq (WC.sr (W.run 1 rfl (W.nx (WC.block ?_))))))
  have f29 := (((f2_0.le h21_4).ch h21_5 (fun h => (show g21_4 ≠ g0_0 from by have := f2_0.lt; omega) (Option.some.inj h))).le (d23.trans h23_24))
  have f30 := (f22.le (d23.trans h23_24))
  have f31 := (((f2_2.le h21_4).chB h21_5 b21_4 (by decide) (by decide)).le (d23.trans h23_24))
  have f32 := (((f2_4.le h21_4).ch h21_5 (fun q hq => by cases hq; exact (fun he => by have := (f2_4.row he).2; omega))).le (d23.trans h23_24))
  have f33 := (((f2_5.le h21_4).chB h21_5 b21_4 (by decide) (by decide)).le (d23.trans h23_24))
  have f34 := (f24.le h23_24)
  have f35 := (f25.le h23_24)
  have f36 := (((pl.bl.le h21_4).ch h21_5 (fun q hq => by cases hq; exact (fun he => by have := (pl.bl.row he).2; omega))).le (d23.trans h23_24))
  refine WC.loop (ι := Nat) (fun k => [(1, .int .u64 (((s : Nat) : Int))), (5, .pointer (some ⟨g0_0, 0, none⟩)), (7, .bool true), (8, .slice Ao i co), (10, .slice At9_3 ts.length ct9_3), (11, .slice Aq10_3 pls.length cq10_3), (13, .int .i64 (((i2 : Nat) : Int))), (14, .pointer (some ⟨g21_4, 0, none⟩)), (15, .int .i64 ((((rs.getD i2 noPaR).wN : Nat) : Int))), (16, .int .u64 ((((((pls.getD i2 noPln).bl.take k).foldl addS (ts.getD i2 0)) : Nat) : Int))), (17, .int .i64 (((k : Nat) : Int)))]) (fun k wl3 => (k <= (rs.getD i2 noPaR).wN - 1) /\ Le w wl3 /\ w23_24.heap.size <= wl3.heap.size /\ Blk wl3 g0_0 30 (seed.map u8v).toArray /\ OVec wl3 w1_0.heap.size 34 prV 4 Ao i co rs /\ PasAt wl3 w1_0.heap.size rs (mkP bs i) /\ OVec wl3 wl0.heap.size 28 pv1 1 At9_3 ts.length ct9_3 ts /\ OVec wl3 w9_3.heap.size 41 plV 2 Aq10_3 pls.length cq10_3 qs10_3 /\ PlnsAt wl3 w9_3.heap.size qs10_3 pls /\ Blk wl3 g21_4 41 (plV (qs10_3.getD i2 noPlR)).toArray /\ OVec wl3 w9_3.heap.size 43 pv1 1 ((qs10_3.getD i2 noPlR).pA) ((qs10_3.getD i2 noPlR).pN) ((qs10_3.getD i2 noPlR).pC) ((pls.getD i2 noPln).pts) /\ OVec wl3 w9_3.heap.size 28 pv1 1 ((qs10_3.getD i2 noPlR).bA) ((qs10_3.getD i2 noPlR).bN) ((qs10_3.getD i2 noPlR).bC) ((pls.getD i2 noPln).bl)) (fun k => (rs.getD i2 noPaR).wN - 1 - k) 0 ?_ ?_ ?_
  ·exact .cons rfl (.cons rfl (.cons rfl (.cons rfl (.cons rfl (.cons rfl (.cons rfl (.cons rfl (.cons rfl (.cons rfl (.cons rfl (.nil _)))))))))))
  ·exact ⟨Nat.zero_le _, L27, Nat.le_refl _, f29, f30, f31, f28, f32, f33, f34, f35, f36⟩
  rintro k wl3 ⟨hk, Ll3, zl3, f3_0, f3_1, f3_2, f3_3, f3_4, f3_5, f3_6, f3_7, f3_8⟩
  have lb3_3 : w1_0.heap.size <= wl3.heap.size := Nat.le_trans lb2_4 (by have := h21_4.size; have := h21_5.size; have := d23.size; have := h23_24.size; omega)
  have lb3_4 : w1_0.heap.size <= wl3.heap.size := Nat.le_trans lb2_4 (by have := h21_4.size; have := h21_5.size; have := d23.size; have := h23_24.size; omega)
  have lb3_9 : wl0.heap.size <= wl3.heap.size := Nat.le_trans lb2_9 (by have := h21_4.size; have := h21_5.size; have := d23.size; have := h23_24.size; omega)
  have lb3_11 : w9_3.heap.size <= wl3.heap.size := Nat.le_trans lb2_10 (by have := h21_4.size; have := h21_5.size; have := d23.size; have := h23_24.size; omega)
  have lb3_10 : w9_3.heap.size <= wl3.heap.size := Nat.le_trans lb2_10 (by have := h21_4.size; have := h21_5.size; have := d23.size; have := h23_24.size; omega)
  have lb3_12 : w9_3.heap.size <= wl3.heap.size := Nat.le_trans lb2_10 (by have := h21_4.size; have := h21_5.size; have := d23.size; have := h23_24.size; omega)
  have lb3_13 : w9_3.heap.size <= wl3.heap.size := Nat.le_trans lb2_10 (by have := h21_4.size; have := h21_5.size; have := d23.size; have := h23_24.size; omega)
  refine WC.seq (WC.sr (W.run 1 rfl ?_))
  refine W.a (.field0 fa41_1 rfl) ?_
  refine W.r (.loadB (v := .slice ((qs10_3.getD i2 noPlR).bA) ((qs10_3.getD i2 noPlR).bN) ((qs10_3.getD i2 noPlR).bC)) na35 rfl f3_6 rfl) ?_
  refine W.r (.len underlying35 rfl) ?_
  refine W.run 1 rfl (W.nx ?_)
  by_cases c7 : ((k : Nat) : Int) < (((qs10_3.getD i2 noPlR).bN : Nat) : Int)
  ·refine WC.condY rfl (decide_eq_true c7) ?_
   refine WC.sn (WC.seq (WC.block (WC.region (W.run 1 rfl ?_))))
   refine W.a (.field0 fa41_1 rfl) ?_
   refine W.r (.loadB (v := .slice ((qs10_3.getD i2 noPlR).bA) ((qs10_3.getD i2 noPlR).bN) ((qs10_3.getD i2 noPlR).bC)) na35 rfl f3_6 rfl) ?_
   refine W.run 1 rfl ?_
   refine W.a (.idxS (k) underlying35 sz28 rfl rfl (pl.bl.vec.isSome pv1_row (by omega)) (rfl) (by omega)) ?_
   refine W.r (.vone (v := .int .u64 ((((((pls.getD i2 noPln).bl).getD k 0) : Nat) : Int))) na28 rfl f3_8.vec pv1_row (getS ((pls.getD i2 noPln).bl) 0 (by first | omega | (simp only [List.length_cons, List.length_nil]; omega))) rfl) ?_
   refine W.cl go18 rfl rfl (pback_ok (((pls.getD i2 noPln).bl.take k).foldl addS (ts.getD i2 0)) (((pls.getD i2 noPln).bl).getD k 0) wl3) ?_
   rintro _ w29_6 ⟨rfl, h29_6⟩
   have L37 := Ll3.trans h29_6
   refine W.run 1 rfl (W.nil (E.blkN (E.thenN (WC.region (W.run 1 rfl ?_)))))
   refine W.a (.add rfl rfl (by omega)) ?_
   refine W.run 1 rfl (W.nil ?_)
   have f38 := (f3_0.le h29_6)
   have f39 := (f3_1.le h29_6)
   have f40 := (f3_2.le h29_6)
   have f41 := (f3_3.le h29_6)
   have f42 := (f3_4.le h29_6)
   have f43 := (f3_5.le h29_6)
   have f44 := (f3_6.le h29_6)
   have f45 := (f3_7.le h29_6)
   have f46 := (f3_8.le h29_6)
   refine E.again (k + 1) (.cons rfl (.cons rfl (.cons rfl (.cons rfl (.cons rfl (.cons rfl (.cons rfl (.cons rfl (.cons rfl (.cons' rfl (int_eq (congrArg Nat.cast (back_next (by omega)).symm)) (.cons rfl (.nil _)))))))))))) ?_ ?_
   ·exact ⟨by omega, L37, by have := zl3; have := h29_6.size; omega, f38, f39, f40, f41, f42, f43, f44, f45, f46⟩
   first | omega | (simp only []; omega)
  refine WC.condN rfl (decide_eq_false c7) ?_
  refine WC.exit (E.thenX (E.thenX (E.blkH (E.thenN (WC.seq ?_)))))
  refine WC.drawM [0, 1, 2, 3, 5, 6, 7, 11] [4, 8, 9, 10, 12, 13, 14, 15, 16] [17, 18] (fun i => bif Nat.beq i 9 then [8] else bif Nat.beq i 10 then [9] else bif Nat.beq i 12 then [4, 10] else bif Nat.beq i 13 then [12] else bif Nat.beq i 14 then [13] else bif Nat.beq i 15 then [13] else []) mixed (by kernel_rfl) ?_
  intro w30 d30
  have L47 := Ll3.trans d30
  refine G.run 2 rfl ?_
  refine G.a rfl (.idxS (i2) underlying35 sz28 rfl rfl (ot9_3.vec.isSome pv1_row (by omega)) (rfl) (by omega)) ?_
  have f48 := (f3_3.le d30)
  refine G.r rfl (.vone (v := .int .u64 ((((ts.getD i2 0) : Nat) : Int))) na28 rfl f48.vec pv1_row (getS ts 0 (by omega)) rfl) ?_
  refine G.a rfl (.cutArr underlying30 sz5 rfl) ?_
  refine G.run 1 rfl ?_
  refine G.r rfl (.toU8 i2 (isS underlying3) underlying5 rfl rfl) ?_
  refine G.run 1 rfl (G.nil ?_)
  refine E.free3 ⟨by rfl, fun iU => (bif Nat.beq iU 4 then (fun v w' => v = .int .u64 (((base (ts.getD i2 0) : Nat) : Int))) else (bif Nat.beq iU 8 then (fun v w' => ∃ g30_8, v = .slice (some ⟨g30_8, 0, none⟩) 1 1 /\ OVec w' w30.heap.size 5 byteV 1 (some ⟨g30_8, 0, none⟩) 1 1 ([BitVec.ofNat 8 i2])) else (bif Nat.beq iU 9 then (fun v w' => ∃ g30_8 g30_9, v = .slice (some ⟨g30_9, 0, none⟩) 2 2 /\ OVec w' w30.heap.size 5 byteV 1 (some ⟨g30_8, 0, none⟩) 1 1 ([BitVec.ofNat 8 i2]) /\ Blk w' g30_9 26 #[.slice (some ⟨g0_0, 0, none⟩) 32 32, .slice (some ⟨g30_8, 0, none⟩) 1 1]) else (bif Nat.beq iU 10 then (fun v w' => v = .agg ((tag nSplit [seed, [BitVec.ofNat 8 i2]]).map u8v).toArray) else (bif Nat.beq iU 12 then (fun v w' => ∃ gp30_12 Ab30_12 cb30_12, v = .tuple #[.agg (plV (⟨some ⟨gp30_12, 0, none⟩, (rs.getD i2 noPaR).wN, (rs.getD i2 noPaR).wN, Ab30_12, (rs.getD i2 noPaR).wN - 1, cb30_12⟩ : PlR)).toArray, .bool true] /\ PlnAt w' w30.heap.size (⟨some ⟨gp30_12, 0, none⟩, (rs.getD i2 noPaR).wN, (rs.getD i2 noPaR).wN, Ab30_12, (rs.getD i2 noPaR).wN - 1, cb30_12⟩ : PlR) (planT (ts.getD i2 0) (tag nSplit [seed, [BitVec.ofNat 8 i2]]) (rs.getD i2 noPaR).wN)) else (bif Nat.beq iU 13 then (fun v w' => ∃ gp30_12 Ab30_12 cb30_12, v = .tuple #[.agg (plV (⟨some ⟨gp30_12, 0, none⟩, (rs.getD i2 noPaR).wN, (rs.getD i2 noPaR).wN, Ab30_12, (rs.getD i2 noPaR).wN - 1, cb30_12⟩ : PlR)).toArray, .bool true] /\ PlnAt w' w30.heap.size (⟨some ⟨gp30_12, 0, none⟩, (rs.getD i2 noPaR).wN, (rs.getD i2 noPaR).wN, Ab30_12, (rs.getD i2 noPaR).wN - 1, cb30_12⟩ : PlR) (planT (ts.getD i2 0) (tag nSplit [seed, [BitVec.ofNat 8 i2]]) (rs.getD i2 noPaR).wN)) else (bif Nat.beq iU 14 then (fun v w' => ∃ gp30_12 Ab30_12 cb30_12, v = .agg (plV (⟨some ⟨gp30_12, 0, none⟩, (rs.getD i2 noPaR).wN, (rs.getD i2 noPaR).wN, Ab30_12, (rs.getD i2 noPaR).wN - 1, cb30_12⟩ : PlR)).toArray /\ PlnAt w' w30.heap.size (⟨some ⟨gp30_12, 0, none⟩, (rs.getD i2 noPaR).wN, (rs.getD i2 noPaR).wN, Ab30_12, (rs.getD i2 noPaR).wN - 1, cb30_12⟩ : PlR) (planT (ts.getD i2 0) (tag nSplit [seed, [BitVec.ofNat 8 i2]]) (rs.getD i2 noPaR).wN)) else (bif Nat.beq iU 15 then (fun v w' => v = .bool true) else (bif Nat.beq iU 16 then (fun v w' => ∃ g30_16, v = .pointer (some ⟨g30_16, 0, none⟩) /\ Blk w' g30_16 41 (plV noPlR).toArray) else (fun _ _ => True)))))))))), ?_, ?_, ?_⟩
  ·intro iU hi v w1 w2 hv hle
   simp only [List.mem_cons, List.not_mem_nil, or_false] at hi
   rcases hi with rfl | rfl | rfl | rfl | rfl | rfl | rfl | rfl | rfl
   ·exact hv
   ·obtain ⟨g30_8, hvv, k30_8_0⟩ := hv; exact ⟨g30_8, hvv, k30_8_0.le hle⟩
   ·obtain ⟨g30_8, g30_9, hvv, k30_8_0, k30_9_0⟩ := hv; exact ⟨g30_8, g30_9, hvv, k30_8_0.le hle, k30_9_0.le hle⟩
   ·exact hv
   ·obtain ⟨gp30_12, Ab30_12, cb30_12, hvv, k30_12_0⟩ := hv; exact ⟨gp30_12, Ab30_12, cb30_12, hvv, k30_12_0.le hle⟩
   ·obtain ⟨gp30_12, Ab30_12, cb30_12, hvv, k30_12_0⟩ := hv; exact ⟨gp30_12, Ab30_12, cb30_12, hvv, k30_12_0.le hle⟩
   ·obtain ⟨gp30_12, Ab30_12, cb30_12, hvv, k30_12_0⟩ := hv; exact ⟨gp30_12, Ab30_12, cb30_12, hvv, k30_12_0.le hle⟩
   ·exact hv
   obtain ⟨g30_16, hvv, k30_16_0⟩ := hv; exact ⟨g30_16, hvv, k30_16_0.le hle⟩
  ·intro iU hi
   simp only [List.mem_cons, List.not_mem_nil, or_false] at hi
   rcases hi with rfl | rfl | rfl | rfl | rfl | rfl | rfl | rfl | rfl
   ·refine .inl ⟨rfl, Step.of0 rfl rfl ?_⟩
    intro w1 hle
    refine Ef.call go20 rfl rfl (base_ok (ts.getD i2 0) w1) ?_
    rintro _ w2 ⟨rfl, h2⟩
    refine ⟨_, rfl, ?_⟩
    exact ⟨h2, rfl, fun k hk => hk.elim⟩
   ·refine .inl ⟨rfl, Step.of0 rfl rfl ?_⟩
    intro w1 hle
    refine Ef.buildSliceV (len := 1) [_] underlying26 el5 rfl (by simp [Value.cells, u8v]) rfl (by decide) (by decide) ?_
    intro g30_8 w2 hg b30_8 h2
    have b30_8 : Blk w2 g30_8 5 (([BitVec.ofNat 8 i2]).map byteV).flatten.toArray := b30_8
    have o30_8 : OVec w2 w1.heap.size 5 byteV 1 (some ⟨g30_8, 0, none⟩) 1 1 ([BitVec.ofNat 8 i2]) := b30_8.ovec hg byteV_row rfl rfl (by decide)
    exact ⟨h2, ⟨_, rfl, (o30_8.mono hle.size)⟩, fun k hk => o30_8.row hk⟩
   ·refine .inl ⟨rfl, Step.of1 (j := 8) rfl rfl rfl ?_⟩
    intro v8 w1 hle hv8
    obtain ⟨g30_8, rfl, k30_8_0⟩ := hv8
    refine Ef.buildSliceN [_, _] underlying157 el26 rfl (by intro v hv; simp at hv; rcases hv with rfl | rfl <;> rfl) rfl (by decide) (by decide) ?_
    intro g30_9 w2 hg b30_9 h2
    have b30_9 : Blk w2 g30_9 26 #[.slice (some ⟨g0_0, 0, none⟩) 32 32, .slice (some ⟨g30_8, 0, none⟩) 1 1] := b30_9
    have f55 := (k30_8_0.le h2)
    exact ⟨h2, ⟨_, _, rfl, f55, b30_9⟩, fun k hk => (rowOf_lit hk) ▸ ⟨hg, b30_9.lt⟩⟩
   ·refine .inl ⟨rfl, Step.of1 (j := 9) rfl rfl rfl ?_⟩
    intro v9 w1 hle hv9
    obtain ⟨g30_8, g30_9, rfl, k30_8_0, k30_9_0⟩ := hv9
    have f57 := (f3_0.le (d30.trans hle))
    refine Ef.call go21 rfl rfl (tag_ok _ nSplit w1 (ps := [seed, [BitVec.ofNat 8 i2]]) rfl (k30_9_0.sl (s := 1) (n := 2) rfl) (.cons (f57.sb hse) (.cons (byte_sb k30_8_0.vec) (.nil _))) (by rw [tagLen2, hse]; show 24 + 5 + 32 + 1 <= _; decide)) ?_
    rintro _ w2 ⟨rfl, h2⟩
    refine ⟨_, rfl, ?_⟩
    exact ⟨h2, rfl, fun k hk => hk.elim⟩
   ·refine .inl ⟨rfl, Step.of2 (j := 4) (k := 10) rfl rfl rfl rfl ?_⟩
    intro v4 v10 w1 hle hv4 hv10
    have hv4 : v4 = .int .u64 (((base (ts.getD i2 0) : Nat) : Int)) := hv4
    subst hv4
    have hv10 : v10 = .agg ((tag nSplit [seed, [BitVec.ofNat 8 i2]]).map u8v).toArray := hv10
    subst hv10
    refine Ef.call go19 rfl rfl (pnew_ok (base (ts.getD i2 0)) (base_lt _) (right_base _) hm3.1 (tag nSplit [seed, [BitVec.ofNat 8 i2]]) (tag_length _ _) (rs.getD i2 noPaR).wN hm3.2.1 hm3.2.2 w1) ?_
    rintro _ w2 ⟨gp30_12, Ab30_12, cb30_12, rfl, hgp30_12, bp30_12, ob30_12, h2⟩
    refine ⟨_, rfl, ?_⟩
    have pq30_12 : PlnAt w2 w1.heap.size (⟨some ⟨gp30_12, 0, none⟩, (rs.getD i2 noPaR).wN, (rs.getD i2 noPaR).wN, Ab30_12, (rs.getD i2 noPaR).wN - 1, cb30_12⟩ : PlR) (planT (ts.getD i2 0) (tag nSplit [seed, [BitVec.ofNat 8 i2]]) (rs.getD i2 noPaR).wN) := ⟨bp30_12.ovec hgp30_12 pv1_row (flat_sing (g1 := pv) _).symm (planT_len _ _ hm3.2.1).1 (show (rs.getD i2 noPaR).wN <= maxLen by have := hm3.2.2; unfold maxLen; omega), Own.ovec (g1 := pv) ob30_12⟩
    exact ⟨h2, ⟨_, _, _, rfl, (pq30_12.mono hle.size)⟩, fun k hk => hk.elim⟩
   ·refine Step3.pure1 (j := 12) rfl rfl rfl rfl ?_
    intro v12 w1 hle hv12
    obtain ⟨gp30_12, Ab30_12, cb30_12, rfl, k30_12_0⟩ := hv12
    exact ⟨.tuple #[.agg (plV (⟨some ⟨gp30_12, 0, none⟩, (rs.getD i2 noPaR).wN, (rs.getD i2 noPaR).wN, Ab30_12, (rs.getD i2 noPaR).wN - 1, cb30_12⟩ : PlR)).toArray, .bool true], .move rfl, ⟨_, _, _, rfl, k30_12_0⟩, fun k hk => hk.elim⟩
   ·refine Step3.pure1 (j := 13) rfl rfl rfl rfl ?_
    intro v13 w1 hle hv13
    obtain ⟨gp30_12, Ab30_12, cb30_12, rfl, k30_12_0⟩ := hv13
    exact ⟨.agg (plV (⟨some ⟨gp30_12, 0, none⟩, (rs.getD i2 noPaR).wN, (rs.getD i2 noPaR).wN, Ab30_12, (rs.getD i2 noPaR).wN - 1, cb30_12⟩ : PlR)).toArray, .extract (v := .agg (plV (⟨some ⟨gp30_12, 0, none⟩, (rs.getD i2 noPaR).wN, (rs.getD i2 noPaR).wN, Ab30_12, (rs.getD i2 noPaR).wN - 1, cb30_12⟩ : PlR)).toArray) rfl rfl, ⟨_, _, _, rfl, k30_12_0⟩, fun k hk => hk.elim⟩
   ·refine Step3.pure1 (j := 13) rfl rfl rfl rfl ?_
    intro v13 w1 hle hv13
    obtain ⟨gp30_12, Ab30_12, cb30_12, rfl, k30_12_0⟩ := hv13
    exact ⟨.bool true, .extract (v := .bool true) rfl rfl, rfl, fun k hk => hk.elim⟩
   refine .inl ⟨rfl, Step.of0 rfl rfl ?_⟩
   intro w1 hle
   refine Ef.allocA z41 ?_
   intro g30_16 w2 hg b30_16 h2
   exact ⟨h2, ⟨_, rfl, b30_16⟩, fun k hk => (show g30_16 = k from hk) ▸ ⟨hg, b30_16.lt⟩⟩
  intro f_30 W_30 h_30 hphi_30 hfeet_30 hap_30
  have e4_30 : f_30 4 = .int .u64 (((base (ts.getD i2 0) : Nat) : Int)) := hphi_30 4 (by decide)
  obtain ⟨g30_8, e8_30, kz30_8_0⟩ := hphi_30 8 (by decide)
  obtain ⟨g30_8, g30_9, e9_30, k30_8_0, k30_9_0⟩ := hphi_30 9 (by decide)
  have e10_30 : f_30 10 = .agg ((tag nSplit [seed, [BitVec.ofNat 8 i2]]).map u8v).toArray := hphi_30 10 (by decide)
  obtain ⟨gp30_12, Ab30_12, cb30_12, e12_30, kz30_12_0⟩ := hphi_30 12 (by decide)
  obtain ⟨gp30_12, Ab30_12, cb30_12, e13_30, kz30_12_0⟩ := hphi_30 13 (by decide)
  obtain ⟨gp30_12, Ab30_12, cb30_12, e14_30, k30_12_0⟩ := hphi_30 14 (by decide)
  have e15_30 : f_30 15 = .bool true := hphi_30 15 (by decide)
  obtain ⟨g30_16, e16_30, k30_16_0⟩ := hphi_30 16 (by decide)
  have hgzg30_16 : w30.heap.size <= g30_16 := (hfeet_30 16 (by decide) g30_16 (by rw [e16_30]; rfl)).1
  show G _ _ _ _ _ ((141, f_30 4) :: (145, f_30 8) :: (146, f_30 9) :: (147, f_30 10) :: (149, f_30 12) :: (136, f_30 13) :: (150, f_30 14) :: (151, f_30 15) :: (18, f_30 16) :: _) _
  rw [e4_30, e8_30, e9_30, e10_30, e12_30, e13_30, e14_30, e15_30, e16_30]
  have L66 := L47.trans h_30
  refine G.ef0 rfl rfl rfl rfl ?_
  refine Ef.storeAll sz41 (by rfl) rfl rfl k30_16_0 (by simp only [List.size_toArray, plV_row.len]) (plV_row.one (⟨some ⟨gp30_12, 0, none⟩, (rs.getD i2 noPaR).wN, (rs.getD i2 noPaR).wN, Ab30_12, (rs.getD i2 noPaR).wN - 1, cb30_12⟩ : PlR)) ?_
  intro w30_17 b30_17 h30_17
  refine noT (by kernel_rfl) ?_
  have b30_17 : Blk w30_17 g30_16 41 (plV (⟨some ⟨gp30_12, 0, none⟩, (rs.getD i2 noPaR).wN, (rs.getD i2 noPaR).wN, Ab30_12, (rs.getD i2 noPaR).wN - 1, cb30_12⟩ : PlR)).toArray := b30_17
  have L67 := L66.tb h30_17 L47 hgzg30_16
  refine G.run 1 rfl (G.nil (E.thenN (WC.seq ?_)))
  refine WC.draw [0, 1, 2, 3, 4, 5, 6, 7, 8, 9, 10, 12, 13, 14, 15, 11, 16, 17, 18, 19, 20, 21, 22, 23, 24, 25, 26, 27, 28, 29] mixed (by kernel_rfl) ?_
  intro w31 d31
  have L68 := L67.trans d31
  have f69 := ((k30_12_0.chB h30_17 k30_16_0 (by decide) (by decide)).le d31)
  have zpl70 : PlnAt w31 w30.heap.size (⟨some ⟨gp30_12, 0, none⟩, (rs.getD i2 noPaR).wN, (rs.getD i2 noPaR).wN, Ab30_12, (rs.getD i2 noPaR).wN - 1, cb30_12⟩ : PlR) (planT (ts.getD i2 0) (seedD seed i2) (rs.getD i2 noPaR).wN) := f69
  have hpt2 := planT_len (ts.getD i2 0) (seedD seed i2) hm3.2.1
  refine G.a rfl (.field0 fa41_0 rfl) ?_
  have f71 := (((f3_6.le (d30.trans h_30)).ch h30_17 (fun h => (show g30_16 ≠ g21_4 from by have := f3_6.lt; have := d30.size; omega) (Option.some.inj h))).le d31)
  refine G.r rfl (.loadB (v := .slice ((qs10_3.getD i2 noPlR).pA) ((qs10_3.getD i2 noPlR).pN) ((qs10_3.getD i2 noPlR).pC)) na39 rfl f71 rfl) ?_
  refine G.a rfl (.idxS (0) underlying39 sz43 rfl rfl (pl.pts.vec.isSome pv1_row (by omega)) (rfl) (by omega)) ?_
  have f72 := (((f3_7.le (d30.trans h_30)).ch h30_17 (fun q hq => by cases hq; exact (fun he => by have := (f3_7.row he).2; have := d30.size; omega))).le d31)
  refine G.r rfl (.vone (v := .int .u64 ((((((pls.getD i2 noPln).pts).getD 0 0) : Nat) : Int))) na43 rfl f72.vec pv1_row (getS ((pls.getD i2 noPln).pts) 0 (by first | omega | (simp only [List.length_cons, List.length_nil]; omega))) rfl) ?_
  refine G.run 1 rfl ?_
  refine G.ef rfl rfl rfl rfl rfl ?_
  refine Ef.call go17 rfl rfl (shows_ok (((pls.getD i2 noPln).pts).getD 0 0) (((pls.getD i2 noPln).bl.take k).foldl addS (ts.getD i2 0)) (by rw [hsf]; exact base_lt _) (by rw [hsf]; exact right_base _) (by rw [List.take_of_length_le (by omega), hsf]) w31) ?_
  rintro _ w31_5 ⟨rfl, h31_5⟩
  refine ⟨_, rfl, ?_⟩
  refine ⟨fun _ => h31_5, ?_⟩
  have L73 := L68.trans h31_5
  refine G.run 3 rfl ?_
  refine G.ag rfl (.field0 fa41_1 rfl) ?_
  have f74 := (f71.le h31_5)
  refine G.rg rfl (.loadB (v := .slice ((qs10_3.getD i2 noPlR).bA) ((qs10_3.getD i2 noPlR).bN) ((qs10_3.getD i2 noPlR).bC)) na35 rfl f74 rfl) ?_
  refine G.run 2 rfl ?_
  refine G.ag rfl (.idxS (i2) underlying35 sz28 rfl rfl (ot9_3.vec.isSome pv1_row (by omega)) (rfl) (by omega)) ?_
  have f75 := (((f48.le h_30).ch h30_17 (fun q hq => by cases hq; exact (fun he => by have := (f48.row he).2; omega))).le (d31.trans h31_5))
  refine G.rg rfl (.vone (v := .int .u64 ((((ts.getD i2 0) : Nat) : Int))) na28 rfl f75.vec pv1_row (getS ts 0 (by omega)) rfl) ?_
  have f76 := (((f3_8.le (d30.trans h_30)).ch h30_17 (fun q hq => by cases hq; exact (fun he => by have := (f3_8.row he).2; have := d30.size; omega))).le (d31.trans h31_5))
  refine G.efg rfl rfl rfl rfl rfl (rfl) rfl rfl ?_
  refine Ef.call go22 rfl rfl (proof_ok (((pls.getD i2 noPln).bl.take k).foldl addS (ts.getD i2 0)) w31_5 (Vec.sl (g1 := pv) f76.vec) (by omega)) ?_
  rintro _ w31_11 ⟨rfl, h31_11⟩
  refine ⟨_, rfl, ?_⟩
  refine ⟨fun _ => h31_11, ?_⟩
  have L77 := L73.trans h31_11
  refine G.ag rfl (.dec (.neq rfl rfl) (decide_eq_false (fun h => h (by rw [List.take_of_length_le (by omega)]; exact congrArg Nat.cast hsp)))) ?_
  refine G.run 6 rfl ?_
  refine G.ag rfl (.field0 fa41_0 rfl) ?_
  have f78 := (b30_17.le (d31.trans (h31_5.trans h31_11)))
  refine G.rg rfl (.loadB (v := .slice ((⟨some ⟨gp30_12, 0, none⟩, (rs.getD i2 noPaR).wN, (rs.getD i2 noPaR).wN, Ab30_12, (rs.getD i2 noPaR).wN - 1, cb30_12⟩ : PlR).pA) ((⟨some ⟨gp30_12, 0, none⟩, (rs.getD i2 noPaR).wN, (rs.getD i2 noPaR).wN, Ab30_12, (rs.getD i2 noPaR).wN - 1, cb30_12⟩ : PlR).pN) ((⟨some ⟨gp30_12, 0, none⟩, (rs.getD i2 noPaR).wN, (rs.getD i2 noPaR).wN, Ab30_12, (rs.getD i2 noPaR).wN - 1, cb30_12⟩ : PlR).pC)) na39 rfl f78 rfl) ?_
  refine G.ag rfl (.field0 fa41_0 rfl) ?_
  have f79 := (f74.le h31_11)
  refine G.rg rfl (.loadB (v := .slice ((qs10_3.getD i2 noPlR).pA) ((qs10_3.getD i2 noPlR).pN) ((qs10_3.getD i2 noPlR).pC)) na39 rfl f79 rfl) ?_
  have f80 := (zpl70.pts.le (h31_5.trans h31_11))
  have f81 := (f72.le (h31_5.trans h31_11))
  refine G.efg rfl rfl rfl rfl rfl (rfl) rfl rfl ?_
  refine Ef.call go23 rfl rfl ((by have q := rpoints_ok (c := ((⟨some ⟨gp30_12, 0, none⟩, (rs.getD i2 noPaR).wN, (rs.getD i2 noPaR).wN, Ab30_12, (rs.getD i2 noPaR).wN - 1, cb30_12⟩ : PlR).pC)) (d := ((qs10_3.getD i2 noPlR).pC)) w31_11 f80.vec f81.vec (show (rs.getD i2 noPaR).wN <= 1000000 by omega); rw [decide_eq_true (show (planT (ts.getD i2 0) (seedD seed i2) (rs.getD i2 noPaR).wN).pts = (pls.getD i2 noPln).pts by rw [hpe])] at q; exact q)) ?_
  rintro _ w31_27 ⟨rfl, h31_27⟩
  refine ⟨_, rfl, ?_⟩
  refine ⟨fun _ => h31_27, ?_⟩
  have L82 := L77.trans h31_27
  refine G.run 2 rfl (G.nil (E.thenN (WC.condF rfl (WC.skip (E.blkN (E.thenN (WC.region (W.run 1 rfl ?_))))))))
  refine W.a (.add rfl rfl (by omega)) ?_
  refine W.run 1 rfl (W.nil ?_)
  have f83 := (((f3_0.le (d30.trans h_30)).ch h30_17 (fun h => (show g30_16 ≠ g0_0 from by have := f3_0.lt; have := d30.size; omega) (Option.some.inj h))).le (d31.trans (h31_5.trans (h31_11.trans h31_27))))
  have f84 := (((f3_1.le (d30.trans h_30)).ch h30_17 (fun q hq => by cases hq; exact (fun he => by have := (f3_1.row he).2; have := d30.size; omega))).le (d31.trans (h31_5.trans (h31_11.trans h31_27))))
  have f85 := (((f3_2.le (d30.trans h_30)).chB h30_17 k30_16_0 (by decide) (by decide)).le (d31.trans (h31_5.trans (h31_11.trans h31_27))))
  have f86 := (f75.le (h31_11.trans h31_27))
  have f87 := (((f3_4.le (d30.trans h_30)).ch h30_17 (fun q hq => by cases hq; exact (fun he => by have := (f3_4.row he).2; have := d30.size; omega))).le (d31.trans (h31_5.trans (h31_11.trans h31_27))))
  have f88 := (((f3_5.le (d30.trans h_30)).chB h30_17 k30_16_0 (by decide) (by decide)).le (d31.trans (h31_5.trans (h31_11.trans h31_27))))
  refine E.again (i2 + 1) (.cons rfl (.cons rfl (.cons rfl (.cons rfl (.cons rfl (.cons rfl (.cons rfl (.nil _)))))))) ?_ ?_
  ·exact ⟨by omega, L82, by have := zl2; have := d30.size; have := h_30.size; have := h30_17.size; have := d31.size; have := h31_5.size; have := h31_11.size; have := h31_27.size; have := zl0; have := zl1; have := zl3; have := h0_0.size; have := h1_0.size; have := h9_3.size; have := h10_3.size; have := h21_4.size; have := h21_5.size; have := d23.size; have := h23_24.size; omega, f83, f84, f85, f86, f87, f88⟩
  first | omega | (simp only []; omega)
 refine WC.condN rfl (decide_eq_false c5) ?_
 refine WC.exit (E.thenX (E.thenX (E.blkH (E.thenN (WC.sr (W.run 3 rfl ?_))))))
 refine W.g (.len underlying35 rfl) ?_
 refine W.run 1 rfl ?_
 by_cases q33_5 : ((ts.length : Nat) : Int) = 0
 ·refine W.g (Any.rd (.dec (.move rfl) (decide_eq_true q33_5)) _) ?_
  refine W.run 5 rfl ?_
  refine W.g (Any.rd (.pickT rfl rfl rfl) _) ?_
  refine W.run 2 rfl (W.nx (WC.ret ?_))
  refine E.retG1 rfl rfl ?_
  exact ⟨rfl, Ll2⟩
 refine W.g (Any.rd (.dec (.move rfl) (decide_eq_false q33_5)) _) ?_
 refine W.run 1 rfl ?_
 refine W.efg rfl rfl rfl (rfl) rfl rfl ?_
 refine Ef.call go24 rfl rfl (whole_ok wl2 (Vec.sl (g1 := pv) f2_3.vec) (by omega)) ?_
 rintro _ w33_7 ⟨rfl, h33_7⟩
 refine ⟨_, rfl, ?_⟩
 have L89 := Ll2.trans h33_7
 refine W.run 1 rfl ?_
 refine W.g (Any.rd (.remN s 2305843009213688669 (s % 2305843009213688669) rfl rfl rfl rfl (by decide) (rfl)) _) ?_
 refine W.run 1 rfl ?_
 refine W.g (Any.rd (.pickF rfl rfl rfl) _) ?_
 refine W.run 2 rfl (W.nx (WC.ret ?_))
 refine E.retG1 rfl rfl ?_
 exact ⟨rB (decide_eq_true (congrArg Nat.cast (show sumS ts = s % 2305843009213688669 by rw [hets]; exact partsL_whole (by omega) (by omega)))), L89⟩
end Go.Proofs.YtocheaahlpiajaaGreatDoor

