/- LedgerSheets: for every input the law answers true and leaves its arguments as they were. -/
import Derived.Test.YtgpaekbdbpkogaaGreatLedgerSheetsQ
set_option linter.unusedVariables false
set_option linter.unusedSimpArgs false
namespace Go.Proofs.YtgpaekbdbpkogaaGreat
open Tryz
open Go Go.Sx Go.Hsp Go.Num Go.Osp Go.Gsp Go.Lsp Go.Shp
set_option maxRecDepth 20000
def Sta0 (am : Int) (s : Sta) : Prop := (0 <= s.no /\ s.no <= 1048576) /\ (0 <= s.h0 /\ s.h0 <= 1125899906842624) /\ (0 <= s.h1 /\ s.h1 <= 1125899906842624) /\ (0 <= s.rt /\ s.rt <= 1000) /\ s.h0 + s.h1 = am
theorem r20in_ok (n lo hi : Int) (w : World) : Calls prog 60 #[.int .i64 (n), .int .i64 (lo), .int .i64 (hi)] w fun r w' => r = .returned (.bool (inB n lo hi)) /\ Le w w' := by
 refine enter func60 rfl rfl ?_
 have L0 := Le.refl w
 refine WC.sr (W.run 1 rfl (W.nx (WC.sr (W.run 3 rfl ?_))))
 by_cases q1_3 : lo <= n
 ·refine W.dt q1_3 rfl rfl (W.run 5 rfl (W.nx (WC.ret ?_)))
  refine E.retG1 rfl rfl ?_
  exact ⟨(by first | rfl | (simp [inB, q1_3]; done) | (simp [inB, q1_3]; omega) | (simp [inB, q1_3]; split <;> first | (exfalso; omega) | (simp; done) | (simp; omega))), L0⟩
 refine W.df q1_3 rfl rfl (W.run 5 rfl (W.nx (WC.ret ?_)))
 refine E.retG1 rfl rfl ?_
 exact ⟨(by first | rfl | (simp [inB, q1_3]; done) | (simp [inB, q1_3]; omega) | (simp [inB, q1_3]; split <;> first | (exfalso; omega) | (simp; done) | (simp; omega))), L0⟩

theorem roff0_ok (s : Sta) (to : Int) (w : World) : Calls prog 63 #[.agg #[.int .i64 (s.no), .int .i64 (s.h0), .int .i64 (s.h1), .slice none 0 0, .int .i64 (s.rt)], .int .i64 (to)] w fun r w' => r = .returned (.tuple #[.int .i64 0, .int .i64 0]) /\ Le w w' := by
 refine enter func63 rfl rfl ?_
 have L0 := Le.refl w
 refine WC.sr (W.ef rfl rfl rfl ?_)
 refine Ef.boxA rfl ?_
 intro g0_0 w0_0 hg0_0 b0_0 h0_0
 have L1 := L0.trans h0_0
 have b0_0 : Blk w0_0 g0_0 51 #[.int .i64 (s.no), .int .i64 (s.h0), .int .i64 (s.h1), .slice none 0 0, .int .i64 (s.rt)] := b0_0
 refine W.run 2 rfl (W.nx (WC.sr (W.run 1 rfl (W.nx (WC.sr (W.run 1 rfl (W.nx (WC.seq (WC.sr (W.run 1 rfl (W.nx (WC.block ?_))))))))))))
 refine WC.rounds 1 ?_
 refine RCn.step ?_
 refine WC.seq (WC.sr (W.run 1 rfl ?_))
 refine W.a (.field0 fa51_2 rfl) ?_
 refine W.r (.loadB (v := .slice none 0 0) na49 rfl b0_0 rfl) ?_
 refine W.r (.len underlying49 rfl) ?_
 refine W.a (.dec (.lss rfl rfl) (show _ = false from by first | decide | rfl)) ?_
 refine W.nx (WC.condF rfl (WC.exit (E.thenX (E.thenX (E.blkH (E.thenN (WC.sr (W.run 4 rfl (W.nx (WC.ret ?_))))))))))
 refine E.retG2 rfl rfl rfl ?_
 exact ⟨rfl, L1⟩

theorem rtot0_ok {s : Sta} (w : World) (hb : (0 <= s.h0 /\ s.h0 <= 1125899906842624) /\ 0 <= s.h1 /\ s.h1 <= 1125899906842624) : Calls prog 64 #[.agg #[.int .i64 (s.no), .int .i64 (s.h0), .int .i64 (s.h1), .slice none 0 0, .int .i64 (s.rt)]] w fun r w' => r = .returned (.int .i64 (s.h0 + s.h1)) /\ Le w w' := by
 refine enter func64 rfl rfl ?_
 have L0 := Le.refl w
 refine WC.sr (W.ef rfl rfl rfl ?_)
 refine Ef.boxA rfl ?_
 intro g0_0 w0_0 hg0_0 b0_0 h0_0
 have L1 := L0.trans h0_0
 have b0_0 : Blk w0_0 g0_0 51 #[.int .i64 (s.no), .int .i64 (s.h0), .int .i64 (s.h1), .slice none 0 0, .int .i64 (s.rt)] := b0_0
 refine W.run 1 rfl (W.nx (WC.sr ?_))
 refine W.a (.field0 fa51_1 rfl) ?_
 refine W.a (.idxAo (0) underlying48 sz3 rfl rfl (rfl) (by omega)) ?_
 refine W.r (.loadB (v := .int .i64 (s.h0)) na3 rfl b0_0 rfl) ?_
 refine W.a (.field0 fa51_1 rfl) ?_
 refine W.a (.idxAo (1) underlying48 sz3 rfl rfl (rfl) (by omega)) ?_
 refine W.r (.loadB (v := .int .i64 (s.h1)) na3 rfl b0_0 rfl) ?_
 refine W.a (.add rfl rfl (by omega)) ?_
 refine W.run 1 rfl (W.nx (WC.seq (WC.sr (W.run 1 rfl (W.nx (WC.block ?_))))))
 refine WC.rounds 1 ?_
 refine RCn.step ?_
 refine WC.seq (WC.sr (W.run 1 rfl ?_))
 refine W.a (.field0 fa51_2 rfl) ?_
 refine W.r (.loadB (v := .slice none 0 0) na49 rfl b0_0 rfl) ?_
 refine W.r (.len underlying49 rfl) ?_
 refine W.a (.dec (.lss rfl rfl) (show _ = false from by first | decide | rfl)) ?_
 refine W.nx (WC.condF rfl (WC.exit (E.thenX (E.thenX (E.blkH (E.thenN (WC.sr (W.run 2 rfl (W.nx (WC.ret ?_))))))))))
 refine E.retG1 rfl rfl ?_
 exact ⟨rfl, L1⟩

theorem rcost0_ok (ch : Chn) {s : Sta} (w : World) (hrt : 0 <= s.rt /\ s.rt <= 1000) : Calls prog 65 #[.agg (chnV ch).toArray, .agg #[.int .i64 (s.no), .int .i64 (s.h0), .int .i64 (s.h1), .slice none 0 0, .int .i64 (s.rt)]] w fun r w' => r = .returned (.int .i64 (costN s.rt 0)) /\ Le w w' := by
 have hmul := mul_b hrt (show 0 <= 16 by decide)
 refine enter func65 rfl rfl ?_
 have L0 := Le.refl w
 refine WC.sr (W.ef rfl rfl rfl ?_)
 refine Ef.boxA rfl ?_
 intro g0_0 w0_0 hg0_0 b0_0 h0_0
 have L1 := L0.trans h0_0
 refine W.ef rfl rfl rfl ?_
 refine Ef.boxA rfl ?_
 intro g0_1 w0_1 hg0_1 b0_1 h0_1
 have L2 := L1.trans h0_1
 have b0_1 : Blk w0_1 g0_1 51 #[.int .i64 (s.no), .int .i64 (s.h0), .int .i64 (s.h1), .slice none 0 0, .int .i64 (s.rt)] := b0_1
 refine W.run 1 rfl (W.nx (WC.sr ?_))
 refine W.a (.field0 fa51_3 rfl) ?_
 refine W.r (.loadB (v := .int .i64 (s.rt)) na3 rfl b0_1 rfl) ?_
 refine W.a (.field0 fa51_2 rfl) ?_
 refine W.r (.loadB (v := .slice none 0 0) na49 rfl b0_1 rfl) ?_
 refine W.r (.len underlying49 rfl) ?_
 refine W.cl go94 rfl rfl (r19fee_ok s.rt 0 (by omega) (by omega) w0_1) ?_
 rintro _ w1_5 ⟨rfl, h1_5⟩
 have L3 := L2.trans h1_5
 refine W.a (.add rfl rfl (by omega)) ?_
 refine W.run 1 rfl (W.nx (WC.ret ?_))
 refine E.retG1 rfl rfl ?_
 exact ⟨rfl, L3⟩

theorem r20right0_ok (ch : Chn) (hch : ChnOk ch) {s : Sta} (w : World) (hs : Sta0 ch.am s) : Calls prog 31 #[.agg (chnV ch).toArray, .agg #[.int .i64 (s.no), .int .i64 (s.h0), .int .i64 (s.h1), .slice none 0 0, .int .i64 (s.rt)]] w fun r w' => r = .returned (.bool (decide (costN s.rt 0 <= s.h ch.op))) /\ Le w w' := by
 obtain ⟨hno, hh0, hh1, hrt, htot⟩ := hs
 have ham := hch.am; have hop := hch.op
 refine enter func31 rfl rfl ?_
 have L0 := Le.refl w
 refine WC.sr (W.ef rfl rfl rfl ?_)
 refine Ef.boxA rfl ?_
 intro g0_0 w0_0 hg0_0 b0_0 h0_0
 have L1 := L0.trans h0_0
 have b0_0 : Blk w0_0 g0_0 43 (chnV ch).toArray := b0_0
 refine W.ef rfl rfl rfl ?_
 refine Ef.boxA rfl ?_
 intro g0_1 w0_1 hg0_1 b0_1 h0_1
 have L2 := L1.trans h0_1
 have b0_1 : Blk w0_1 g0_1 51 #[.int .i64 (s.no), .int .i64 (s.h0), .int .i64 (s.h1), .slice none 0 0, .int .i64 (s.rt)] := b0_1
 refine W.run 1 rfl (W.nx (WC.seq (WC.sr ?_)))
 have f3 := (b0_0.le h0_1)
 refine W.r (.loadAll ag43 (by rfl) rfl f3) ?_
 refine W.cl go59 rfl rfl (r19fit_ok ch hch w0_1) ?_
 rintro _ w1_1 ⟨rfl, h1_1⟩
 have L4 := L2.trans h1_1
 refine W.a (.dec (.neq rfl rfl) (show _ = false from by first | decide | rfl)) ?_
 refine W.run 1 rfl ?_
 refine W.g (Any.rd (.field0 fa51_0 rfl) _) ?_
 have f5 := (b0_1.le h1_1)
 refine W.g (.loadB (v := .int .i64 (s.no)) na3 rfl f5 rfl) ?_
 refine W.efg rfl rfl rfl (rfl) rfl rfl ?_
 refine Ef.call go60 rfl rfl (r20in_ok s.no 0 1048576 w1_1) ?_
 rintro _ w1_6 ⟨rfl, h1_6⟩
 refine ⟨_, rfl, ?_⟩
 have L6 := L4.trans h1_6
 refine W.run 2 rfl ?_
 by_cases q1_9 : (inB s.no 0 1048576) = true
 ·refine W.a (.dec (.move rfl) (congrArg not (q1_9))) ?_
  refine W.g (Any.rd (.field0 fa51_1 rfl) _) ?_
  refine W.g (Any.rd (.idxAo (0) underlying48 sz3 rfl rfl (rfl) (by omega)) _) ?_
  have f7 := (f5.le h1_6)
  refine W.g (.loadB (v := .int .i64 (s.h0)) na3 rfl f7 rfl) ?_
  refine W.efg rfl rfl rfl (rfl) rfl rfl ?_
  refine Ef.call go60 rfl rfl (r20in_ok s.h0 0 1125899906842624 w1_6) ?_
  rintro _ w1_13 ⟨rfl, h1_13⟩
  refine ⟨_, rfl, ?_⟩
  have L8 := L6.trans h1_13
  refine W.run 2 rfl ?_
  by_cases q1_16 : (inB s.h0 0 1125899906842624) = true
  ·refine W.a (.dec (.move rfl) (congrArg not (q1_16))) ?_
   refine W.g (Any.rd (.field0 fa51_1 rfl) _) ?_
   refine W.g (Any.rd (.idxAo (1) underlying48 sz3 rfl rfl (rfl) (by omega)) _) ?_
   have f9 := (f7.le h1_13)
   refine W.g (.loadB (v := .int .i64 (s.h1)) na3 rfl f9 rfl) ?_
   refine W.efg rfl rfl rfl (rfl) rfl rfl ?_
   refine Ef.call go60 rfl rfl (r20in_ok s.h1 0 1125899906842624 w1_13) ?_
   rintro _ w1_20 ⟨rfl, h1_20⟩
   refine ⟨_, rfl, ?_⟩
   have L10 := L8.trans h1_20
   refine W.run 2 rfl ?_
   by_cases q1_23 : (inB s.h1 0 1125899906842624) = true
   ·refine W.a (.dec (.move rfl) (congrArg not (q1_23))) ?_
    refine W.g (Any.rd (.field0 fa51_3 rfl) _) ?_
    have f11 := (f9.le h1_20)
    refine W.g (.loadB (v := .int .i64 (s.rt)) na3 rfl f11 rfl) ?_
    refine W.efg rfl rfl rfl (rfl) rfl rfl ?_
    refine Ef.call go60 rfl rfl (r20in_ok s.rt 0 1000 w1_20) ?_
    rintro _ w1_26 ⟨rfl, h1_26⟩
    refine ⟨_, rfl, ?_⟩
    have L12 := L10.trans h1_26
    refine W.run 2 rfl ?_
    by_cases q1_29 : (inB s.rt 0 1000) = true
    ·refine W.a (.dec (.move rfl) (congrArg not (q1_29))) ?_
     refine W.g (Any.rd (.field0 fa51_2 rfl) _) ?_
     have f13 := (f11.le h1_26)
     refine W.g (.loadB (v := .slice none 0 0) na49 rfl f13 rfl) ?_
     refine W.g (.len underlying49 rfl) ?_
     refine W.g (Any.rd (.dec (.gtr rfl rfl) (show _ = false from by first | decide | rfl)) _) ?_
     refine W.run 1 rfl (W.nx (WC.condF rfl (WC.sn (WC.seq (WC.sr (W.run 1 rfl (W.nx (WC.block ?_))))))))
     refine WC.rounds 1 ?_
     refine RCn.step ?_
     refine WC.seq (WC.sr (W.run 1 rfl ?_))
     refine W.a (.field0 fa51_2 rfl) ?_
     refine W.r (.loadB (v := .slice none 0 0) na49 rfl f13 rfl) ?_
     refine W.r (.len underlying49 rfl) ?_
     refine W.a (.dec (.lss rfl rfl) (show _ = false from by first | decide | rfl)) ?_
     refine W.nx (WC.condF rfl (WC.exit (E.thenX (E.thenX (E.blkH (E.thenN (WC.seq (WC.sr (W.run 1 rfl (W.nx (WC.block ?_)))))))))))
     refine WC.rounds 3 ?_
     refine RCn.step ?_
     refine WC.seq (WC.sr (W.run 1 rfl ?_))
     refine W.a (.dec (.lss rfl rfl) (show _ = true from by first | decide | rfl)) ?_
     refine W.nx (WC.condT rfl (WC.sn (WC.seq (WC.block (WC.sr ?_)))))
     refine W.r (.loadAll ag51 (by rfl) rfl f13) ?_
     refine W.run 1 rfl ?_
     refine W.cl go63 rfl rfl (roff0_ok s 0 w1_26) ?_
     rintro _ w12_2 ⟨rfl, h12_2⟩
     have L14 := L12.trans h12_2
     refine W.run 5 rfl (W.nx (WC.sr (W.run 2 rfl ?_)))
     refine W.a (.field0 fa43_3 rfl) ?_
     refine W.a (.idxA (0) underlying41 sz40 rfl rfl (rfl) (by omega)) ?_
     refine W.a (.field2 fa40_3 rfl) ?_
     have f15 := (f3.le (h1_1.trans (h1_6.trans (h1_13.trans (h1_20.trans (h1_26.trans h12_2))))))
     refine W.r (.loadB (v := .int .i64 (16)) na3 rfl f15 rfl) ?_
     refine W.a (.dec (.gtr rfl rfl) (show _ = false from by first | decide | rfl)) ?_
     refine W.run 3 rfl ?_
     refine W.g (Any.rd (.field0 fa43_3 rfl) _) ?_
     refine W.g (Any.rd (.idxA (0) underlying41 sz40 rfl rfl (rfl) (by omega)) _) ?_
     refine W.g (Any.rd (.field2 fa40_5 rfl) _) ?_
     refine W.g (.loadB (v := .int .i64 (1125899906842624)) na3 rfl f15 rfl) ?_
     refine W.g (Any.rd (.dec (.gtr rfl rfl) (show _ = false from by first | decide | rfl)) _) ?_
     refine W.run 1 rfl (W.nx (WC.condF rfl (WC.skip (E.blkN (E.thenN (WC.region (W.run 1 rfl ?_)))))))
     refine W.a (.as (.add rfl rfl (by decide)) rfl) ?_
     refine W.run 1 rfl (W.nil ?_)
     refine E.round ?_
     refine RCn.step ?_
     refine WC.seq (WC.sr (W.run 1 rfl ?_))
     refine W.a (.dec (.lss rfl rfl) (show _ = true from by first | decide | rfl)) ?_
     refine W.nx (WC.condT rfl (WC.sn (WC.seq (WC.block (WC.sr ?_)))))
     have f16 := (f13.le h12_2)
     refine W.r (.loadAll ag51 (by rfl) rfl f16) ?_
     refine W.run 1 rfl ?_
     refine W.cl go63 rfl rfl (roff0_ok s 1 w12_2) ?_
     rintro _ w12_2_1 ⟨rfl, h12_2_1⟩
     have L17 := L14.trans h12_2_1
     refine W.run 5 rfl (W.nx (WC.sr (W.run 2 rfl ?_)))
     refine W.a (.field0 fa43_3 rfl) ?_
     refine W.a (.idxA (1) underlying41 sz40 rfl rfl (rfl) (by omega)) ?_
     refine W.a (.field2 fa40_3 rfl) ?_
     have f18 := (f15.le h12_2_1)
     refine W.r (.loadB (v := .int .i64 (16)) na3 rfl f18 rfl) ?_
     refine W.a (.dec (.gtr rfl rfl) (show _ = false from by first | decide | rfl)) ?_
     refine W.run 3 rfl ?_
     refine W.g (Any.rd (.field0 fa43_3 rfl) _) ?_
     refine W.g (Any.rd (.idxA (1) underlying41 sz40 rfl rfl (rfl) (by omega)) _) ?_
     refine W.g (Any.rd (.field2 fa40_5 rfl) _) ?_
     refine W.g (.loadB (v := .int .i64 (1125899906842624)) na3 rfl f18 rfl) ?_
     refine W.g (Any.rd (.dec (.gtr rfl rfl) (show _ = false from by first | decide | rfl)) _) ?_
     refine W.run 1 rfl (W.nx (WC.condF rfl (WC.skip (E.blkN (E.thenN (WC.region (W.run 1 rfl ?_)))))))
     refine W.a (.as (.add rfl rfl (by decide)) rfl) ?_
     refine W.run 1 rfl (W.nil ?_)
     refine E.round ?_
     refine RCn.step ?_
     refine WC.seq (WC.sr (W.run 1 rfl ?_))
     refine W.a (.dec (.lss rfl rfl) (show _ = false from by first | decide | rfl)) ?_
     refine W.nx (WC.condF rfl (WC.exit (E.thenX (E.thenX (E.blkH (E.thenN (WC.seq ?_)))))))
     refine WC.draw [0, 2, 3, 1, 4, 5, 6, 7, 8, 9, 10, 11, 12, 13, 14, 15, 16] mixed (by kernel_rfl) ?_
     intro w15 d15
     have L19 := L17.trans d15
     have f20 := (f16.le (h12_2_1.trans d15))
     refine G.r rfl (.loadAll ag51 (by rfl) rfl f20) ?_
     refine G.a rfl (.field0 fa43_1 rfl) ?_
     have f21 := (f18.le d15)
     refine G.r rfl (.loadB (v := .int .i64 (ch.am)) na3 rfl f21 rfl) ?_
     refine G.ef rfl rfl rfl rfl rfl ?_
     refine Ef.call go64 rfl rfl (rtot0_ok (s := s) w15 ⟨hh0, hh1⟩) ?_
     rintro _ w15_1 ⟨rfl, h15_1⟩
     refine ⟨_, rfl, ?_⟩
     refine ⟨fun _ => h15_1, ?_⟩
     have L22 := L19.trans h15_1
     refine G.a rfl (.dec (.eql rfl rfl) (decide_eq_true htot)) ?_
     refine G.run 1 rfl ?_
     by_cases qc15_6 : ch.op = 0
     ·refine G.ag rfl (.field0 fa43_4 rfl) ?_
      have f23 := (f21.le h15_1)
      refine G.rg rfl (.loadB (v := .int .i64 (ch.op)) na3 rfl f23 rfl) ?_
      refine G.ag rfl (.field0 fa51_1 rfl) ?_
      refine G.ag rfl (.idxAo (0) underlying48 sz3 rfl rfl (by omega) (by omega)) ?_
      have f24 := (f20.le h15_1)
      refine G.rg rfl (.loadB (v := .int .i64 (s.h0)) na3 rfl f24 rfl) ?_
      refine G.rg rfl (.loadAll ag43 (by rfl) rfl f23) ?_
      refine G.rg rfl (.loadAll ag51 (by rfl) rfl f24) ?_
      refine G.efg rfl rfl rfl rfl rfl (rfl) rfl rfl ?_
      refine Ef.call go65 rfl rfl (rcost0_ok ch (s := s) w15_1 hrt) ?_
      rintro _ w15_13 ⟨rfl, h15_13⟩
      refine ⟨_, rfl, ?_⟩
      refine ⟨fun _ => h15_13, ?_⟩
      have L25 := L22.trans h15_13
      refine G.run 3 rfl (G.nil (E.thenN (WC.ret ?_)))
      refine E.retG1 rfl rfl ?_
      exact ⟨rB (by rw [h_0 s (by assumption)]), L25⟩
     refine G.ag rfl (.field0 fa43_4 rfl) ?_
     have f26 := (f21.le h15_1)
     refine G.rg rfl (.loadB (v := .int .i64 (ch.op)) na3 rfl f26 rfl) ?_
     refine G.ag rfl (.field0 fa51_1 rfl) ?_
     refine G.ag rfl (.idxAo (1) underlying48 sz3 rfl rfl (by omega) (by omega)) ?_
     have f27 := (f20.le h15_1)
     refine G.rg rfl (.loadB (v := .int .i64 (s.h1)) na3 rfl f27 rfl) ?_
     refine G.rg rfl (.loadAll ag43 (by rfl) rfl f26) ?_
     refine G.rg rfl (.loadAll ag51 (by rfl) rfl f27) ?_
     refine G.efg rfl rfl rfl rfl rfl (rfl) rfl rfl ?_
     refine Ef.call go65 rfl rfl (rcost0_ok ch (s := s) w15_1 hrt) ?_
     rintro _ w15_13_1 ⟨rfl, h15_13_1⟩
     refine ⟨_, rfl, ?_⟩
     refine ⟨fun _ => h15_13_1, ?_⟩
     have L28 := L22.trans h15_13_1
     refine G.run 3 rfl (G.nil (E.thenN (WC.ret ?_)))
     refine E.retG1 rfl rfl ?_
     exact ⟨rB (by rw [h_1 s (by assumption)]), L28⟩
    refine W.a (.dec (.move rfl) (congrArg not ((Bool.eq_false_iff.2 q1_29)))) ?_
    refine W.run 5 rfl (W.nx (WC.condT rfl (WC.sr (W.run 1 rfl (W.nx (WC.ret (E.thenR ?_)))))))
    refine E.retG1 rfl rfl ?_
    exfalso; simp only [inB, decide_eq_true_eq] at *; omega
   refine W.a (.dec (.move rfl) (congrArg not ((Bool.eq_false_iff.2 q1_23)))) ?_
   refine W.run 11 rfl (W.nx (WC.condT rfl (WC.sr (W.run 1 rfl (W.nx (WC.ret (E.thenR ?_)))))))
   refine E.retG1 rfl rfl ?_
   exfalso; simp only [inB, decide_eq_true_eq] at *; omega
  refine W.a (.dec (.move rfl) (congrArg not ((Bool.eq_false_iff.2 q1_16)))) ?_
  refine W.run 18 rfl (W.nx (WC.condT rfl (WC.sr (W.run 1 rfl (W.nx (WC.ret (E.thenR ?_)))))))
  refine E.retG1 rfl rfl ?_
  exfalso; simp only [inB, decide_eq_true_eq] at *; omega
 refine W.a (.dec (.move rfl) (congrArg not ((Bool.eq_false_iff.2 q1_9)))) ?_
 refine W.run 25 rfl (W.nx (WC.condT rfl (WC.sr (W.run 1 rfl (W.nx (WC.ret (E.thenR ?_)))))))
 refine E.retG1 rfl rfl ?_
 exfalso; simp only [inB, decide_eq_true_eq] at *; omega
end Go.Proofs.YtgpaekbdbpkogaaGreat

namespace Go.Sx
theorem Any.rem8 {P : Program} {env : Env} {n : Nat} {d : Option Nat} {T : TypeId} {p : String} {af : Array Edge} {g : Option (Nat × Bool)} {t ty : TypeId} {x y : Operand} {a b : Int} (hx : ev env x = some (.int .u8 a)) (hy : ev env y = some (.int .u8 b)) (hb : 0 <= a /\ 1 <= b) :
    Any P env n ⟨d, .binOp .rem t x y ty, T, p, af, g⟩ (.int .u8 (a % b)) := .int hx hy fun w => by
  have : b ≠ 0 := by omega
  simp [binOp, Op.intDiv, this, IntWalk.rem_in _ b hb.1]
theorem Any.buildArrS {P : Program} {env : Env} {n : Nat} {d : Option Nat} {T : TypeId} {p : String} {af : Array Edge} {g : Option (Nat × Bool)} {t e len s : Nat} {zs : Array Value} {parts : Array (Nat × Operand)} (vs : List Value) {cs : List Value} (hu : P.underlying t = some (.array len e)) (hs : Sz P e s) (hz : Zr P t (.agg zs)) (hp : evp env parts.toList = some (enumV 0 vs))
    (h1 : ∀ v ∈ vs, v.cells.size = s) (hl1 : zs.size = len * s) (hl2 : vs.length = len) (hc : flatV vs = cs) : Any P env n ⟨d, .build t parts, T, p, af, g⟩ (.agg cs.toArray) :=
  Any.buildA hu hs hz hp (by
    subst hc
    have hfl := flatV_length s vs h1
    have hl : zs.size = (flatV vs).length := by rw [hl1, hfl, hl2]
    have hf := fill_go (fun i => some (i * s, s)) vs 0 [] zs.toList (by simpa using cont_arr s vs 0 h1) (by simp [hl])
    simpa [Value.cells, hl, List.drop_of_length_le] using hf)
end Go.Sx
namespace Go.Proofs.YtgpaekbdbpkogaaGreat
open Tryz
open Go Go.Sx Go.Hsp Go.Num Go.Osp Go.Gsp Go.Lsp Go.Shp
set_option maxRecDepth 20000
structure Ply where
  s0 : List Byte
  s1 : List Byte
  am : Nat
  ow : Nat
  ra : Nat
  op : Nat
  oa : Option Addr
  on : Nat
  oc : Nat
  no : Nat
  per : List Byte
def plyV (p : Ply) : List Value := h32V p.s0 ++ h32V p.s1 ++ [.int .u32 ((p.am : Nat) : Int), .int .u32 ((p.ow : Nat) : Int), .int .u8 ((p.ra : Nat) : Int), .int .u8 ((p.op : Nat) : Int), .slice p.oa p.on p.oc, .int .u16 ((p.no : Nat) : Int)] ++ h32V p.per
structure PlyOk (p : Ply) : Prop where
  s0 : p.s0.length = 32
  s1 : p.s1.length = 32
  am : p.am < 4294967296
  ow : p.ow < 4294967296
  ra : p.ra < 256
  op : p.op < 256
  no : p.no < 65536
def chB (p : Ply) : Chn := ⟨20000 + ((p.am : Nat) : Int), ((p.op : Nat) : Int) % 2, base (kitB p.s0).f, base (kitB p.s0).p, base (kitB p.s0).l, base (kitB p.s0).c, base (kitB p.s0).r, base (kitB p.s1).f, base (kitB p.s1).p, base (kitB p.s1).l, base (kitB p.s1).c, base (kitB p.s1).r⟩
def owB (p : Ply) : Int := ((p.ow : Nat) : Int) % ((20000 + ((p.am : Nat) : Int)) + 1)
theorem owB_le (p : Ply) : 0 <= owB p /\ owB p <= 20000 + ((p.am : Nat) : Int) := by
  unfold owB
  have h1 := Int.emod_nonneg ((p.ow : Nat) : Int) (show (20000 + ((p.am : Nat) : Int)) + 1 ≠ 0 by omega)
  have h2 := Int.emod_lt_of_pos ((p.ow : Nat) : Int) (show 0 < (20000 + ((p.am : Nat) : Int)) + 1 by omega)
  omega
def sta1 (p : Ply) : Sta := ⟨((p.no : Nat) : Int), owB p, (20000 + ((p.am : Nat) : Int)) - owB p, [], ((p.ra : Nat) : Int) % 8⟩
def staB (p : Ply) : Sta := if costN (sta1 p).rt 0 <= (sta1 p).h (chB p).op then sta1 p else if ((p.op : Nat) : Int) % 2 = 0 then ⟨((p.no : Nat) : Int), 20000 + ((p.am : Nat) : Int), 0, [], ((p.ra : Nat) : Int) % 8⟩ else ⟨((p.no : Nat) : Int), 0, 20000 + ((p.am : Nat) : Int), [], ((p.ra : Nat) : Int) % 8⟩
theorem chB_ok {p : Ply} (h : PlyOk p) : ChnOk (chB p) := by
  have h1 := h.am
  have hb : ∀ s : List Byte, PtOk (base (kitB s).f) /\ PtOk (base (kitB s).p) /\ PtOk (base (kitB s).l) /\ PtOk (base (kitB s).c) /\ PtOk (base (kitB s).r) := fun s => ⟨ptOk_base (fromB_ne _), ptOk_base (fromB_ne _), ptOk_base (fromB_ne _), ptOk_base (fromB_ne _), ptOk_base (fromB_ne _)⟩
  refine ⟨by unfold chB; dsimp only; omega, by unfold chB; dsimp only; omega, ?_⟩
  obtain ⟨a1, a2, a3, a4, a5⟩ := hb p.s0
  obtain ⟨b1, b2, b3, b4, b5⟩ := hb p.s1
  exact ⟨a1, a2, a3, a4, a5, b1, b2, b3, b4, b5⟩
theorem sta1_0 {p : Ply} (h : PlyOk p) : Sta0 (chB p).am (sta1 p) := by
  have h1 := h.am
  have h2 := h.no
  have := owB_le p
  unfold Sta0 sta1 chB
  dsimp only
  omega
theorem sta_right {am op : Int} {s : Sta} (h : Sta0 am s) (ha : am <= 1125899906842624) (hc : costN s.rt 0 <= s.h op) (hn : s.cs = []) : RightS am op s := by
  have h5 := h.2.2.2.2
  refine { no_ := h.1, h0_ := h.2.1, h1_ := h.2.2.1, rt_ := h.2.2.2.1, len := ?_, fine := ?_, ord := ?_, tot := ?_, top := ha, pays := ?_ }
  · rw [hn]; decide
  · rw [hn]; intro c hc; cases hc
  · rw [hn]; exact .nil
  · rw [hn]; simp only [sumC, List.map_nil, List.sum_nil]; omega
  · rw [hn]; exact hc
theorem staB_right {p : Ply} (h : PlyOk p) : RightS (chB p).am (chB p).op (staB p) := by
  have h0 := sta1_0 h
  have h1 := h.am
  have h2 := h.no
  have hr : costN (((p.ra : Nat) : Int) % 8) 0 <= 1136 := by
    unfold costN
    have h3 : ((p.ra : Nat) : Int) % 8 <= 7 := by omega
    have h4 := Int.mul_le_mul_of_nonneg_right h3 (show (0 : Int) <= 68 + 8 * ((0 : Nat) : Int) by decide)
    have h5 : (7 : Int) * (68 + 8 * ((0 : Nat) : Int)) = 476 := by decide
    omega
  have ha : (chB p).am <= 1125899906842624 := by unfold chB; dsimp only; omega
  unfold staB
  by_cases c : costN (sta1 p).rt 0 <= (sta1 p).h (chB p).op
  · rw [if_pos c]; exact sta_right h0 ha c rfl
  · rw [if_neg c]
    by_cases e : ((p.op : Nat) : Int) % 2 = 0
    · rw [if_pos e]
      refine sta_right ?_ ha ?_ rfl
      · unfold Sta0 chB; dsimp only; omega
      · have : (chB p).op = 0 := by show ((p.op : Nat) : Int) % 2 = 0; omega
        rw [this]; show costN (((p.ra : Nat) : Int) % 8) 0 <= 20000 + ((p.am : Nat) : Int); omega
    · rw [if_neg e]
      refine sta_right ?_ ha ?_ rfl
      · unfold Sta0 chB; dsimp only; omega
      · have : (chB p).op = 1 := by show ((p.op : Nat) : Int) % 2 = 1; omega
        rw [this]; show costN (((p.ra : Nat) : Int) % 8) 0 <= 20000 + ((p.am : Nat) : Int); omega
theorem staB_cs (p : Ply) : (staB p).cs = [] := by unfold staB sta1; split <;> (try split) <;> rfl
set_option maxHeartbeats 4000000 in
theorem made_ok (p : Ply) (w : World) (hp : PlyOk p /\ p.oa = none /\ p.on = 0 /\ p.oc = 0) : Calls prog 5 #[.agg (plyV p).toArray] w fun r w' => r = .returned (.tuple #[.agg (chnV (chB p)).toArray, .agg (kit2V (kitB p.s0, kitB p.s1)).toArray, .agg #[.int .i64 (staB p).no, .int .i64 (staB p).h0, .int .i64 (staB p).h1, .slice none 0 0, .int .i64 (staB p).rt]]) /\ Le w w' := by
 obtain ⟨hp, hp1, hp2, hp3⟩ := hp
 have hch := chB_ok hp; have hs0 := sta1_0 hp; have ha1 := hp.am; have ha2 := hp.ow; have ha3 := hp.ra; have ha4 := hp.op; have ha5 := hp.no; have hm := owB_le p; unfold owB at hm
 refine enter func5 rfl rfl ?_
 have L0 := Le.refl w
 refine WC.sr (W.ef rfl rfl rfl ?_)
 refine Ef.boxA rfl ?_
 intro g0_0 w0_0 hg0_0 b0_0 h0_0
 have L1 := L0.trans h0_0
 have b0_0 : Blk w0_0 g0_0 29 (plyV p).toArray := b0_0
 refine W.ef rfl rfl rfl ?_
 refine Ef.allocA z43 ?_
 intro g0_1 w0_1 hg0_1 b0_1 h0_1
 have L2 := L1.trans h0_1
 have b0_1 : Blk w0_1 g0_1 43 #[.int .u8 (0), .int .u8 (0), .int .u8 (0), .int .u8 (0), .int .u8 (0), .int .u8 (0), .int .u8 (0), .int .u8 (0), .int .u8 (0), .int .u8 (0), .int .u8 (0), .int .u8 (0), .int .u8 (0), .int .u8 (0), .int .u8 (0), .int .u8 (0), .int .u8 (0), .int .u8 (0), .int .u8 (0), .int .u8 (0), .int .u8 (0), .int .u8 (0), .int .u8 (0), .int .u8 (0), .int .u8 (0), .int .u8 (0), .int .u8 (0), .int .u8 (0), .int .u8 (0), .int .u8 (0), .int .u8 (0), .int .u8 (0), .int .i64 (0), .int .i64 (0), .int .u64 (((noBas.f : Nat) : Int)), .int .u64 (((noBas.p : Nat) : Int)), .int .u64 (((noBas.l : Nat) : Int)), .int .u64 (((noBas.c : Nat) : Int)), .int .u64 (((noBas.r : Nat) : Int)), .int .u64 (((noBas.f : Nat) : Int)), .int .u64 (((noBas.p : Nat) : Int)), .int .u64 (((noBas.l : Nat) : Int)), .int .u64 (((noBas.c : Nat) : Int)), .int .u64 (((noBas.r : Nat) : Int)), .int .i64 (0), .int .i64 (0), .int .i64 (0), .int .i64 (0), .int .i64 (0), .int .i64 (0), .int .i64 (0), .int .i64 (0), .int .i64 (0), .int .i64 (0), .int .i64 (0), .int .i64 (0), .int .i64 (0)] := b0_1
 refine W.ef rfl rfl rfl ?_
 refine Ef.allocA z47 ?_
 intro g0_2 w0_2 hg0_2 b0_2 h0_2
 have L3 := L2.trans h0_2
 have b0_2 : Blk w0_2 g0_2 47 (kit2V (noKit, noKit)).toArray := b0_2
 refine W.ef rfl rfl rfl ?_
 refine Ef.allocA z51 ?_
 intro g0_3 w0_3 hg0_3 b0_3 h0_3
 have L4 := L3.trans h0_3
 have b0_3 : Blk w0_3 g0_3 51 #[.int .i64 (0), .int .i64 (0), .int .i64 (0), .slice none 0 0, .int .i64 (0)] := b0_3
 refine W.nx (WC.seq ?_)
 refine WC.drawM [0, 1, 2, 4, 5, 6] [3, 7, 8, 9] [10] (fun i => bif Nat.beq i 8 then [3, 7] else []) mixed (by kernel_rfl) ?_
 intro w1 d1
 have L5 := L4.trans d1
 refine G.a rfl (.field0 fa29_0 rfl) ?_
 refine G.a rfl (.idxA (0) underlying24 sz23 rfl rfl (rfl) (by omega)) ?_
 have f6 := (b0_0.le (h0_1.trans (h0_2.trans (h0_3.trans d1))))
 refine G.r rfl (.bpart (h32V p.s0) ag23 rfl (by decide) rfl f6 rfl) ?_
 refine G.a rfl (.field0 fa29_0 rfl) ?_
 refine G.a rfl (.idxA (1) underlying24 sz23 rfl rfl (rfl) (by omega)) ?_
 refine G.r rfl (.bpart (h32V p.s1) ag23 rfl (by decide) rfl f6 rfl) ?_
 refine G.nil ?_
 refine E.free3 ⟨by rfl, fun iU => (bif Nat.beq iU 3 then (fun v w' => v = .agg (kitV (kitB p.s0)).toArray) else (bif Nat.beq iU 7 then (fun v w' => v = .agg (kitV (kitB p.s1)).toArray) else (bif Nat.beq iU 8 then (fun v w' => v = .agg (kit2V (kitB p.s0, kitB p.s1)).toArray) else (bif Nat.beq iU 9 then (fun v w' => ∃ g1_9, v = .pointer (some ⟨g1_9, 0, none⟩) /\ Blk w' g1_9 47 (kit2V (noKit, noKit)).toArray) else (fun _ _ => True))))), ?_, ?_, ?_⟩
 ·intro iU hi v w1 w2 hv hle
  simp only [List.mem_cons, List.not_mem_nil, or_false] at hi
  rcases hi with rfl | rfl | rfl | rfl
  ·exact hv
  ·exact hv
  ·exact hv
  obtain ⟨g1_9, hvv, k1_9_0⟩ := hv; exact ⟨g1_9, hvv, k1_9_0.le hle⟩
 ·intro iU hi
  simp only [List.mem_cons, List.not_mem_nil, or_false] at hi
  rcases hi with rfl | rfl | rfl | rfl
  ·refine .inl ⟨rfl, Step.of0 rfl rfl ?_⟩
   intro w1 hle
   refine Ef.call go29 rfl rfl (rkit_ok p.s0 hp.s0 w1) ?_
   rintro _ w2 ⟨rfl, h2⟩
   refine ⟨_, rfl, ?_⟩
   exact ⟨h2, rfl, fun k hk => hk.elim⟩
  ·refine .inl ⟨rfl, Step.of0 rfl rfl ?_⟩
   intro w1 hle
   refine Ef.call go29 rfl rfl (rkit_ok p.s1 hp.s1 w1) ?_
   rintro _ w2 ⟨rfl, h2⟩
   refine ⟨_, rfl, ?_⟩
   exact ⟨h2, rfl, fun k hk => hk.elim⟩
  ·refine Step3.pure2 (j := 3) (k := 7) rfl rfl rfl rfl rfl ?_
   intro v3 v7 w1 hle hv3 hv7
   have hv3 : v3 = .agg (kitV (kitB p.s0)).toArray := hv3
   subst hv3
   have hv7 : v7 = .agg (kitV (kitB p.s1)).toArray := hv7
   subst hv7
   exact ⟨.agg (kit2V (kitB p.s0, kitB p.s1)).toArray, .buildArrS [.agg (kitV (kitB p.s0)).toArray, .agg (kitV (kitB p.s1)).toArray] underlying47 sz46 z47 rfl (fun v hv => by simp at hv; rcases hv with rfl | rfl <;> simp [Value.cells, kitV_row.len]) rfl rfl (show _ = kit2V (kitB p.s0, kitB p.s1) by simp [flatV, kit2V, Value.cells]), rfl, fun k hk => hk.elim⟩
  refine .inl ⟨rfl, Step.of0 rfl rfl ?_⟩
  intro w1 hle
  refine Ef.allocA z47 ?_
  intro g1_9 w2 hg b1_9 h2
  exact ⟨h2, ⟨_, rfl, b1_9⟩, fun k hk => (show g1_9 = k from hk) ▸ ⟨hg, b1_9.lt⟩⟩
 intro f_1 W_1 h_1 hphi_1 hfeet_1 hap_1
 have e3_1 : f_1 3 = .agg (kitV (kitB p.s0)).toArray := hphi_1 3 (by decide)
 have e7_1 : f_1 7 = .agg (kitV (kitB p.s1)).toArray := hphi_1 7 (by decide)
 have e8_1 : f_1 8 = .agg (kit2V (kitB p.s0, kitB p.s1)).toArray := hphi_1 8 (by decide)
 obtain ⟨g1_9, e9_1, k1_9_0⟩ := hphi_1 9 (by decide)
 have hgzg1_9 : w1.heap.size <= g1_9 := (hfeet_1 9 (by decide) g1_9 (by rw [e9_1]; rfl)).1
 show G _ _ _ _ _ ((18, f_1 3) :: (22, f_1 7) :: (23, f_1 8) :: (5, f_1 9) :: _) _
 rw [e3_1, e7_1, e8_1, e9_1]
 have L14 := L5.trans h_1
 refine G.ef0 rfl rfl rfl rfl ?_
 refine Ef.storeAll sz47 (by rfl) rfl rfl k1_9_0 (by simp only [List.size_toArray, kit2V_row.len]) (kit2V_row.one (kitB p.s0, kitB p.s1)) ?_
 intro w1_10 b1_10 h1_10
 refine noT (by kernel_rfl) ?_
 have b1_10 : Blk w1_10 g1_9 47 (kit2V (kitB p.s0, kitB p.s1)).toArray := b1_10
 have L15 := L14.tb h1_10 L5 hgzg1_9
 refine G.nil (E.thenN (WC.sr ?_))
 refine W.a (.field0 fa29_1 rfl) ?_
 have f16 := ((f6.le h_1).ch h1_10 (fun h => (show g1_9 ≠ g0_0 from by have := f6.lt; omega) (oI h)))
 refine W.r (.loadB (v := .int .u32 (((p.am : Nat) : Int))) na25 rfl f16 rfl) ?_
 refine W.r (.idI (isS underlying25) underlying3 rfl (IntWalk.i64_in _ (by omega))) ?_
 refine W.a (.add rfl rfl (by omega)) ?_
 refine W.a (.field0 fa29_4 rfl) ?_
 refine W.r (.loadB (v := .int .u8 (((p.op : Nat) : Int))) na5 rfl f16 rfl) ?_
 refine W.a (.rem8 rfl rfl (by omega)) ?_
 refine W.r (.idI (isS underlying5) underlying3 rfl (IntWalk.i64_in _ (by omega))) ?_
 refine W.a (.buildP [.int .u8 (0), .int .u8 (0), .int .u8 (0), .int .u8 (0), .int .u8 (0), .int .u8 (0), .int .u8 (0), .int .u8 (0), .int .u8 (0), .int .u8 (0), .int .u8 (0), .int .u8 (0), .int .u8 (0), .int .u8 (0), .int .u8 (0), .int .u8 (0), .int .u8 (0), .int .u8 (0), .int .u8 (0), .int .u8 (0), .int .u8 (0), .int .u8 (0), .int .u8 (0), .int .u8 (0), .int .u8 (0), .int .u8 (0), .int .u8 (0), .int .u8 (0), .int .u8 (0), .int .u8 (0), .int .u8 (0), .int .u8 (0), .int .i64 (0), .int .i64 ((20000 + ((p.am : Nat) : Int))), .int .u64 (((noBas.f : Nat) : Int)), .int .u64 (((noBas.p : Nat) : Int)), .int .u64 (((noBas.l : Nat) : Int)), .int .u64 (((noBas.c : Nat) : Int)), .int .u64 (((noBas.r : Nat) : Int)), .int .u64 (((noBas.f : Nat) : Int)), .int .u64 (((noBas.p : Nat) : Int)), .int .u64 (((noBas.l : Nat) : Int)), .int .u64 (((noBas.c : Nat) : Int)), .int .u64 (((noBas.r : Nat) : Int)), .int .i64 (0), .int .i64 (0), .int .i64 (0), .int .i64 (0), .int .i64 (0), .int .i64 (0), .int .i64 (0), .int .i64 (0), .int .i64 (0), .int .i64 (0), .int .i64 (0), .int .i64 (0), .int .i64 ((((p.op : Nat) : Int) % 2))] pl43 z43 rfl rfl) ?_
 refine W.ef rfl rfl rfl ?_
 refine Ef.allocA z43 ?_
 intro g2_9 w2_9 hg2_9 b2_9 h2_9
 have L17 := L15.trans h2_9
 have b2_9 : Blk w2_9 g2_9 43 #[.int .u8 (0), .int .u8 (0), .int .u8 (0), .int .u8 (0), .int .u8 (0), .int .u8 (0), .int .u8 (0), .int .u8 (0), .int .u8 (0), .int .u8 (0), .int .u8 (0), .int .u8 (0), .int .u8 (0), .int .u8 (0), .int .u8 (0), .int .u8 (0), .int .u8 (0), .int .u8 (0), .int .u8 (0), .int .u8 (0), .int .u8 (0), .int .u8 (0), .int .u8 (0), .int .u8 (0), .int .u8 (0), .int .u8 (0), .int .u8 (0), .int .u8 (0), .int .u8 (0), .int .u8 (0), .int .u8 (0), .int .u8 (0), .int .i64 (0), .int .i64 (0), .int .u64 (((noBas.f : Nat) : Int)), .int .u64 (((noBas.p : Nat) : Int)), .int .u64 (((noBas.l : Nat) : Int)), .int .u64 (((noBas.c : Nat) : Int)), .int .u64 (((noBas.r : Nat) : Int)), .int .u64 (((noBas.f : Nat) : Int)), .int .u64 (((noBas.p : Nat) : Int)), .int .u64 (((noBas.l : Nat) : Int)), .int .u64 (((noBas.c : Nat) : Int)), .int .u64 (((noBas.r : Nat) : Int)), .int .i64 (0), .int .i64 (0), .int .i64 (0), .int .i64 (0), .int .i64 (0), .int .i64 (0), .int .i64 (0), .int .i64 (0), .int .i64 (0), .int .i64 (0), .int .i64 (0), .int .i64 (0), .int .i64 (0)] := b2_9
 refine W.sA sz43 rfl rfl b2_9 ?_
 intro w2_10 b2_10 h2_10
 have b2_10 : Blk w2_10 g2_9 43 #[.int .u8 (0), .int .u8 (0), .int .u8 (0), .int .u8 (0), .int .u8 (0), .int .u8 (0), .int .u8 (0), .int .u8 (0), .int .u8 (0), .int .u8 (0), .int .u8 (0), .int .u8 (0), .int .u8 (0), .int .u8 (0), .int .u8 (0), .int .u8 (0), .int .u8 (0), .int .u8 (0), .int .u8 (0), .int .u8 (0), .int .u8 (0), .int .u8 (0), .int .u8 (0), .int .u8 (0), .int .u8 (0), .int .u8 (0), .int .u8 (0), .int .u8 (0), .int .u8 (0), .int .u8 (0), .int .u8 (0), .int .u8 (0), .int .i64 (0), .int .i64 ((20000 + ((p.am : Nat) : Int))), .int .u64 (((noBas.f : Nat) : Int)), .int .u64 (((noBas.p : Nat) : Int)), .int .u64 (((noBas.l : Nat) : Int)), .int .u64 (((noBas.c : Nat) : Int)), .int .u64 (((noBas.r : Nat) : Int)), .int .u64 (((noBas.f : Nat) : Int)), .int .u64 (((noBas.p : Nat) : Int)), .int .u64 (((noBas.l : Nat) : Int)), .int .u64 (((noBas.c : Nat) : Int)), .int .u64 (((noBas.r : Nat) : Int)), .int .i64 (0), .int .i64 (0), .int .i64 (0), .int .i64 (0), .int .i64 (0), .int .i64 (0), .int .i64 (0), .int .i64 (0), .int .i64 (0), .int .i64 (0), .int .i64 (0), .int .i64 (0), .int .i64 ((((p.op : Nat) : Int) % 2))] := b2_10
 have L18 := L17.tb h2_10 L15 hg2_9
 refine W.nx (WC.seq (WC.sr (W.run 1 rfl (W.nx (WC.block ?_)))))
 refine WC.rounds 3 ?_
 refine RCn.step ?_
 refine WC.seq (WC.sr (W.run 1 rfl ?_))
 refine W.a (.dec (.lss rfl rfl) (show _ = true from by first | decide | rfl)) ?_
 refine W.nx (WC.condT rfl (WC.sn (WC.seq (WC.block (WC.sr (W.run 2 rfl ?_))))))
 refine W.a (.idxA (0) underlying47 sz46 rfl rfl (rfl) (by omega)) ?_
 have f19 := ((b1_10.le h2_9).ch h2_10 (fun h => (show g2_9 ≠ g1_9 from by have := b1_10.lt; omega) (oI h)))
 refine W.r (.bpart (kitV ((kitB p.s0, kitB p.s1).1)) ag46 rfl (by decide) rfl f19 rfl) ?_
 refine W.cl go30 rfl rfl (rbasics_ok ((kitB p.s0, kitB p.s1).1) w2_10) ?_
 rintro _ w6_4 ⟨rfl, h6_4⟩
 have L20 := L18.trans h6_4
 refine W.a (.field0 fa43_2 rfl) ?_
 refine W.a (.idxA (0) underlying38 sz37 rfl rfl (rfl) (by omega)) ?_
 have f21 := (b2_10.le h6_4)
 refine W.ef0 rfl rfl ?_
 refine Ef.storePart [.int .u8 (0), .int .u8 (0), .int .u8 (0), .int .u8 (0), .int .u8 (0), .int .u8 (0), .int .u8 (0), .int .u8 (0), .int .u8 (0), .int .u8 (0), .int .u8 (0), .int .u8 (0), .int .u8 (0), .int .u8 (0), .int .u8 (0), .int .u8 (0), .int .u8 (0), .int .u8 (0), .int .u8 (0), .int .u8 (0), .int .u8 (0), .int .u8 (0), .int .u8 (0), .int .u8 (0), .int .u8 (0), .int .u8 (0), .int .u8 (0), .int .u8 (0), .int .u8 (0), .int .u8 (0), .int .u8 (0), .int .u8 (0), .int .i64 (0), .int .i64 ((20000 + ((p.am : Nat) : Int))), .int .u64 ((((basB ((kitB p.s0, kitB p.s1).1)).f : Nat) : Int)), .int .u64 ((((basB ((kitB p.s0, kitB p.s1).1)).p : Nat) : Int)), .int .u64 ((((basB ((kitB p.s0, kitB p.s1).1)).l : Nat) : Int)), .int .u64 ((((basB ((kitB p.s0, kitB p.s1).1)).c : Nat) : Int)), .int .u64 ((((basB ((kitB p.s0, kitB p.s1).1)).r : Nat) : Int)), .int .u64 (((noBas.f : Nat) : Int)), .int .u64 (((noBas.p : Nat) : Int)), .int .u64 (((noBas.l : Nat) : Int)), .int .u64 (((noBas.c : Nat) : Int)), .int .u64 (((noBas.r : Nat) : Int)), .int .i64 (0), .int .i64 (0), .int .i64 (0), .int .i64 (0), .int .i64 (0), .int .i64 (0), .int .i64 (0), .int .i64 (0), .int .i64 (0), .int .i64 (0), .int .i64 (0), .int .i64 (0), .int .i64 ((((p.op : Nat) : Int) % 2))] sz37 (by rfl) rfl rfl f21 (by show 34 + 5 <= 57; decide) (basV_row.one (basB ((kitB p.s0, kitB p.s1).1))) rfl ?_
 intro w6_7 b6_7 h6_7
 have b6_7 : Blk w6_7 g2_9 43 #[.int .u8 (0), .int .u8 (0), .int .u8 (0), .int .u8 (0), .int .u8 (0), .int .u8 (0), .int .u8 (0), .int .u8 (0), .int .u8 (0), .int .u8 (0), .int .u8 (0), .int .u8 (0), .int .u8 (0), .int .u8 (0), .int .u8 (0), .int .u8 (0), .int .u8 (0), .int .u8 (0), .int .u8 (0), .int .u8 (0), .int .u8 (0), .int .u8 (0), .int .u8 (0), .int .u8 (0), .int .u8 (0), .int .u8 (0), .int .u8 (0), .int .u8 (0), .int .u8 (0), .int .u8 (0), .int .u8 (0), .int .u8 (0), .int .i64 (0), .int .i64 ((20000 + ((p.am : Nat) : Int))), .int .u64 ((((basB ((kitB p.s0, kitB p.s1).1)).f : Nat) : Int)), .int .u64 ((((basB ((kitB p.s0, kitB p.s1).1)).p : Nat) : Int)), .int .u64 ((((basB ((kitB p.s0, kitB p.s1).1)).l : Nat) : Int)), .int .u64 ((((basB ((kitB p.s0, kitB p.s1).1)).c : Nat) : Int)), .int .u64 ((((basB ((kitB p.s0, kitB p.s1).1)).r : Nat) : Int)), .int .u64 (((noBas.f : Nat) : Int)), .int .u64 (((noBas.p : Nat) : Int)), .int .u64 (((noBas.l : Nat) : Int)), .int .u64 (((noBas.c : Nat) : Int)), .int .u64 (((noBas.r : Nat) : Int)), .int .i64 (0), .int .i64 (0), .int .i64 (0), .int .i64 (0), .int .i64 (0), .int .i64 (0), .int .i64 (0), .int .i64 (0), .int .i64 (0), .int .i64 (0), .int .i64 (0), .int .i64 (0), .int .i64 ((((p.op : Nat) : Int) % 2))] := b6_7
 have L22 := L20.tb h6_7 L15 hg2_9
 refine W.nx (WC.region (W.run 2 rfl ?_))
 refine W.a (.as (.add rfl rfl (by decide)) rfl) ?_
 refine W.a (.buildP [.int .i64 (100), .int .i64 (200), .int .i64 (5), .int .i64 (16), .int .i64 (1), .int .i64 (1125899906842624)] pl40 z40 rfl rfl) ?_
 refine W.a (.field0 fa43_3 rfl) ?_
 refine W.a (.idxA (0) underlying41 sz40 rfl rfl (rfl) (by omega)) ?_
 refine W.ef0 rfl rfl ?_
 refine Ef.storePart [.int .u8 (0), .int .u8 (0), .int .u8 (0), .int .u8 (0), .int .u8 (0), .int .u8 (0), .int .u8 (0), .int .u8 (0), .int .u8 (0), .int .u8 (0), .int .u8 (0), .int .u8 (0), .int .u8 (0), .int .u8 (0), .int .u8 (0), .int .u8 (0), .int .u8 (0), .int .u8 (0), .int .u8 (0), .int .u8 (0), .int .u8 (0), .int .u8 (0), .int .u8 (0), .int .u8 (0), .int .u8 (0), .int .u8 (0), .int .u8 (0), .int .u8 (0), .int .u8 (0), .int .u8 (0), .int .u8 (0), .int .u8 (0), .int .i64 (0), .int .i64 ((20000 + ((p.am : Nat) : Int))), .int .u64 ((((basB ((kitB p.s0, kitB p.s1).1)).f : Nat) : Int)), .int .u64 ((((basB ((kitB p.s0, kitB p.s1).1)).p : Nat) : Int)), .int .u64 ((((basB ((kitB p.s0, kitB p.s1).1)).l : Nat) : Int)), .int .u64 ((((basB ((kitB p.s0, kitB p.s1).1)).c : Nat) : Int)), .int .u64 ((((basB ((kitB p.s0, kitB p.s1).1)).r : Nat) : Int)), .int .u64 (((noBas.f : Nat) : Int)), .int .u64 (((noBas.p : Nat) : Int)), .int .u64 (((noBas.l : Nat) : Int)), .int .u64 (((noBas.c : Nat) : Int)), .int .u64 (((noBas.r : Nat) : Int)), .int .i64 (100), .int .i64 (200), .int .i64 (5), .int .i64 (16), .int .i64 (1), .int .i64 (1125899906842624), .int .i64 (0), .int .i64 (0), .int .i64 (0), .int .i64 (0), .int .i64 (0), .int .i64 (0), .int .i64 ((((p.op : Nat) : Int) % 2))] sz40 (by rfl) rfl rfl b6_7 (by show 44 + 6 <= 57; decide) (by simp [Value.oneCell']) rfl ?_
 intro w7_6 b7_6 h7_6
 have b7_6 : Blk w7_6 g2_9 43 #[.int .u8 (0), .int .u8 (0), .int .u8 (0), .int .u8 (0), .int .u8 (0), .int .u8 (0), .int .u8 (0), .int .u8 (0), .int .u8 (0), .int .u8 (0), .int .u8 (0), .int .u8 (0), .int .u8 (0), .int .u8 (0), .int .u8 (0), .int .u8 (0), .int .u8 (0), .int .u8 (0), .int .u8 (0), .int .u8 (0), .int .u8 (0), .int .u8 (0), .int .u8 (0), .int .u8 (0), .int .u8 (0), .int .u8 (0), .int .u8 (0), .int .u8 (0), .int .u8 (0), .int .u8 (0), .int .u8 (0), .int .u8 (0), .int .i64 (0), .int .i64 ((20000 + ((p.am : Nat) : Int))), .int .u64 ((((basB ((kitB p.s0, kitB p.s1).1)).f : Nat) : Int)), .int .u64 ((((basB ((kitB p.s0, kitB p.s1).1)).p : Nat) : Int)), .int .u64 ((((basB ((kitB p.s0, kitB p.s1).1)).l : Nat) : Int)), .int .u64 ((((basB ((kitB p.s0, kitB p.s1).1)).c : Nat) : Int)), .int .u64 ((((basB ((kitB p.s0, kitB p.s1).1)).r : Nat) : Int)), .int .u64 (((noBas.f : Nat) : Int)), .int .u64 (((noBas.p : Nat) : Int)), .int .u64 (((noBas.l : Nat) : Int)), .int .u64 (((noBas.c : Nat) : Int)), .int .u64 (((noBas.r : Nat) : Int)), .int .i64 (100), .int .i64 (200), .int .i64 (5), .int .i64 (16), .int .i64 (1), .int .i64 (1125899906842624), .int .i64 (0), .int .i64 (0), .int .i64 (0), .int .i64 (0), .int .i64 (0), .int .i64 (0), .int .i64 ((((p.op : Nat) : Int) % 2))] := b7_6
 have L23 := L22.tb h7_6 L15 hg2_9
 refine W.nil (E.blkN (E.thenN (WC.region (W.run 1 rfl ?_))))
 refine W.a (.as (.add rfl rfl (by decide)) rfl) ?_
 refine W.run 1 rfl (W.nil ?_)
 refine E.round ?_
 refine RCn.step ?_
 refine WC.seq (WC.sr (W.run 1 rfl ?_))
 refine W.a (.dec (.lss rfl rfl) (show _ = true from by first | decide | rfl)) ?_
 refine W.nx (WC.condT rfl (WC.sn (WC.seq (WC.block (WC.sr (W.run 2 rfl ?_))))))
 refine W.a (.idxA (1) underlying47 sz46 rfl rfl (rfl) (by omega)) ?_
 have f24 := (((f19.le h6_4).ch h6_7 (fun h => (show g2_9 ≠ g1_9 from by have := b1_10.lt; omega) (oI h))).ch h7_6 (fun h => (show g2_9 ≠ g1_9 from by have := b1_10.lt; omega) (oI h)))
 refine W.r (.bpart (kitV ((kitB p.s0, kitB p.s1).2)) ag46 rfl (by decide) rfl f24 rfl) ?_
 refine W.cl go30 rfl rfl (rbasics_ok ((kitB p.s0, kitB p.s1).2) w7_6) ?_
 rintro _ w6_4_1 ⟨rfl, h6_4_1⟩
 have L25 := L23.trans h6_4_1
 refine W.a (.field0 fa43_2 rfl) ?_
 refine W.a (.idxA (1) underlying38 sz37 rfl rfl (rfl) (by omega)) ?_
 have f26 := (b7_6.le h6_4_1)
 refine W.ef0 rfl rfl ?_
 refine Ef.storePart [.int .u8 (0), .int .u8 (0), .int .u8 (0), .int .u8 (0), .int .u8 (0), .int .u8 (0), .int .u8 (0), .int .u8 (0), .int .u8 (0), .int .u8 (0), .int .u8 (0), .int .u8 (0), .int .u8 (0), .int .u8 (0), .int .u8 (0), .int .u8 (0), .int .u8 (0), .int .u8 (0), .int .u8 (0), .int .u8 (0), .int .u8 (0), .int .u8 (0), .int .u8 (0), .int .u8 (0), .int .u8 (0), .int .u8 (0), .int .u8 (0), .int .u8 (0), .int .u8 (0), .int .u8 (0), .int .u8 (0), .int .u8 (0), .int .i64 (0), .int .i64 ((20000 + ((p.am : Nat) : Int))), .int .u64 ((((basB ((kitB p.s0, kitB p.s1).1)).f : Nat) : Int)), .int .u64 ((((basB ((kitB p.s0, kitB p.s1).1)).p : Nat) : Int)), .int .u64 ((((basB ((kitB p.s0, kitB p.s1).1)).l : Nat) : Int)), .int .u64 ((((basB ((kitB p.s0, kitB p.s1).1)).c : Nat) : Int)), .int .u64 ((((basB ((kitB p.s0, kitB p.s1).1)).r : Nat) : Int)), .int .u64 ((((basB ((kitB p.s0, kitB p.s1).2)).f : Nat) : Int)), .int .u64 ((((basB ((kitB p.s0, kitB p.s1).2)).p : Nat) : Int)), .int .u64 ((((basB ((kitB p.s0, kitB p.s1).2)).l : Nat) : Int)), .int .u64 ((((basB ((kitB p.s0, kitB p.s1).2)).c : Nat) : Int)), .int .u64 ((((basB ((kitB p.s0, kitB p.s1).2)).r : Nat) : Int)), .int .i64 (100), .int .i64 (200), .int .i64 (5), .int .i64 (16), .int .i64 (1), .int .i64 (1125899906842624), .int .i64 (0), .int .i64 (0), .int .i64 (0), .int .i64 (0), .int .i64 (0), .int .i64 (0), .int .i64 ((((p.op : Nat) : Int) % 2))] sz37 (by rfl) rfl rfl f26 (by show 39 + 5 <= 57; decide) (basV_row.one (basB ((kitB p.s0, kitB p.s1).2))) rfl ?_
 intro w6_7_1 b6_7_1 h6_7_1
 have b6_7_1 : Blk w6_7_1 g2_9 43 #[.int .u8 (0), .int .u8 (0), .int .u8 (0), .int .u8 (0), .int .u8 (0), .int .u8 (0), .int .u8 (0), .int .u8 (0), .int .u8 (0), .int .u8 (0), .int .u8 (0), .int .u8 (0), .int .u8 (0), .int .u8 (0), .int .u8 (0), .int .u8 (0), .int .u8 (0), .int .u8 (0), .int .u8 (0), .int .u8 (0), .int .u8 (0), .int .u8 (0), .int .u8 (0), .int .u8 (0), .int .u8 (0), .int .u8 (0), .int .u8 (0), .int .u8 (0), .int .u8 (0), .int .u8 (0), .int .u8 (0), .int .u8 (0), .int .i64 (0), .int .i64 ((20000 + ((p.am : Nat) : Int))), .int .u64 ((((basB ((kitB p.s0, kitB p.s1).1)).f : Nat) : Int)), .int .u64 ((((basB ((kitB p.s0, kitB p.s1).1)).p : Nat) : Int)), .int .u64 ((((basB ((kitB p.s0, kitB p.s1).1)).l : Nat) : Int)), .int .u64 ((((basB ((kitB p.s0, kitB p.s1).1)).c : Nat) : Int)), .int .u64 ((((basB ((kitB p.s0, kitB p.s1).1)).r : Nat) : Int)), .int .u64 ((((basB ((kitB p.s0, kitB p.s1).2)).f : Nat) : Int)), .int .u64 ((((basB ((kitB p.s0, kitB p.s1).2)).p : Nat) : Int)), .int .u64 ((((basB ((kitB p.s0, kitB p.s1).2)).l : Nat) : Int)), .int .u64 ((((basB ((kitB p.s0, kitB p.s1).2)).c : Nat) : Int)), .int .u64 ((((basB ((kitB p.s0, kitB p.s1).2)).r : Nat) : Int)), .int .i64 (100), .int .i64 (200), .int .i64 (5), .int .i64 (16), .int .i64 (1), .int .i64 (1125899906842624), .int .i64 (0), .int .i64 (0), .int .i64 (0), .int .i64 (0), .int .i64 (0), .int .i64 (0), .int .i64 ((((p.op : Nat) : Int) % 2))] := b6_7_1
 have L27 := L25.tb h6_7_1 L15 hg2_9
 refine W.nx (WC.region (W.run 2 rfl ?_))
 refine W.a (.as (.add rfl rfl (by decide)) rfl) ?_
 refine W.a (.buildP [.int .i64 (100), .int .i64 (200), .int .i64 (6), .int .i64 (16), .int .i64 (1), .int .i64 (1125899906842624)] pl40 z40 rfl rfl) ?_
 refine W.a (.field0 fa43_3 rfl) ?_
 refine W.a (.idxA (1) underlying41 sz40 rfl rfl (rfl) (by omega)) ?_
 refine W.ef0 rfl rfl ?_
 refine Ef.storePart [.int .u8 (0), .int .u8 (0), .int .u8 (0), .int .u8 (0), .int .u8 (0), .int .u8 (0), .int .u8 (0), .int .u8 (0), .int .u8 (0), .int .u8 (0), .int .u8 (0), .int .u8 (0), .int .u8 (0), .int .u8 (0), .int .u8 (0), .int .u8 (0), .int .u8 (0), .int .u8 (0), .int .u8 (0), .int .u8 (0), .int .u8 (0), .int .u8 (0), .int .u8 (0), .int .u8 (0), .int .u8 (0), .int .u8 (0), .int .u8 (0), .int .u8 (0), .int .u8 (0), .int .u8 (0), .int .u8 (0), .int .u8 (0), .int .i64 (0), .int .i64 ((20000 + ((p.am : Nat) : Int))), .int .u64 ((((basB ((kitB p.s0, kitB p.s1).1)).f : Nat) : Int)), .int .u64 ((((basB ((kitB p.s0, kitB p.s1).1)).p : Nat) : Int)), .int .u64 ((((basB ((kitB p.s0, kitB p.s1).1)).l : Nat) : Int)), .int .u64 ((((basB ((kitB p.s0, kitB p.s1).1)).c : Nat) : Int)), .int .u64 ((((basB ((kitB p.s0, kitB p.s1).1)).r : Nat) : Int)), .int .u64 ((((basB ((kitB p.s0, kitB p.s1).2)).f : Nat) : Int)), .int .u64 ((((basB ((kitB p.s0, kitB p.s1).2)).p : Nat) : Int)), .int .u64 ((((basB ((kitB p.s0, kitB p.s1).2)).l : Nat) : Int)), .int .u64 ((((basB ((kitB p.s0, kitB p.s1).2)).c : Nat) : Int)), .int .u64 ((((basB ((kitB p.s0, kitB p.s1).2)).r : Nat) : Int)), .int .i64 (100), .int .i64 (200), .int .i64 (5), .int .i64 (16), .int .i64 (1), .int .i64 (1125899906842624), .int .i64 (100), .int .i64 (200), .int .i64 (6), .int .i64 (16), .int .i64 (1), .int .i64 (1125899906842624), .int .i64 ((((p.op : Nat) : Int) % 2))] sz40 (by rfl) rfl rfl b6_7_1 (by show 50 + 6 <= 57; decide) (by simp [Value.oneCell']) rfl ?_
 intro w7_6_1 b7_6_1 h7_6_1
 have b7_6_1 : Blk w7_6_1 g2_9 43 #[.int .u8 (0), .int .u8 (0), .int .u8 (0), .int .u8 (0), .int .u8 (0), .int .u8 (0), .int .u8 (0), .int .u8 (0), .int .u8 (0), .int .u8 (0), .int .u8 (0), .int .u8 (0), .int .u8 (0), .int .u8 (0), .int .u8 (0), .int .u8 (0), .int .u8 (0), .int .u8 (0), .int .u8 (0), .int .u8 (0), .int .u8 (0), .int .u8 (0), .int .u8 (0), .int .u8 (0), .int .u8 (0), .int .u8 (0), .int .u8 (0), .int .u8 (0), .int .u8 (0), .int .u8 (0), .int .u8 (0), .int .u8 (0), .int .i64 (0), .int .i64 ((20000 + ((p.am : Nat) : Int))), .int .u64 ((((basB ((kitB p.s0, kitB p.s1).1)).f : Nat) : Int)), .int .u64 ((((basB ((kitB p.s0, kitB p.s1).1)).p : Nat) : Int)), .int .u64 ((((basB ((kitB p.s0, kitB p.s1).1)).l : Nat) : Int)), .int .u64 ((((basB ((kitB p.s0, kitB p.s1).1)).c : Nat) : Int)), .int .u64 ((((basB ((kitB p.s0, kitB p.s1).1)).r : Nat) : Int)), .int .u64 ((((basB ((kitB p.s0, kitB p.s1).2)).f : Nat) : Int)), .int .u64 ((((basB ((kitB p.s0, kitB p.s1).2)).p : Nat) : Int)), .int .u64 ((((basB ((kitB p.s0, kitB p.s1).2)).l : Nat) : Int)), .int .u64 ((((basB ((kitB p.s0, kitB p.s1).2)).c : Nat) : Int)), .int .u64 ((((basB ((kitB p.s0, kitB p.s1).2)).r : Nat) : Int)), .int .i64 (100), .int .i64 (200), .int .i64 (5), .int .i64 (16), .int .i64 (1), .int .i64 (1125899906842624), .int .i64 (100), .int .i64 (200), .int .i64 (6), .int .i64 (16), .int .i64 (1), .int .i64 (1125899906842624), .int .i64 ((((p.op : Nat) : Int) % 2))] := b7_6_1
 have L28 := L27.tb h7_6_1 L15 hg2_9
 refine W.nil (E.blkN (E.thenN (WC.region (W.run 1 rfl ?_))))
 refine W.a (.as (.add rfl rfl (by decide)) rfl) ?_
 refine W.run 1 rfl (W.nil ?_)
 refine E.round ?_
 refine RCn.step ?_
 refine WC.seq (WC.sr (W.run 1 rfl ?_))
 refine W.a (.dec (.lss rfl rfl) (show _ = false from by first | decide | rfl)) ?_
 refine W.nx (WC.condF rfl (WC.exit (E.thenX (E.thenX (E.blkH (E.thenN (WC.sr ?_)))))))
 refine W.a (.field0 fa29_6 rfl) ?_
 have f29 := ((((((((f16.le h2_9).ch h2_10 (fun h => (show g2_9 ≠ g0_0 from by have := f16.lt; omega) (oI h))).le h6_4).ch h6_7 (fun h => (show g2_9 ≠ g0_0 from by have := f16.lt; omega) (oI h))).ch h7_6 (fun h => (show g2_9 ≠ g0_0 from by have := f16.lt; omega) (oI h))).le h6_4_1).ch h6_7_1 (fun h => (show g2_9 ≠ g0_0 from by have := f16.lt; omega) (oI h))).ch h7_6_1 (fun h => (show g2_9 ≠ g0_0 from by have := f16.lt; omega) (oI h)))
 refine W.r (.loadB (v := .int .u16 (((p.no : Nat) : Int))) na27 rfl f29 rfl) ?_
 refine W.r (.idI (isS underlying27) underlying3 rfl (IntWalk.i64_in _ (by omega))) ?_
 refine W.a (.field0 fa29_3 rfl) ?_
 refine W.r (.loadB (v := .int .u8 (((p.ra : Nat) : Int))) na5 rfl f29 rfl) ?_
 refine W.a (.rem8 rfl rfl (by omega)) ?_
 refine W.r (.idI (isS underlying5) underlying3 rfl (IntWalk.i64_in _ (by omega))) ?_
 refine W.a (.buildP [.int .i64 (((p.no : Nat) : Int)), .int .i64 (0), .int .i64 (0), .slice none 0 0, .int .i64 ((((p.ra : Nat) : Int) % 8))] pl51 z51 rfl rfl) ?_
 refine W.ef rfl rfl rfl ?_
 refine Ef.allocA z51 ?_
 intro g8_8 w8_8 hg8_8 b8_8 h8_8
 have L30 := L28.trans h8_8
 have b8_8 : Blk w8_8 g8_8 51 #[.int .i64 (0), .int .i64 (0), .int .i64 (0), .slice none 0 0, .int .i64 (0)] := b8_8
 refine W.sA sz51 rfl rfl b8_8 ?_
 intro w8_9 b8_9 h8_9
 have b8_9 : Blk w8_9 g8_8 51 #[.int .i64 (((p.no : Nat) : Int)), .int .i64 (0), .int .i64 (0), .slice none 0 0, .int .i64 ((((p.ra : Nat) : Int) % 8))] := b8_9
 have L31 := L30.tb h8_9 L28 hg8_8
 refine W.nx (WC.sr ?_)
 refine W.a (.field0 fa29_2 rfl) ?_
 have f32 := ((f29.le h8_8).ch h8_9 (fun h => (show g8_8 ≠ g0_0 from by have := f29.lt; omega) (oI h)))
 refine W.r (.loadB (v := .int .u32 (((p.ow : Nat) : Int))) na25 rfl f32 rfl) ?_
 refine W.r (.idI (isS underlying25) underlying3 rfl (IntWalk.i64_in _ (by omega))) ?_
 refine W.a (.field0 fa43_1 rfl) ?_
 have f33 := ((b7_6_1.le h8_8).ch h8_9 (fun h => (show g8_8 ≠ g2_9 from by have := b7_6_1.lt; omega) (oI h)))
 refine W.r (.loadB (v := .int .i64 ((20000 + ((p.am : Nat) : Int)))) na3 rfl f33 rfl) ?_
 refine W.a (.add rfl rfl (by omega)) ?_
 refine W.a (.rem rfl rfl (by omega)) ?_
 refine W.a (.field0 fa51_1 rfl) ?_
 refine W.a (.idxAo (0) underlying48 sz3 rfl rfl (rfl) (by omega)) ?_
 refine W.ef0 rfl rfl ?_
 refine Ef.store sz3 rfl rfl b8_9 (by first | decide | (simp; done)) (rfl) ?_
 intro w9_9 b9_9 h9_9
 have b9_9 : Blk w9_9 g8_8 51 #[.int .i64 (((p.no : Nat) : Int)), .int .i64 ((((p.ow : Nat) : Int) % ((20000 + ((p.am : Nat) : Int)) + 1))), .int .i64 (0), .slice none 0 0, .int .i64 ((((p.ra : Nat) : Int) % 8))] := b9_9
 have L34 := L31.tb h9_9 L28 hg8_8
 refine W.nx (WC.sr ?_)
 refine W.a (.field0 fa43_1 rfl) ?_
 have f35 := (f33.ch h9_9 (fun h => (show g8_8 ≠ g2_9 from by have := b7_6_1.lt; omega) (oI h)))
 refine W.r (.loadB (v := .int .i64 ((20000 + ((p.am : Nat) : Int)))) na3 rfl f35 rfl) ?_
 refine W.a (.field0 fa51_1 rfl) ?_
 refine W.a (.idxAo (0) underlying48 sz3 rfl rfl (rfl) (by omega)) ?_
 refine W.r (.loadB (v := .int .i64 ((((p.ow : Nat) : Int) % ((20000 + ((p.am : Nat) : Int)) + 1)))) na3 rfl b9_9 rfl) ?_
 refine W.a (.sub rfl rfl (by omega)) ?_
 refine W.a (.field0 fa51_1 rfl) ?_
 refine W.a (.idxAo (1) underlying48 sz3 rfl rfl (rfl) (by omega)) ?_
 refine W.ef0 rfl rfl ?_
 refine Ef.store sz3 rfl rfl b9_9 (by first | decide | (simp; done)) (rfl) ?_
 intro w10_8 b10_8 h10_8
 have b10_8 : Blk w10_8 g8_8 51 #[.int .i64 (((p.no : Nat) : Int)), .int .i64 ((((p.ow : Nat) : Int) % ((20000 + ((p.am : Nat) : Int)) + 1))), .int .i64 (((20000 + ((p.am : Nat) : Int)) - (((p.ow : Nat) : Int) % ((20000 + ((p.am : Nat) : Int)) + 1)))), .slice none 0 0, .int .i64 ((((p.ra : Nat) : Int) % 8))] := b10_8
 have L36 := L34.tb h10_8 L28 hg8_8
 refine W.nx (WC.sr ?_)
 have f37 := (f35.ch h10_8 (fun h => (show g8_8 ≠ g2_9 from by have := b7_6_1.lt; omega) (oI h)))
 refine W.r (.loadAll ag43 (by rfl) rfl f37) ?_
 refine W.r (.loadAll ag51 (by rfl) rfl b10_8) ?_
 refine W.cl go31 rfl rfl (r20right0_ok (chB p) hch (s := sta1 p) w10_8 hs0) ?_
 rintro _ w11_2 ⟨rfl, h11_2⟩
 have L38 := L36.trans h11_2
 refine W.run 1 rfl (W.nx (WC.seq (WC.sr (W.run 2 rfl (W.nx ?_)))))
 by_cases c1 : costN (sta1 p).rt 0 <= (sta1 p).h (chB p).op
 ·refine WC.condN rfl (congrArg not (decide_eq_true c1)) ?_
  refine WC.sn (WC.seq (WC.sr (W.run 1 rfl (W.nx (WC.block ?_)))))
  refine WC.rounds 1 ?_
  refine RCn.step ?_
  refine WC.seq (WC.sr (W.run 1 rfl ?_))
  refine W.a (.field0 fa29_5 rfl) ?_
  have f39 := (((f32.ch h9_9 (fun h => (show g8_8 ≠ g0_0 from by have := f29.lt; omega) (oI h))).ch h10_8 (fun h => (show g8_8 ≠ g0_0 from by have := f29.lt; omega) (oI h))).le h11_2)
  refine W.r (.loadB (v := .slice p.oa p.on p.oc) na26 rfl f39 rfl) ?_
  refine W.r (.len underlying26 rfl) ?_
  refine W.a (.dec (.lss rfl rfl) (dF (by omega))) ?_
  refine W.run 4 rfl (W.nx (WC.condF rfl (WC.exit (E.thenX (E.thenX (E.blkH (E.thenN (WC.seq ?_))))))))
  refine WC.drawS (fun w23 w' => Le w w' /\ Blk w' g2_9 43 #[.int .u8 (0), .int .u8 (0), .int .u8 (0), .int .u8 (0), .int .u8 (0), .int .u8 (0), .int .u8 (0), .int .u8 (0), .int .u8 (0), .int .u8 (0), .int .u8 (0), .int .u8 (0), .int .u8 (0), .int .u8 (0), .int .u8 (0), .int .u8 (0), .int .u8 (0), .int .u8 (0), .int .u8 (0), .int .u8 (0), .int .u8 (0), .int .u8 (0), .int .u8 (0), .int .u8 (0), .int .u8 (0), .int .u8 (0), .int .u8 (0), .int .u8 (0), .int .u8 (0), .int .u8 (0), .int .u8 (0), .int .u8 (0), .int .i64 (0), .int .i64 ((20000 + ((p.am : Nat) : Int))), .int .u64 ((((basB ((kitB p.s0, kitB p.s1).1)).f : Nat) : Int)), .int .u64 ((((basB ((kitB p.s0, kitB p.s1).1)).p : Nat) : Int)), .int .u64 ((((basB ((kitB p.s0, kitB p.s1).1)).l : Nat) : Int)), .int .u64 ((((basB ((kitB p.s0, kitB p.s1).1)).c : Nat) : Int)), .int .u64 ((((basB ((kitB p.s0, kitB p.s1).1)).r : Nat) : Int)), .int .u64 ((((basB ((kitB p.s0, kitB p.s1).2)).f : Nat) : Int)), .int .u64 ((((basB ((kitB p.s0, kitB p.s1).2)).p : Nat) : Int)), .int .u64 ((((basB ((kitB p.s0, kitB p.s1).2)).l : Nat) : Int)), .int .u64 ((((basB ((kitB p.s0, kitB p.s1).2)).c : Nat) : Int)), .int .u64 ((((basB ((kitB p.s0, kitB p.s1).2)).r : Nat) : Int)), .int .i64 (100), .int .i64 (200), .int .i64 (5), .int .i64 (16), .int .i64 (1), .int .i64 (1125899906842624), .int .i64 (100), .int .i64 (200), .int .i64 (6), .int .i64 (16), .int .i64 (1), .int .i64 (1125899906842624), .int .i64 ((((p.op : Nat) : Int) % 2))] /\ Blk w' g1_9 47 (kit2V (kitB p.s0, kitB p.s1)).toArray /\ Blk w' g8_8 51 #[.int .i64 (((p.no : Nat) : Int)), .int .i64 ((((p.ow : Nat) : Int) % ((20000 + ((p.am : Nat) : Int)) + 1))), .int .i64 (((20000 + ((p.am : Nat) : Int)) - (((p.ow : Nat) : Int) % ((20000 + ((p.am : Nat) : Int)) + 1)))), .slice none 0 0, .int .i64 ((((p.ra : Nat) : Int) % 8))]) [0, 1, 2, 3, 4, 5] mixed (by kernel_rfl) ?_
  intro w23 d23
  have L40 := L38.trans d23
  have f41 := (f37.le (h11_2.trans d23))
  have f42 := ((((((((f24.le h6_4_1).ch h6_7_1 (fun h => (show g2_9 ≠ g1_9 from by have := b1_10.lt; omega) (oI h))).ch h7_6_1 (fun h => (show g2_9 ≠ g1_9 from by have := b1_10.lt; omega) (oI h))).le h8_8).ch h8_9 (fun h => (show g8_8 ≠ g1_9 from by have := f24.lt; have := h6_4_1.size; have := h6_7_1.size; have := h7_6_1.size; omega) (oI h))).ch h9_9 (fun h => (show g8_8 ≠ g1_9 from by have := f24.lt; have := h6_4_1.size; have := h6_7_1.size; have := h7_6_1.size; omega) (oI h))).ch h10_8 (fun h => (show g8_8 ≠ g1_9 from by have := f24.lt; have := h6_4_1.size; have := h6_7_1.size; have := h7_6_1.size; omega) (oI h))).le (h11_2.trans d23))
  have f43 := (b10_8.le (h11_2.trans d23))
  refine ⟨⟨L40, f41, f42, f43⟩, ?_⟩
  refine GS.rd rfl rfl (fun w' hs => .loadAll ag43 (by rfl) rfl hs.2.1) rfl rfl rfl ?_
  refine GS.rd rfl rfl (fun w' hs => .loadAll ag47 (by rfl) rfl hs.2.2.1) rfl rfl rfl ?_
  refine GS.rd rfl rfl (fun w' hs => .loadAll ag51 (by rfl) rfl hs.2.2.2) rfl rfl rfl ?_
  have f44 := (((((((((((((((b0_1.le (h0_2.trans (h0_3.trans (d1.trans h_1)))).ch h1_10 (fun h => (show g1_9 ≠ g0_1 from by have := b0_1.lt; have := h0_2.size; have := h0_3.size; have := d1.size; omega) (oI h))).le h2_9).ch h2_10 (fun h => (show g2_9 ≠ g0_1 from by have := b0_1.lt; have := h0_2.size; have := h0_3.size; have := d1.size; have := h_1.size; have := h1_10.size; omega) (oI h))).le h6_4).ch h6_7 (fun h => (show g2_9 ≠ g0_1 from by have := b0_1.lt; have := h0_2.size; have := h0_3.size; have := d1.size; have := h_1.size; have := h1_10.size; omega) (oI h))).ch h7_6 (fun h => (show g2_9 ≠ g0_1 from by have := b0_1.lt; have := h0_2.size; have := h0_3.size; have := d1.size; have := h_1.size; have := h1_10.size; omega) (oI h))).le h6_4_1).ch h6_7_1 (fun h => (show g2_9 ≠ g0_1 from by have := b0_1.lt; have := h0_2.size; have := h0_3.size; have := d1.size; have := h_1.size; have := h1_10.size; omega) (oI h))).ch h7_6_1 (fun h => (show g2_9 ≠ g0_1 from by have := b0_1.lt; have := h0_2.size; have := h0_3.size; have := d1.size; have := h_1.size; have := h1_10.size; omega) (oI h))).le h8_8).ch h8_9 (fun h => (show g8_8 ≠ g0_1 from by have := b0_1.lt; have := h0_2.size; have := h0_3.size; have := d1.size; have := h_1.size; have := h1_10.size; have := h2_9.size; have := h2_10.size; have := h6_4.size; have := h6_7.size; have := h7_6.size; have := h6_4_1.size; have := h6_7_1.size; have := h7_6_1.size; omega) (oI h))).ch h9_9 (fun h => (show g8_8 ≠ g0_1 from by have := b0_1.lt; have := h0_2.size; have := h0_3.size; have := d1.size; have := h_1.size; have := h1_10.size; have := h2_9.size; have := h2_10.size; have := h6_4.size; have := h6_7.size; have := h7_6.size; have := h6_4_1.size; have := h6_7_1.size; have := h7_6_1.size; omega) (oI h))).ch h10_8 (fun h => (show g8_8 ≠ g0_1 from by have := b0_1.lt; have := h0_2.size; have := h0_3.size; have := d1.size; have := h_1.size; have := h1_10.size; have := h2_9.size; have := h2_10.size; have := h6_4.size; have := h6_7.size; have := h7_6.size; have := h6_4_1.size; have := h6_7_1.size; have := h7_6_1.size; omega) (oI h))).le (h11_2.trans d23))
  refine GS.ef0 rfl rfl rfl rfl ?_
  refine Ef.storeAll sz43 (by rfl) rfl rfl f44 (by rfl) (by simp [Value.oneCell']) ?_
  intro w23_3 b23_3 h23_3
  have b23_3 : Blk w23_3 g0_1 43 #[.int .u8 (0), .int .u8 (0), .int .u8 (0), .int .u8 (0), .int .u8 (0), .int .u8 (0), .int .u8 (0), .int .u8 (0), .int .u8 (0), .int .u8 (0), .int .u8 (0), .int .u8 (0), .int .u8 (0), .int .u8 (0), .int .u8 (0), .int .u8 (0), .int .u8 (0), .int .u8 (0), .int .u8 (0), .int .u8 (0), .int .u8 (0), .int .u8 (0), .int .u8 (0), .int .u8 (0), .int .u8 (0), .int .u8 (0), .int .u8 (0), .int .u8 (0), .int .u8 (0), .int .u8 (0), .int .u8 (0), .int .u8 (0), .int .i64 (0), .int .i64 ((20000 + ((p.am : Nat) : Int))), .int .u64 ((((basB ((kitB p.s0, kitB p.s1).1)).f : Nat) : Int)), .int .u64 ((((basB ((kitB p.s0, kitB p.s1).1)).p : Nat) : Int)), .int .u64 ((((basB ((kitB p.s0, kitB p.s1).1)).l : Nat) : Int)), .int .u64 ((((basB ((kitB p.s0, kitB p.s1).1)).c : Nat) : Int)), .int .u64 ((((basB ((kitB p.s0, kitB p.s1).1)).r : Nat) : Int)), .int .u64 ((((basB ((kitB p.s0, kitB p.s1).2)).f : Nat) : Int)), .int .u64 ((((basB ((kitB p.s0, kitB p.s1).2)).p : Nat) : Int)), .int .u64 ((((basB ((kitB p.s0, kitB p.s1).2)).l : Nat) : Int)), .int .u64 ((((basB ((kitB p.s0, kitB p.s1).2)).c : Nat) : Int)), .int .u64 ((((basB ((kitB p.s0, kitB p.s1).2)).r : Nat) : Int)), .int .i64 (100), .int .i64 (200), .int .i64 (5), .int .i64 (16), .int .i64 (1), .int .i64 (1125899906842624), .int .i64 (100), .int .i64 (200), .int .i64 (6), .int .i64 (16), .int .i64 (1), .int .i64 (1125899906842624), .int .i64 ((((p.op : Nat) : Int) % 2))] := b23_3
  have L45 := L40.tb h23_3 L1 hg0_1
  have f46 := (f41.ch h23_3 (fun h => (show g0_1 ≠ g2_9 from by have := b0_1.lt; have := h0_2.size; have := h0_3.size; have := d1.size; have := h_1.size; have := h1_10.size; omega) (oI h)))
  have f47 := (f42.ch h23_3 (fun h => (show g0_1 ≠ g1_9 from by have := b0_1.lt; have := h0_2.size; have := h0_3.size; have := d1.size; omega) (oI h)))
  have f48 := (f43.ch h23_3 (fun h => (show g0_1 ≠ g8_8 from by have := b0_1.lt; have := h0_2.size; have := h0_3.size; have := d1.size; have := h_1.size; have := h1_10.size; have := h2_9.size; have := h2_10.size; have := h6_4.size; have := h6_7.size; have := h7_6.size; have := h6_4_1.size; have := h6_7_1.size; have := h7_6_1.size; omega) (oI h)))
  refine ⟨⟨L45, f46, f47, f48⟩, ?_⟩
  have f49 := ((((((((((((((((b0_2.le (h0_3.trans (d1.trans h_1))).ch h1_10 (fun h => (show g1_9 ≠ g0_2 from by have := b0_2.lt; have := h0_3.size; have := d1.size; omega) (oI h))).le h2_9).ch h2_10 (fun h => (show g2_9 ≠ g0_2 from by have := b0_2.lt; have := h0_3.size; have := d1.size; have := h_1.size; have := h1_10.size; omega) (oI h))).le h6_4).ch h6_7 (fun h => (show g2_9 ≠ g0_2 from by have := b0_2.lt; have := h0_3.size; have := d1.size; have := h_1.size; have := h1_10.size; omega) (oI h))).ch h7_6 (fun h => (show g2_9 ≠ g0_2 from by have := b0_2.lt; have := h0_3.size; have := d1.size; have := h_1.size; have := h1_10.size; omega) (oI h))).le h6_4_1).ch h6_7_1 (fun h => (show g2_9 ≠ g0_2 from by have := b0_2.lt; have := h0_3.size; have := d1.size; have := h_1.size; have := h1_10.size; omega) (oI h))).ch h7_6_1 (fun h => (show g2_9 ≠ g0_2 from by have := b0_2.lt; have := h0_3.size; have := d1.size; have := h_1.size; have := h1_10.size; omega) (oI h))).le h8_8).ch h8_9 (fun h => (show g8_8 ≠ g0_2 from by have := b0_2.lt; have := h0_3.size; have := d1.size; have := h_1.size; have := h1_10.size; have := h2_9.size; have := h2_10.size; have := h6_4.size; have := h6_7.size; have := h7_6.size; have := h6_4_1.size; have := h6_7_1.size; have := h7_6_1.size; omega) (oI h))).ch h9_9 (fun h => (show g8_8 ≠ g0_2 from by have := b0_2.lt; have := h0_3.size; have := d1.size; have := h_1.size; have := h1_10.size; have := h2_9.size; have := h2_10.size; have := h6_4.size; have := h6_7.size; have := h7_6.size; have := h6_4_1.size; have := h6_7_1.size; have := h7_6_1.size; omega) (oI h))).ch h10_8 (fun h => (show g8_8 ≠ g0_2 from by have := b0_2.lt; have := h0_3.size; have := d1.size; have := h_1.size; have := h1_10.size; have := h2_9.size; have := h2_10.size; have := h6_4.size; have := h6_7.size; have := h7_6.size; have := h6_4_1.size; have := h6_7_1.size; have := h7_6_1.size; omega) (oI h))).le (h11_2.trans d23)).ch h23_3 (fun h => (show g0_1 ≠ g0_2 from by have := b0_1.lt; omega) (oI h)))
  refine GS.ef0 rfl rfl rfl rfl ?_
  refine Ef.storeAll sz47 (by rfl) rfl rfl f49 (by simp only [List.size_toArray, kit2V_row.len]) (kit2V_row.one (kitB p.s0, kitB p.s1)) ?_
  intro w23_4 b23_4 h23_4
  have b23_4 : Blk w23_4 g0_2 47 (kit2V (kitB p.s0, kitB p.s1)).toArray := b23_4
  have L50 := L45.tb h23_4 L2 hg0_2
  have f51 := (f46.ch h23_4 (fun h => (show g0_2 ≠ g2_9 from by have := b0_2.lt; have := h0_3.size; have := d1.size; have := h_1.size; have := h1_10.size; omega) (oI h)))
  have f52 := (f47.ch h23_4 (fun h => (show g0_2 ≠ g1_9 from by have := b0_2.lt; have := h0_3.size; have := d1.size; omega) (oI h)))
  have f53 := (f48.ch h23_4 (fun h => (show g0_2 ≠ g8_8 from by have := b0_2.lt; have := h0_3.size; have := d1.size; have := h_1.size; have := h1_10.size; have := h2_9.size; have := h2_10.size; have := h6_4.size; have := h6_7.size; have := h7_6.size; have := h6_4_1.size; have := h6_7_1.size; have := h7_6_1.size; omega) (oI h)))
  refine ⟨⟨L50, f51, f52, f53⟩, ?_⟩
  have f54 := (((((((((((((((((b0_3.le (d1.trans h_1)).ch h1_10 (fun h => (show g1_9 ≠ g0_3 from by have := b0_3.lt; have := d1.size; omega) (oI h))).le h2_9).ch h2_10 (fun h => (show g2_9 ≠ g0_3 from by have := b0_3.lt; have := d1.size; have := h_1.size; have := h1_10.size; omega) (oI h))).le h6_4).ch h6_7 (fun h => (show g2_9 ≠ g0_3 from by have := b0_3.lt; have := d1.size; have := h_1.size; have := h1_10.size; omega) (oI h))).ch h7_6 (fun h => (show g2_9 ≠ g0_3 from by have := b0_3.lt; have := d1.size; have := h_1.size; have := h1_10.size; omega) (oI h))).le h6_4_1).ch h6_7_1 (fun h => (show g2_9 ≠ g0_3 from by have := b0_3.lt; have := d1.size; have := h_1.size; have := h1_10.size; omega) (oI h))).ch h7_6_1 (fun h => (show g2_9 ≠ g0_3 from by have := b0_3.lt; have := d1.size; have := h_1.size; have := h1_10.size; omega) (oI h))).le h8_8).ch h8_9 (fun h => (show g8_8 ≠ g0_3 from by have := b0_3.lt; have := d1.size; have := h_1.size; have := h1_10.size; have := h2_9.size; have := h2_10.size; have := h6_4.size; have := h6_7.size; have := h7_6.size; have := h6_4_1.size; have := h6_7_1.size; have := h7_6_1.size; omega) (oI h))).ch h9_9 (fun h => (show g8_8 ≠ g0_3 from by have := b0_3.lt; have := d1.size; have := h_1.size; have := h1_10.size; have := h2_9.size; have := h2_10.size; have := h6_4.size; have := h6_7.size; have := h7_6.size; have := h6_4_1.size; have := h6_7_1.size; have := h7_6_1.size; omega) (oI h))).ch h10_8 (fun h => (show g8_8 ≠ g0_3 from by have := b0_3.lt; have := d1.size; have := h_1.size; have := h1_10.size; have := h2_9.size; have := h2_10.size; have := h6_4.size; have := h6_7.size; have := h7_6.size; have := h6_4_1.size; have := h6_7_1.size; have := h7_6_1.size; omega) (oI h))).le (h11_2.trans d23)).ch h23_3 (fun h => (show g0_1 ≠ g0_3 from by have := b0_1.lt; have := h0_2.size; omega) (oI h))).ch h23_4 (fun h => (show g0_2 ≠ g0_3 from by have := b0_2.lt; omega) (oI h)))
  refine GS.ef0 rfl rfl rfl rfl ?_
  refine Ef.storeAll sz51 (by rfl) rfl rfl f54 (by rfl) (by simp [Value.oneCell']) ?_
  intro w23_5 b23_5 h23_5
  have b23_5 : Blk w23_5 g0_3 51 #[.int .i64 (((p.no : Nat) : Int)), .int .i64 ((((p.ow : Nat) : Int) % ((20000 + ((p.am : Nat) : Int)) + 1))), .int .i64 (((20000 + ((p.am : Nat) : Int)) - (((p.ow : Nat) : Int) % ((20000 + ((p.am : Nat) : Int)) + 1)))), .slice none 0 0, .int .i64 ((((p.ra : Nat) : Int) % 8))] := b23_5
  have L55 := L50.tb h23_5 L3 hg0_3
  have f56 := (f51.ch h23_5 (fun h => (show g0_3 ≠ g2_9 from by have := b0_3.lt; have := d1.size; have := h_1.size; have := h1_10.size; omega) (oI h)))
  have f57 := (f52.ch h23_5 (fun h => (show g0_3 ≠ g1_9 from by have := b0_3.lt; have := d1.size; omega) (oI h)))
  have f58 := (f53.ch h23_5 (fun h => (show g0_3 ≠ g8_8 from by have := b0_3.lt; have := d1.size; have := h_1.size; have := h1_10.size; have := h2_9.size; have := h2_10.size; have := h6_4.size; have := h6_7.size; have := h7_6.size; have := h6_4_1.size; have := h6_7_1.size; have := h7_6_1.size; omega) (oI h)))
  refine ⟨⟨L55, f56, f57, f58⟩, ?_⟩
  refine GS.nil ?_
  refine E.thenN (WC.ret ?_)
  have f59 := ((b23_3.ch h23_4 (fun h => (show g0_2 ≠ g0_1 from by have := b0_1.lt; omega) (oI h))).ch h23_5 (fun h => (show g0_3 ≠ g0_1 from by have := b0_1.lt; have := h0_2.size; omega) (oI h)))
  have f60 := (b23_4.ch h23_5 (fun h => (show g0_3 ≠ g0_2 from by have := b0_2.lt; omega) (oI h)))
  refine E.retG3 rfl (resA rfl f59 ag43 (by rfl)) (resA rfl f60 ag47 (by rfl)) (resA rfl b23_5 ag51 (by rfl)) ?_
  exact ⟨by unfold staB; rw [if_pos (by assumption)]; rfl, L55⟩
 refine WC.condY rfl (congrArg not (decide_eq_false c1)) ?_
 refine WC.sr ?_
 by_cases qc13_0 : ((p.op : Nat) : Int) % 2 = 0
 ·refine W.a (.field0 fa43_4 rfl) ?_
  have f61 := (f37.le h11_2)
  refine W.r (.loadB (v := .int .i64 ((((p.op : Nat) : Int) % 2))) na3 rfl f61 rfl) ?_
  refine W.a (.field0 fa43_1 rfl) ?_
  refine W.r (.loadB (v := .int .i64 ((20000 + ((p.am : Nat) : Int)))) na3 rfl f61 rfl) ?_
  refine W.a (.field0 fa51_1 rfl) ?_
  refine W.a (.idxAo (0) underlying48 sz3 rfl rfl (by omega) (by omega)) ?_
  have f62 := (b10_8.le h11_2)
  refine W.ef0 rfl rfl ?_
  refine Ef.store sz3 rfl rfl f62 (by first | decide | (simp; done)) (rfl) ?_
  intro w13_6 b13_6 h13_6
  have b13_6 : Blk w13_6 g8_8 51 #[.int .i64 (((p.no : Nat) : Int)), .int .i64 ((20000 + ((p.am : Nat) : Int))), .int .i64 (((20000 + ((p.am : Nat) : Int)) - (((p.ow : Nat) : Int) % ((20000 + ((p.am : Nat) : Int)) + 1)))), .slice none 0 0, .int .i64 ((((p.ra : Nat) : Int) % 8))] := b13_6
  have L63 := L38.tb h13_6 L28 hg8_8
  refine W.nx (WC.region ?_)
  refine W.a (.field0 fa43_4 rfl) ?_
  have f64 := (f61.ch h13_6 (fun h => (show g8_8 ≠ g2_9 from by have := b7_6_1.lt; omega) (oI h)))
  refine W.r (.loadB (v := .int .i64 ((((p.op : Nat) : Int) % 2))) na3 rfl f64 rfl) ?_
  refine W.a (.sub rfl rfl (by omega)) ?_
  refine W.a (.field0 fa51_1 rfl) ?_
  refine W.a (.idxAo (1) underlying48 sz3 rfl rfl (by omega) (by omega)) ?_
  refine W.ef0 rfl rfl ?_
  refine Ef.store sz3 rfl rfl b13_6 (by first | decide | (simp; done)) (rfl) ?_
  intro w14_5 b14_5 h14_5
  have b14_5 : Blk w14_5 g8_8 51 #[.int .i64 (((p.no : Nat) : Int)), .int .i64 ((20000 + ((p.am : Nat) : Int))), .int .i64 (0), .slice none 0 0, .int .i64 ((((p.ra : Nat) : Int) % 8))] := b14_5
  have L65 := L63.tb h14_5 L28 hg8_8
  refine W.nx (WC.seq (WC.sr (W.run 1 rfl (W.nx (WC.block ?_)))))
  refine WC.rounds 1 ?_
  refine RCn.step ?_
  refine WC.seq (WC.sr (W.run 1 rfl ?_))
  refine W.a (.field0 fa29_5 rfl) ?_
  have f66 := (((((f32.ch h9_9 (fun h => (show g8_8 ≠ g0_0 from by have := f29.lt; omega) (oI h))).ch h10_8 (fun h => (show g8_8 ≠ g0_0 from by have := f29.lt; omega) (oI h))).le h11_2).ch h13_6 (fun h => (show g8_8 ≠ g0_0 from by have := f29.lt; omega) (oI h))).ch h14_5 (fun h => (show g8_8 ≠ g0_0 from by have := f29.lt; omega) (oI h)))
  refine W.r (.loadB (v := .slice p.oa p.on p.oc) na26 rfl f66 rfl) ?_
  refine W.r (.len underlying26 rfl) ?_
  refine W.a (.dec (.lss rfl rfl) (dF (by omega))) ?_
  refine W.run 4 rfl (W.nx (WC.condF rfl (WC.exit (E.thenX (E.thenX (E.blkH (E.thenN (WC.seq ?_))))))))
  refine WC.drawS (fun w23 w' => Le w w' /\ Blk w' g2_9 43 #[.int .u8 (0), .int .u8 (0), .int .u8 (0), .int .u8 (0), .int .u8 (0), .int .u8 (0), .int .u8 (0), .int .u8 (0), .int .u8 (0), .int .u8 (0), .int .u8 (0), .int .u8 (0), .int .u8 (0), .int .u8 (0), .int .u8 (0), .int .u8 (0), .int .u8 (0), .int .u8 (0), .int .u8 (0), .int .u8 (0), .int .u8 (0), .int .u8 (0), .int .u8 (0), .int .u8 (0), .int .u8 (0), .int .u8 (0), .int .u8 (0), .int .u8 (0), .int .u8 (0), .int .u8 (0), .int .u8 (0), .int .u8 (0), .int .i64 (0), .int .i64 ((20000 + ((p.am : Nat) : Int))), .int .u64 ((((basB ((kitB p.s0, kitB p.s1).1)).f : Nat) : Int)), .int .u64 ((((basB ((kitB p.s0, kitB p.s1).1)).p : Nat) : Int)), .int .u64 ((((basB ((kitB p.s0, kitB p.s1).1)).l : Nat) : Int)), .int .u64 ((((basB ((kitB p.s0, kitB p.s1).1)).c : Nat) : Int)), .int .u64 ((((basB ((kitB p.s0, kitB p.s1).1)).r : Nat) : Int)), .int .u64 ((((basB ((kitB p.s0, kitB p.s1).2)).f : Nat) : Int)), .int .u64 ((((basB ((kitB p.s0, kitB p.s1).2)).p : Nat) : Int)), .int .u64 ((((basB ((kitB p.s0, kitB p.s1).2)).l : Nat) : Int)), .int .u64 ((((basB ((kitB p.s0, kitB p.s1).2)).c : Nat) : Int)), .int .u64 ((((basB ((kitB p.s0, kitB p.s1).2)).r : Nat) : Int)), .int .i64 (100), .int .i64 (200), .int .i64 (5), .int .i64 (16), .int .i64 (1), .int .i64 (1125899906842624), .int .i64 (100), .int .i64 (200), .int .i64 (6), .int .i64 (16), .int .i64 (1), .int .i64 (1125899906842624), .int .i64 ((((p.op : Nat) : Int) % 2))] /\ Blk w' g1_9 47 (kit2V (kitB p.s0, kitB p.s1)).toArray /\ Blk w' g8_8 51 #[.int .i64 (((p.no : Nat) : Int)), .int .i64 ((20000 + ((p.am : Nat) : Int))), .int .i64 (0), .slice none 0 0, .int .i64 ((((p.ra : Nat) : Int) % 8))]) [0, 1, 2, 3, 4, 5] mixed (by kernel_rfl) ?_
  intro w23 d23
  have L67 := L65.trans d23
  have f68 := ((f64.ch h14_5 (fun h => (show g8_8 ≠ g2_9 from by have := b7_6_1.lt; omega) (oI h))).le d23)
  have f69 := (((((((((((f24.le h6_4_1).ch h6_7_1 (fun h => (show g2_9 ≠ g1_9 from by have := b1_10.lt; omega) (oI h))).ch h7_6_1 (fun h => (show g2_9 ≠ g1_9 from by have := b1_10.lt; omega) (oI h))).le h8_8).ch h8_9 (fun h => (show g8_8 ≠ g1_9 from by have := f24.lt; have := h6_4_1.size; have := h6_7_1.size; have := h7_6_1.size; omega) (oI h))).ch h9_9 (fun h => (show g8_8 ≠ g1_9 from by have := f24.lt; have := h6_4_1.size; have := h6_7_1.size; have := h7_6_1.size; omega) (oI h))).ch h10_8 (fun h => (show g8_8 ≠ g1_9 from by have := f24.lt; have := h6_4_1.size; have := h6_7_1.size; have := h7_6_1.size; omega) (oI h))).le h11_2).ch h13_6 (fun h => (show g8_8 ≠ g1_9 from by have := f24.lt; have := h6_4_1.size; have := h6_7_1.size; have := h7_6_1.size; omega) (oI h))).ch h14_5 (fun h => (show g8_8 ≠ g1_9 from by have := f24.lt; have := h6_4_1.size; have := h6_7_1.size; have := h7_6_1.size; omega) (oI h))).le d23)
  have f70 := (b14_5.le d23)
  refine ⟨⟨L67, f68, f69, f70⟩, ?_⟩
  refine GS.rd rfl rfl (fun w' hs => .loadAll ag43 (by rfl) rfl hs.2.1) rfl rfl rfl ?_
  refine GS.rd rfl rfl (fun w' hs => .loadAll ag47 (by rfl) rfl hs.2.2.1) rfl rfl rfl ?_
  refine GS.rd rfl rfl (fun w' hs => .loadAll ag51 (by rfl) rfl hs.2.2.2) rfl rfl rfl ?_
  have f71 := ((((((((((((((((((b0_1.le (h0_2.trans (h0_3.trans (d1.trans h_1)))).ch h1_10 (fun h => (show g1_9 ≠ g0_1 from by have := b0_1.lt; have := h0_2.size; have := h0_3.size; have := d1.size; omega) (oI h))).le h2_9).ch h2_10 (fun h => (show g2_9 ≠ g0_1 from by have := b0_1.lt; have := h0_2.size; have := h0_3.size; have := d1.size; have := h_1.size; have := h1_10.size; omega) (oI h))).le h6_4).ch h6_7 (fun h => (show g2_9 ≠ g0_1 from by have := b0_1.lt; have := h0_2.size; have := h0_3.size; have := d1.size; have := h_1.size; have := h1_10.size; omega) (oI h))).ch h7_6 (fun h => (show g2_9 ≠ g0_1 from by have := b0_1.lt; have := h0_2.size; have := h0_3.size; have := d1.size; have := h_1.size; have := h1_10.size; omega) (oI h))).le h6_4_1).ch h6_7_1 (fun h => (show g2_9 ≠ g0_1 from by have := b0_1.lt; have := h0_2.size; have := h0_3.size; have := d1.size; have := h_1.size; have := h1_10.size; omega) (oI h))).ch h7_6_1 (fun h => (show g2_9 ≠ g0_1 from by have := b0_1.lt; have := h0_2.size; have := h0_3.size; have := d1.size; have := h_1.size; have := h1_10.size; omega) (oI h))).le h8_8).ch h8_9 (fun h => (show g8_8 ≠ g0_1 from by have := b0_1.lt; have := h0_2.size; have := h0_3.size; have := d1.size; have := h_1.size; have := h1_10.size; have := h2_9.size; have := h2_10.size; have := h6_4.size; have := h6_7.size; have := h7_6.size; have := h6_4_1.size; have := h6_7_1.size; have := h7_6_1.size; omega) (oI h))).ch h9_9 (fun h => (show g8_8 ≠ g0_1 from by have := b0_1.lt; have := h0_2.size; have := h0_3.size; have := d1.size; have := h_1.size; have := h1_10.size; have := h2_9.size; have := h2_10.size; have := h6_4.size; have := h6_7.size; have := h7_6.size; have := h6_4_1.size; have := h6_7_1.size; have := h7_6_1.size; omega) (oI h))).ch h10_8 (fun h => (show g8_8 ≠ g0_1 from by have := b0_1.lt; have := h0_2.size; have := h0_3.size; have := d1.size; have := h_1.size; have := h1_10.size; have := h2_9.size; have := h2_10.size; have := h6_4.size; have := h6_7.size; have := h7_6.size; have := h6_4_1.size; have := h6_7_1.size; have := h7_6_1.size; omega) (oI h))).le h11_2).ch h13_6 (fun h => (show g8_8 ≠ g0_1 from by have := b0_1.lt; have := h0_2.size; have := h0_3.size; have := d1.size; have := h_1.size; have := h1_10.size; have := h2_9.size; have := h2_10.size; have := h6_4.size; have := h6_7.size; have := h7_6.size; have := h6_4_1.size; have := h6_7_1.size; have := h7_6_1.size; omega) (oI h))).ch h14_5 (fun h => (show g8_8 ≠ g0_1 from by have := b0_1.lt; have := h0_2.size; have := h0_3.size; have := d1.size; have := h_1.size; have := h1_10.size; have := h2_9.size; have := h2_10.size; have := h6_4.size; have := h6_7.size; have := h7_6.size; have := h6_4_1.size; have := h6_7_1.size; have := h7_6_1.size; omega) (oI h))).le d23)
  refine GS.ef0 rfl rfl rfl rfl ?_
  refine Ef.storeAll sz43 (by rfl) rfl rfl f71 (by rfl) (by simp [Value.oneCell']) ?_
  intro w23_3_1 b23_3_1 h23_3_1
  have b23_3_1 : Blk w23_3_1 g0_1 43 #[.int .u8 (0), .int .u8 (0), .int .u8 (0), .int .u8 (0), .int .u8 (0), .int .u8 (0), .int .u8 (0), .int .u8 (0), .int .u8 (0), .int .u8 (0), .int .u8 (0), .int .u8 (0), .int .u8 (0), .int .u8 (0), .int .u8 (0), .int .u8 (0), .int .u8 (0), .int .u8 (0), .int .u8 (0), .int .u8 (0), .int .u8 (0), .int .u8 (0), .int .u8 (0), .int .u8 (0), .int .u8 (0), .int .u8 (0), .int .u8 (0), .int .u8 (0), .int .u8 (0), .int .u8 (0), .int .u8 (0), .int .u8 (0), .int .i64 (0), .int .i64 ((20000 + ((p.am : Nat) : Int))), .int .u64 ((((basB ((kitB p.s0, kitB p.s1).1)).f : Nat) : Int)), .int .u64 ((((basB ((kitB p.s0, kitB p.s1).1)).p : Nat) : Int)), .int .u64 ((((basB ((kitB p.s0, kitB p.s1).1)).l : Nat) : Int)), .int .u64 ((((basB ((kitB p.s0, kitB p.s1).1)).c : Nat) : Int)), .int .u64 ((((basB ((kitB p.s0, kitB p.s1).1)).r : Nat) : Int)), .int .u64 ((((basB ((kitB p.s0, kitB p.s1).2)).f : Nat) : Int)), .int .u64 ((((basB ((kitB p.s0, kitB p.s1).2)).p : Nat) : Int)), .int .u64 ((((basB ((kitB p.s0, kitB p.s1).2)).l : Nat) : Int)), .int .u64 ((((basB ((kitB p.s0, kitB p.s1).2)).c : Nat) : Int)), .int .u64 ((((basB ((kitB p.s0, kitB p.s1).2)).r : Nat) : Int)), .int .i64 (100), .int .i64 (200), .int .i64 (5), .int .i64 (16), .int .i64 (1), .int .i64 (1125899906842624), .int .i64 (100), .int .i64 (200), .int .i64 (6), .int .i64 (16), .int .i64 (1), .int .i64 (1125899906842624), .int .i64 ((((p.op : Nat) : Int) % 2))] := b23_3_1
  have L72 := L67.tb h23_3_1 L1 hg0_1
  have f73 := (f68.ch h23_3_1 (fun h => (show g0_1 ≠ g2_9 from by have := b0_1.lt; have := h0_2.size; have := h0_3.size; have := d1.size; have := h_1.size; have := h1_10.size; omega) (oI h)))
  have f74 := (f69.ch h23_3_1 (fun h => (show g0_1 ≠ g1_9 from by have := b0_1.lt; have := h0_2.size; have := h0_3.size; have := d1.size; omega) (oI h)))
  have f75 := (f70.ch h23_3_1 (fun h => (show g0_1 ≠ g8_8 from by have := b0_1.lt; have := h0_2.size; have := h0_3.size; have := d1.size; have := h_1.size; have := h1_10.size; have := h2_9.size; have := h2_10.size; have := h6_4.size; have := h6_7.size; have := h7_6.size; have := h6_4_1.size; have := h6_7_1.size; have := h7_6_1.size; omega) (oI h)))
  refine ⟨⟨L72, f73, f74, f75⟩, ?_⟩
  have f76 := (((((((((((((((((((b0_2.le (h0_3.trans (d1.trans h_1))).ch h1_10 (fun h => (show g1_9 ≠ g0_2 from by have := b0_2.lt; have := h0_3.size; have := d1.size; omega) (oI h))).le h2_9).ch h2_10 (fun h => (show g2_9 ≠ g0_2 from by have := b0_2.lt; have := h0_3.size; have := d1.size; have := h_1.size; have := h1_10.size; omega) (oI h))).le h6_4).ch h6_7 (fun h => (show g2_9 ≠ g0_2 from by have := b0_2.lt; have := h0_3.size; have := d1.size; have := h_1.size; have := h1_10.size; omega) (oI h))).ch h7_6 (fun h => (show g2_9 ≠ g0_2 from by have := b0_2.lt; have := h0_3.size; have := d1.size; have := h_1.size; have := h1_10.size; omega) (oI h))).le h6_4_1).ch h6_7_1 (fun h => (show g2_9 ≠ g0_2 from by have := b0_2.lt; have := h0_3.size; have := d1.size; have := h_1.size; have := h1_10.size; omega) (oI h))).ch h7_6_1 (fun h => (show g2_9 ≠ g0_2 from by have := b0_2.lt; have := h0_3.size; have := d1.size; have := h_1.size; have := h1_10.size; omega) (oI h))).le h8_8).ch h8_9 (fun h => (show g8_8 ≠ g0_2 from by have := b0_2.lt; have := h0_3.size; have := d1.size; have := h_1.size; have := h1_10.size; have := h2_9.size; have := h2_10.size; have := h6_4.size; have := h6_7.size; have := h7_6.size; have := h6_4_1.size; have := h6_7_1.size; have := h7_6_1.size; omega) (oI h))).ch h9_9 (fun h => (show g8_8 ≠ g0_2 from by have := b0_2.lt; have := h0_3.size; have := d1.size; have := h_1.size; have := h1_10.size; have := h2_9.size; have := h2_10.size; have := h6_4.size; have := h6_7.size; have := h7_6.size; have := h6_4_1.size; have := h6_7_1.size; have := h7_6_1.size; omega) (oI h))).ch h10_8 (fun h => (show g8_8 ≠ g0_2 from by have := b0_2.lt; have := h0_3.size; have := d1.size; have := h_1.size; have := h1_10.size; have := h2_9.size; have := h2_10.size; have := h6_4.size; have := h6_7.size; have := h7_6.size; have := h6_4_1.size; have := h6_7_1.size; have := h7_6_1.size; omega) (oI h))).le h11_2).ch h13_6 (fun h => (show g8_8 ≠ g0_2 from by have := b0_2.lt; have := h0_3.size; have := d1.size; have := h_1.size; have := h1_10.size; have := h2_9.size; have := h2_10.size; have := h6_4.size; have := h6_7.size; have := h7_6.size; have := h6_4_1.size; have := h6_7_1.size; have := h7_6_1.size; omega) (oI h))).ch h14_5 (fun h => (show g8_8 ≠ g0_2 from by have := b0_2.lt; have := h0_3.size; have := d1.size; have := h_1.size; have := h1_10.size; have := h2_9.size; have := h2_10.size; have := h6_4.size; have := h6_7.size; have := h7_6.size; have := h6_4_1.size; have := h6_7_1.size; have := h7_6_1.size; omega) (oI h))).le d23).ch h23_3_1 (fun h => (show g0_1 ≠ g0_2 from by have := b0_1.lt; omega) (oI h)))
  refine GS.ef0 rfl rfl rfl rfl ?_
  refine Ef.storeAll sz47 (by rfl) rfl rfl f76 (by simp only [List.size_toArray, kit2V_row.len]) (kit2V_row.one (kitB p.s0, kitB p.s1)) ?_
  intro w23_4_1 b23_4_1 h23_4_1
  have b23_4_1 : Blk w23_4_1 g0_2 47 (kit2V (kitB p.s0, kitB p.s1)).toArray := b23_4_1
  have L77 := L72.tb h23_4_1 L2 hg0_2
  have f78 := (f73.ch h23_4_1 (fun h => (show g0_2 ≠ g2_9 from by have := b0_2.lt; have := h0_3.size; have := d1.size; have := h_1.size; have := h1_10.size; omega) (oI h)))
  have f79 := (f74.ch h23_4_1 (fun h => (show g0_2 ≠ g1_9 from by have := b0_2.lt; have := h0_3.size; have := d1.size; omega) (oI h)))
  have f80 := (f75.ch h23_4_1 (fun h => (show g0_2 ≠ g8_8 from by have := b0_2.lt; have := h0_3.size; have := d1.size; have := h_1.size; have := h1_10.size; have := h2_9.size; have := h2_10.size; have := h6_4.size; have := h6_7.size; have := h7_6.size; have := h6_4_1.size; have := h6_7_1.size; have := h7_6_1.size; omega) (oI h)))
  refine ⟨⟨L77, f78, f79, f80⟩, ?_⟩
  have f81 := ((((((((((((((((((((b0_3.le (d1.trans h_1)).ch h1_10 (fun h => (show g1_9 ≠ g0_3 from by have := b0_3.lt; have := d1.size; omega) (oI h))).le h2_9).ch h2_10 (fun h => (show g2_9 ≠ g0_3 from by have := b0_3.lt; have := d1.size; have := h_1.size; have := h1_10.size; omega) (oI h))).le h6_4).ch h6_7 (fun h => (show g2_9 ≠ g0_3 from by have := b0_3.lt; have := d1.size; have := h_1.size; have := h1_10.size; omega) (oI h))).ch h7_6 (fun h => (show g2_9 ≠ g0_3 from by have := b0_3.lt; have := d1.size; have := h_1.size; have := h1_10.size; omega) (oI h))).le h6_4_1).ch h6_7_1 (fun h => (show g2_9 ≠ g0_3 from by have := b0_3.lt; have := d1.size; have := h_1.size; have := h1_10.size; omega) (oI h))).ch h7_6_1 (fun h => (show g2_9 ≠ g0_3 from by have := b0_3.lt; have := d1.size; have := h_1.size; have := h1_10.size; omega) (oI h))).le h8_8).ch h8_9 (fun h => (show g8_8 ≠ g0_3 from by have := b0_3.lt; have := d1.size; have := h_1.size; have := h1_10.size; have := h2_9.size; have := h2_10.size; have := h6_4.size; have := h6_7.size; have := h7_6.size; have := h6_4_1.size; have := h6_7_1.size; have := h7_6_1.size; omega) (oI h))).ch h9_9 (fun h => (show g8_8 ≠ g0_3 from by have := b0_3.lt; have := d1.size; have := h_1.size; have := h1_10.size; have := h2_9.size; have := h2_10.size; have := h6_4.size; have := h6_7.size; have := h7_6.size; have := h6_4_1.size; have := h6_7_1.size; have := h7_6_1.size; omega) (oI h))).ch h10_8 (fun h => (show g8_8 ≠ g0_3 from by have := b0_3.lt; have := d1.size; have := h_1.size; have := h1_10.size; have := h2_9.size; have := h2_10.size; have := h6_4.size; have := h6_7.size; have := h7_6.size; have := h6_4_1.size; have := h6_7_1.size; have := h7_6_1.size; omega) (oI h))).le h11_2).ch h13_6 (fun h => (show g8_8 ≠ g0_3 from by have := b0_3.lt; have := d1.size; have := h_1.size; have := h1_10.size; have := h2_9.size; have := h2_10.size; have := h6_4.size; have := h6_7.size; have := h7_6.size; have := h6_4_1.size; have := h6_7_1.size; have := h7_6_1.size; omega) (oI h))).ch h14_5 (fun h => (show g8_8 ≠ g0_3 from by have := b0_3.lt; have := d1.size; have := h_1.size; have := h1_10.size; have := h2_9.size; have := h2_10.size; have := h6_4.size; have := h6_7.size; have := h7_6.size; have := h6_4_1.size; have := h6_7_1.size; have := h7_6_1.size; omega) (oI h))).le d23).ch h23_3_1 (fun h => (show g0_1 ≠ g0_3 from by have := b0_1.lt; have := h0_2.size; omega) (oI h))).ch h23_4_1 (fun h => (show g0_2 ≠ g0_3 from by have := b0_2.lt; omega) (oI h)))
  refine GS.ef0 rfl rfl rfl rfl ?_
  refine Ef.storeAll sz51 (by rfl) rfl rfl f81 (by rfl) (by simp [Value.oneCell']) ?_
  intro w23_5_1 b23_5_1 h23_5_1
  have b23_5_1 : Blk w23_5_1 g0_3 51 #[.int .i64 (((p.no : Nat) : Int)), .int .i64 ((20000 + ((p.am : Nat) : Int))), .int .i64 (0), .slice none 0 0, .int .i64 ((((p.ra : Nat) : Int) % 8))] := b23_5_1
  have L82 := L77.tb h23_5_1 L3 hg0_3
  have f83 := (f78.ch h23_5_1 (fun h => (show g0_3 ≠ g2_9 from by have := b0_3.lt; have := d1.size; have := h_1.size; have := h1_10.size; omega) (oI h)))
  have f84 := (f79.ch h23_5_1 (fun h => (show g0_3 ≠ g1_9 from by have := b0_3.lt; have := d1.size; omega) (oI h)))
  have f85 := (f80.ch h23_5_1 (fun h => (show g0_3 ≠ g8_8 from by have := b0_3.lt; have := d1.size; have := h_1.size; have := h1_10.size; have := h2_9.size; have := h2_10.size; have := h6_4.size; have := h6_7.size; have := h7_6.size; have := h6_4_1.size; have := h6_7_1.size; have := h7_6_1.size; omega) (oI h)))
  refine ⟨⟨L82, f83, f84, f85⟩, ?_⟩
  refine GS.nil ?_
  refine E.thenN (WC.ret ?_)
  have f86 := ((b23_3_1.ch h23_4_1 (fun h => (show g0_2 ≠ g0_1 from by have := b0_1.lt; omega) (oI h))).ch h23_5_1 (fun h => (show g0_3 ≠ g0_1 from by have := b0_1.lt; have := h0_2.size; omega) (oI h)))
  have f87 := (b23_4_1.ch h23_5_1 (fun h => (show g0_3 ≠ g0_2 from by have := b0_2.lt; omega) (oI h)))
  refine E.retG3 rfl (resA rfl f86 ag43 (by rfl)) (resA rfl f87 ag47 (by rfl)) (resA rfl b23_5_1 ag51 (by rfl)) ?_
  exact ⟨by unfold staB; rw [if_neg (by assumption), if_pos (by assumption)]; rfl, L82⟩
 refine W.a (.field0 fa43_4 rfl) ?_
 have f88 := (f37.le h11_2)
 refine W.r (.loadB (v := .int .i64 ((((p.op : Nat) : Int) % 2))) na3 rfl f88 rfl) ?_
 refine W.a (.field0 fa43_1 rfl) ?_
 refine W.r (.loadB (v := .int .i64 ((20000 + ((p.am : Nat) : Int)))) na3 rfl f88 rfl) ?_
 refine W.a (.field0 fa51_1 rfl) ?_
 refine W.a (.idxAo (1) underlying48 sz3 rfl rfl (by omega) (by omega)) ?_
 have f89 := (b10_8.le h11_2)
 refine W.ef0 rfl rfl ?_
 refine Ef.store sz3 rfl rfl f89 (by first | decide | (simp; done)) (rfl) ?_
 intro w13_6_1 b13_6_1 h13_6_1
 have b13_6_1 : Blk w13_6_1 g8_8 51 #[.int .i64 (((p.no : Nat) : Int)), .int .i64 ((((p.ow : Nat) : Int) % ((20000 + ((p.am : Nat) : Int)) + 1))), .int .i64 ((20000 + ((p.am : Nat) : Int))), .slice none 0 0, .int .i64 ((((p.ra : Nat) : Int) % 8))] := b13_6_1
 have L90 := L38.tb h13_6_1 L28 hg8_8
 refine W.nx (WC.region ?_)
 refine W.a (.field0 fa43_4 rfl) ?_
 have f91 := (f88.ch h13_6_1 (fun h => (show g8_8 ≠ g2_9 from by have := b7_6_1.lt; omega) (oI h)))
 refine W.r (.loadB (v := .int .i64 ((((p.op : Nat) : Int) % 2))) na3 rfl f91 rfl) ?_
 refine W.a (.sub rfl rfl (by omega)) ?_
 refine W.a (.field0 fa51_1 rfl) ?_
 refine W.a (.idxAo (0) underlying48 sz3 rfl rfl (by omega) (by omega)) ?_
 refine W.ef0 rfl rfl ?_
 refine Ef.store sz3 rfl rfl b13_6_1 (by first | decide | (simp; done)) (rfl) ?_
 intro w14_5_1 b14_5_1 h14_5_1
 have b14_5_1 : Blk w14_5_1 g8_8 51 #[.int .i64 (((p.no : Nat) : Int)), .int .i64 (0), .int .i64 ((20000 + ((p.am : Nat) : Int))), .slice none 0 0, .int .i64 ((((p.ra : Nat) : Int) % 8))] := b14_5_1
 have L92 := L90.tb h14_5_1 L28 hg8_8
 refine W.nx (WC.seq (WC.sr (W.run 1 rfl (W.nx (WC.block ?_)))))
 refine WC.rounds 1 ?_
 refine RCn.step ?_
 refine WC.seq (WC.sr (W.run 1 rfl ?_))
 refine W.a (.field0 fa29_5 rfl) ?_
 have f93 := (((((f32.ch h9_9 (fun h => (show g8_8 ≠ g0_0 from by have := f29.lt; omega) (oI h))).ch h10_8 (fun h => (show g8_8 ≠ g0_0 from by have := f29.lt; omega) (oI h))).le h11_2).ch h13_6_1 (fun h => (show g8_8 ≠ g0_0 from by have := f29.lt; omega) (oI h))).ch h14_5_1 (fun h => (show g8_8 ≠ g0_0 from by have := f29.lt; omega) (oI h)))
 refine W.r (.loadB (v := .slice p.oa p.on p.oc) na26 rfl f93 rfl) ?_
 refine W.r (.len underlying26 rfl) ?_
 refine W.a (.dec (.lss rfl rfl) (dF (by omega))) ?_
 refine W.run 4 rfl (W.nx (WC.condF rfl (WC.exit (E.thenX (E.thenX (E.blkH (E.thenN (WC.seq ?_))))))))
 refine WC.drawS (fun w23 w' => Le w w' /\ Blk w' g2_9 43 #[.int .u8 (0), .int .u8 (0), .int .u8 (0), .int .u8 (0), .int .u8 (0), .int .u8 (0), .int .u8 (0), .int .u8 (0), .int .u8 (0), .int .u8 (0), .int .u8 (0), .int .u8 (0), .int .u8 (0), .int .u8 (0), .int .u8 (0), .int .u8 (0), .int .u8 (0), .int .u8 (0), .int .u8 (0), .int .u8 (0), .int .u8 (0), .int .u8 (0), .int .u8 (0), .int .u8 (0), .int .u8 (0), .int .u8 (0), .int .u8 (0), .int .u8 (0), .int .u8 (0), .int .u8 (0), .int .u8 (0), .int .u8 (0), .int .i64 (0), .int .i64 ((20000 + ((p.am : Nat) : Int))), .int .u64 ((((basB ((kitB p.s0, kitB p.s1).1)).f : Nat) : Int)), .int .u64 ((((basB ((kitB p.s0, kitB p.s1).1)).p : Nat) : Int)), .int .u64 ((((basB ((kitB p.s0, kitB p.s1).1)).l : Nat) : Int)), .int .u64 ((((basB ((kitB p.s0, kitB p.s1).1)).c : Nat) : Int)), .int .u64 ((((basB ((kitB p.s0, kitB p.s1).1)).r : Nat) : Int)), .int .u64 ((((basB ((kitB p.s0, kitB p.s1).2)).f : Nat) : Int)), .int .u64 ((((basB ((kitB p.s0, kitB p.s1).2)).p : Nat) : Int)), .int .u64 ((((basB ((kitB p.s0, kitB p.s1).2)).l : Nat) : Int)), .int .u64 ((((basB ((kitB p.s0, kitB p.s1).2)).c : Nat) : Int)), .int .u64 ((((basB ((kitB p.s0, kitB p.s1).2)).r : Nat) : Int)), .int .i64 (100), .int .i64 (200), .int .i64 (5), .int .i64 (16), .int .i64 (1), .int .i64 (1125899906842624), .int .i64 (100), .int .i64 (200), .int .i64 (6), .int .i64 (16), .int .i64 (1), .int .i64 (1125899906842624), .int .i64 ((((p.op : Nat) : Int) % 2))] /\ Blk w' g1_9 47 (kit2V (kitB p.s0, kitB p.s1)).toArray /\ Blk w' g8_8 51 #[.int .i64 (((p.no : Nat) : Int)), .int .i64 (0), .int .i64 ((20000 + ((p.am : Nat) : Int))), .slice none 0 0, .int .i64 ((((p.ra : Nat) : Int) % 8))]) [0, 1, 2, 3, 4, 5] mixed (by kernel_rfl) ?_
 intro w23 d23
 have L94 := L92.trans d23
 have f95 := ((f91.ch h14_5_1 (fun h => (show g8_8 ≠ g2_9 from by have := b7_6_1.lt; omega) (oI h))).le d23)
 have f96 := (((((((((((f24.le h6_4_1).ch h6_7_1 (fun h => (show g2_9 ≠ g1_9 from by have := b1_10.lt; omega) (oI h))).ch h7_6_1 (fun h => (show g2_9 ≠ g1_9 from by have := b1_10.lt; omega) (oI h))).le h8_8).ch h8_9 (fun h => (show g8_8 ≠ g1_9 from by have := f24.lt; have := h6_4_1.size; have := h6_7_1.size; have := h7_6_1.size; omega) (oI h))).ch h9_9 (fun h => (show g8_8 ≠ g1_9 from by have := f24.lt; have := h6_4_1.size; have := h6_7_1.size; have := h7_6_1.size; omega) (oI h))).ch h10_8 (fun h => (show g8_8 ≠ g1_9 from by have := f24.lt; have := h6_4_1.size; have := h6_7_1.size; have := h7_6_1.size; omega) (oI h))).le h11_2).ch h13_6_1 (fun h => (show g8_8 ≠ g1_9 from by have := f24.lt; have := h6_4_1.size; have := h6_7_1.size; have := h7_6_1.size; omega) (oI h))).ch h14_5_1 (fun h => (show g8_8 ≠ g1_9 from by have := f24.lt; have := h6_4_1.size; have := h6_7_1.size; have := h7_6_1.size; omega) (oI h))).le d23)
 have f97 := (b14_5_1.le d23)
 refine ⟨⟨L94, f95, f96, f97⟩, ?_⟩
 refine GS.rd rfl rfl (fun w' hs => .loadAll ag43 (by rfl) rfl hs.2.1) rfl rfl rfl ?_
 refine GS.rd rfl rfl (fun w' hs => .loadAll ag47 (by rfl) rfl hs.2.2.1) rfl rfl rfl ?_
 refine GS.rd rfl rfl (fun w' hs => .loadAll ag51 (by rfl) rfl hs.2.2.2) rfl rfl rfl ?_
 have f98 := ((((((((((((((((((b0_1.le (h0_2.trans (h0_3.trans (d1.trans h_1)))).ch h1_10 (fun h => (show g1_9 ≠ g0_1 from by have := b0_1.lt; have := h0_2.size; have := h0_3.size; have := d1.size; omega) (oI h))).le h2_9).ch h2_10 (fun h => (show g2_9 ≠ g0_1 from by have := b0_1.lt; have := h0_2.size; have := h0_3.size; have := d1.size; have := h_1.size; have := h1_10.size; omega) (oI h))).le h6_4).ch h6_7 (fun h => (show g2_9 ≠ g0_1 from by have := b0_1.lt; have := h0_2.size; have := h0_3.size; have := d1.size; have := h_1.size; have := h1_10.size; omega) (oI h))).ch h7_6 (fun h => (show g2_9 ≠ g0_1 from by have := b0_1.lt; have := h0_2.size; have := h0_3.size; have := d1.size; have := h_1.size; have := h1_10.size; omega) (oI h))).le h6_4_1).ch h6_7_1 (fun h => (show g2_9 ≠ g0_1 from by have := b0_1.lt; have := h0_2.size; have := h0_3.size; have := d1.size; have := h_1.size; have := h1_10.size; omega) (oI h))).ch h7_6_1 (fun h => (show g2_9 ≠ g0_1 from by have := b0_1.lt; have := h0_2.size; have := h0_3.size; have := d1.size; have := h_1.size; have := h1_10.size; omega) (oI h))).le h8_8).ch h8_9 (fun h => (show g8_8 ≠ g0_1 from by have := b0_1.lt; have := h0_2.size; have := h0_3.size; have := d1.size; have := h_1.size; have := h1_10.size; have := h2_9.size; have := h2_10.size; have := h6_4.size; have := h6_7.size; have := h7_6.size; have := h6_4_1.size; have := h6_7_1.size; have := h7_6_1.size; omega) (oI h))).ch h9_9 (fun h => (show g8_8 ≠ g0_1 from by have := b0_1.lt; have := h0_2.size; have := h0_3.size; have := d1.size; have := h_1.size; have := h1_10.size; have := h2_9.size; have := h2_10.size; have := h6_4.size; have := h6_7.size; have := h7_6.size; have := h6_4_1.size; have := h6_7_1.size; have := h7_6_1.size; omega) (oI h))).ch h10_8 (fun h => (show g8_8 ≠ g0_1 from by have := b0_1.lt; have := h0_2.size; have := h0_3.size; have := d1.size; have := h_1.size; have := h1_10.size; have := h2_9.size; have := h2_10.size; have := h6_4.size; have := h6_7.size; have := h7_6.size; have := h6_4_1.size; have := h6_7_1.size; have := h7_6_1.size; omega) (oI h))).le h11_2).ch h13_6_1 (fun h => (show g8_8 ≠ g0_1 from by have := b0_1.lt; have := h0_2.size; have := h0_3.size; have := d1.size; have := h_1.size; have := h1_10.size; have := h2_9.size; have := h2_10.size; have := h6_4.size; have := h6_7.size; have := h7_6.size; have := h6_4_1.size; have := h6_7_1.size; have := h7_6_1.size; omega) (oI h))).ch h14_5_1 (fun h => (show g8_8 ≠ g0_1 from by have := b0_1.lt; have := h0_2.size; have := h0_3.size; have := d1.size; have := h_1.size; have := h1_10.size; have := h2_9.size; have := h2_10.size; have := h6_4.size; have := h6_7.size; have := h7_6.size; have := h6_4_1.size; have := h6_7_1.size; have := h7_6_1.size; omega) (oI h))).le d23)
 refine GS.ef0 rfl rfl rfl rfl ?_
 refine Ef.storeAll sz43 (by rfl) rfl rfl f98 (by rfl) (by simp [Value.oneCell']) ?_
 intro w23_3_2 b23_3_2 h23_3_2
 have b23_3_2 : Blk w23_3_2 g0_1 43 #[.int .u8 (0), .int .u8 (0), .int .u8 (0), .int .u8 (0), .int .u8 (0), .int .u8 (0), .int .u8 (0), .int .u8 (0), .int .u8 (0), .int .u8 (0), .int .u8 (0), .int .u8 (0), .int .u8 (0), .int .u8 (0), .int .u8 (0), .int .u8 (0), .int .u8 (0), .int .u8 (0), .int .u8 (0), .int .u8 (0), .int .u8 (0), .int .u8 (0), .int .u8 (0), .int .u8 (0), .int .u8 (0), .int .u8 (0), .int .u8 (0), .int .u8 (0), .int .u8 (0), .int .u8 (0), .int .u8 (0), .int .u8 (0), .int .i64 (0), .int .i64 ((20000 + ((p.am : Nat) : Int))), .int .u64 ((((basB ((kitB p.s0, kitB p.s1).1)).f : Nat) : Int)), .int .u64 ((((basB ((kitB p.s0, kitB p.s1).1)).p : Nat) : Int)), .int .u64 ((((basB ((kitB p.s0, kitB p.s1).1)).l : Nat) : Int)), .int .u64 ((((basB ((kitB p.s0, kitB p.s1).1)).c : Nat) : Int)), .int .u64 ((((basB ((kitB p.s0, kitB p.s1).1)).r : Nat) : Int)), .int .u64 ((((basB ((kitB p.s0, kitB p.s1).2)).f : Nat) : Int)), .int .u64 ((((basB ((kitB p.s0, kitB p.s1).2)).p : Nat) : Int)), .int .u64 ((((basB ((kitB p.s0, kitB p.s1).2)).l : Nat) : Int)), .int .u64 ((((basB ((kitB p.s0, kitB p.s1).2)).c : Nat) : Int)), .int .u64 ((((basB ((kitB p.s0, kitB p.s1).2)).r : Nat) : Int)), .int .i64 (100), .int .i64 (200), .int .i64 (5), .int .i64 (16), .int .i64 (1), .int .i64 (1125899906842624), .int .i64 (100), .int .i64 (200), .int .i64 (6), .int .i64 (16), .int .i64 (1), .int .i64 (1125899906842624), .int .i64 ((((p.op : Nat) : Int) % 2))] := b23_3_2
 have L99 := L94.tb h23_3_2 L1 hg0_1
 have f100 := (f95.ch h23_3_2 (fun h => (show g0_1 ≠ g2_9 from by have := b0_1.lt; have := h0_2.size; have := h0_3.size; have := d1.size; have := h_1.size; have := h1_10.size; omega) (oI h)))
 have f101 := (f96.ch h23_3_2 (fun h => (show g0_1 ≠ g1_9 from by have := b0_1.lt; have := h0_2.size; have := h0_3.size; have := d1.size; omega) (oI h)))
 have f102 := (f97.ch h23_3_2 (fun h => (show g0_1 ≠ g8_8 from by have := b0_1.lt; have := h0_2.size; have := h0_3.size; have := d1.size; have := h_1.size; have := h1_10.size; have := h2_9.size; have := h2_10.size; have := h6_4.size; have := h6_7.size; have := h7_6.size; have := h6_4_1.size; have := h6_7_1.size; have := h7_6_1.size; omega) (oI h)))
 refine ⟨⟨L99, f100, f101, f102⟩, ?_⟩
 have f103 := (((((((((((((((((((b0_2.le (h0_3.trans (d1.trans h_1))).ch h1_10 (fun h => (show g1_9 ≠ g0_2 from by have := b0_2.lt; have := h0_3.size; have := d1.size; omega) (oI h))).le h2_9).ch h2_10 (fun h => (show g2_9 ≠ g0_2 from by have := b0_2.lt; have := h0_3.size; have := d1.size; have := h_1.size; have := h1_10.size; omega) (oI h))).le h6_4).ch h6_7 (fun h => (show g2_9 ≠ g0_2 from by have := b0_2.lt; have := h0_3.size; have := d1.size; have := h_1.size; have := h1_10.size; omega) (oI h))).ch h7_6 (fun h => (show g2_9 ≠ g0_2 from by have := b0_2.lt; have := h0_3.size; have := d1.size; have := h_1.size; have := h1_10.size; omega) (oI h))).le h6_4_1).ch h6_7_1 (fun h => (show g2_9 ≠ g0_2 from by have := b0_2.lt; have := h0_3.size; have := d1.size; have := h_1.size; have := h1_10.size; omega) (oI h))).ch h7_6_1 (fun h => (show g2_9 ≠ g0_2 from by have := b0_2.lt; have := h0_3.size; have := d1.size; have := h_1.size; have := h1_10.size; omega) (oI h))).le h8_8).ch h8_9 (fun h => (show g8_8 ≠ g0_2 from by have := b0_2.lt; have := h0_3.size; have := d1.size; have := h_1.size; have := h1_10.size; have := h2_9.size; have := h2_10.size; have := h6_4.size; have := h6_7.size; have := h7_6.size; have := h6_4_1.size; have := h6_7_1.size; have := h7_6_1.size; omega) (oI h))).ch h9_9 (fun h => (show g8_8 ≠ g0_2 from by have := b0_2.lt; have := h0_3.size; have := d1.size; have := h_1.size; have := h1_10.size; have := h2_9.size; have := h2_10.size; have := h6_4.size; have := h6_7.size; have := h7_6.size; have := h6_4_1.size; have := h6_7_1.size; have := h7_6_1.size; omega) (oI h))).ch h10_8 (fun h => (show g8_8 ≠ g0_2 from by have := b0_2.lt; have := h0_3.size; have := d1.size; have := h_1.size; have := h1_10.size; have := h2_9.size; have := h2_10.size; have := h6_4.size; have := h6_7.size; have := h7_6.size; have := h6_4_1.size; have := h6_7_1.size; have := h7_6_1.size; omega) (oI h))).le h11_2).ch h13_6_1 (fun h => (show g8_8 ≠ g0_2 from by have := b0_2.lt; have := h0_3.size; have := d1.size; have := h_1.size; have := h1_10.size; have := h2_9.size; have := h2_10.size; have := h6_4.size; have := h6_7.size; have := h7_6.size; have := h6_4_1.size; have := h6_7_1.size; have := h7_6_1.size; omega) (oI h))).ch h14_5_1 (fun h => (show g8_8 ≠ g0_2 from by have := b0_2.lt; have := h0_3.size; have := d1.size; have := h_1.size; have := h1_10.size; have := h2_9.size; have := h2_10.size; have := h6_4.size; have := h6_7.size; have := h7_6.size; have := h6_4_1.size; have := h6_7_1.size; have := h7_6_1.size; omega) (oI h))).le d23).ch h23_3_2 (fun h => (show g0_1 ≠ g0_2 from by have := b0_1.lt; omega) (oI h)))
 refine GS.ef0 rfl rfl rfl rfl ?_
 refine Ef.storeAll sz47 (by rfl) rfl rfl f103 (by simp only [List.size_toArray, kit2V_row.len]) (kit2V_row.one (kitB p.s0, kitB p.s1)) ?_
 intro w23_4_2 b23_4_2 h23_4_2
 have b23_4_2 : Blk w23_4_2 g0_2 47 (kit2V (kitB p.s0, kitB p.s1)).toArray := b23_4_2
 have L104 := L99.tb h23_4_2 L2 hg0_2
 have f105 := (f100.ch h23_4_2 (fun h => (show g0_2 ≠ g2_9 from by have := b0_2.lt; have := h0_3.size; have := d1.size; have := h_1.size; have := h1_10.size; omega) (oI h)))
 have f106 := (f101.ch h23_4_2 (fun h => (show g0_2 ≠ g1_9 from by have := b0_2.lt; have := h0_3.size; have := d1.size; omega) (oI h)))
 have f107 := (f102.ch h23_4_2 (fun h => (show g0_2 ≠ g8_8 from by have := b0_2.lt; have := h0_3.size; have := d1.size; have := h_1.size; have := h1_10.size; have := h2_9.size; have := h2_10.size; have := h6_4.size; have := h6_7.size; have := h7_6.size; have := h6_4_1.size; have := h6_7_1.size; have := h7_6_1.size; omega) (oI h)))
 refine ⟨⟨L104, f105, f106, f107⟩, ?_⟩
 have f108 := ((((((((((((((((((((b0_3.le (d1.trans h_1)).ch h1_10 (fun h => (show g1_9 ≠ g0_3 from by have := b0_3.lt; have := d1.size; omega) (oI h))).le h2_9).ch h2_10 (fun h => (show g2_9 ≠ g0_3 from by have := b0_3.lt; have := d1.size; have := h_1.size; have := h1_10.size; omega) (oI h))).le h6_4).ch h6_7 (fun h => (show g2_9 ≠ g0_3 from by have := b0_3.lt; have := d1.size; have := h_1.size; have := h1_10.size; omega) (oI h))).ch h7_6 (fun h => (show g2_9 ≠ g0_3 from by have := b0_3.lt; have := d1.size; have := h_1.size; have := h1_10.size; omega) (oI h))).le h6_4_1).ch h6_7_1 (fun h => (show g2_9 ≠ g0_3 from by have := b0_3.lt; have := d1.size; have := h_1.size; have := h1_10.size; omega) (oI h))).ch h7_6_1 (fun h => (show g2_9 ≠ g0_3 from by have := b0_3.lt; have := d1.size; have := h_1.size; have := h1_10.size; omega) (oI h))).le h8_8).ch h8_9 (fun h => (show g8_8 ≠ g0_3 from by have := b0_3.lt; have := d1.size; have := h_1.size; have := h1_10.size; have := h2_9.size; have := h2_10.size; have := h6_4.size; have := h6_7.size; have := h7_6.size; have := h6_4_1.size; have := h6_7_1.size; have := h7_6_1.size; omega) (oI h))).ch h9_9 (fun h => (show g8_8 ≠ g0_3 from by have := b0_3.lt; have := d1.size; have := h_1.size; have := h1_10.size; have := h2_9.size; have := h2_10.size; have := h6_4.size; have := h6_7.size; have := h7_6.size; have := h6_4_1.size; have := h6_7_1.size; have := h7_6_1.size; omega) (oI h))).ch h10_8 (fun h => (show g8_8 ≠ g0_3 from by have := b0_3.lt; have := d1.size; have := h_1.size; have := h1_10.size; have := h2_9.size; have := h2_10.size; have := h6_4.size; have := h6_7.size; have := h7_6.size; have := h6_4_1.size; have := h6_7_1.size; have := h7_6_1.size; omega) (oI h))).le h11_2).ch h13_6_1 (fun h => (show g8_8 ≠ g0_3 from by have := b0_3.lt; have := d1.size; have := h_1.size; have := h1_10.size; have := h2_9.size; have := h2_10.size; have := h6_4.size; have := h6_7.size; have := h7_6.size; have := h6_4_1.size; have := h6_7_1.size; have := h7_6_1.size; omega) (oI h))).ch h14_5_1 (fun h => (show g8_8 ≠ g0_3 from by have := b0_3.lt; have := d1.size; have := h_1.size; have := h1_10.size; have := h2_9.size; have := h2_10.size; have := h6_4.size; have := h6_7.size; have := h7_6.size; have := h6_4_1.size; have := h6_7_1.size; have := h7_6_1.size; omega) (oI h))).le d23).ch h23_3_2 (fun h => (show g0_1 ≠ g0_3 from by have := b0_1.lt; have := h0_2.size; omega) (oI h))).ch h23_4_2 (fun h => (show g0_2 ≠ g0_3 from by have := b0_2.lt; omega) (oI h)))
 refine GS.ef0 rfl rfl rfl rfl ?_
 refine Ef.storeAll sz51 (by rfl) rfl rfl f108 (by rfl) (by simp [Value.oneCell']) ?_
 intro w23_5_2 b23_5_2 h23_5_2
 have b23_5_2 : Blk w23_5_2 g0_3 51 #[.int .i64 (((p.no : Nat) : Int)), .int .i64 (0), .int .i64 ((20000 + ((p.am : Nat) : Int))), .slice none 0 0, .int .i64 ((((p.ra : Nat) : Int) % 8))] := b23_5_2
 have L109 := L104.tb h23_5_2 L3 hg0_3
 have f110 := (f105.ch h23_5_2 (fun h => (show g0_3 ≠ g2_9 from by have := b0_3.lt; have := d1.size; have := h_1.size; have := h1_10.size; omega) (oI h)))
 have f111 := (f106.ch h23_5_2 (fun h => (show g0_3 ≠ g1_9 from by have := b0_3.lt; have := d1.size; omega) (oI h)))
 have f112 := (f107.ch h23_5_2 (fun h => (show g0_3 ≠ g8_8 from by have := b0_3.lt; have := d1.size; have := h_1.size; have := h1_10.size; have := h2_9.size; have := h2_10.size; have := h6_4.size; have := h6_7.size; have := h7_6.size; have := h6_4_1.size; have := h6_7_1.size; have := h7_6_1.size; omega) (oI h)))
 refine ⟨⟨L109, f110, f111, f112⟩, ?_⟩
 refine GS.nil ?_
 refine E.thenN (WC.ret ?_)
 have f113 := ((b23_3_2.ch h23_4_2 (fun h => (show g0_2 ≠ g0_1 from by have := b0_1.lt; omega) (oI h))).ch h23_5_2 (fun h => (show g0_3 ≠ g0_1 from by have := b0_1.lt; have := h0_2.size; omega) (oI h)))
 have f114 := (b23_4_2.ch h23_5_2 (fun h => (show g0_3 ≠ g0_2 from by have := b0_2.lt; omega) (oI h)))
 refine E.retG3 rfl (resA rfl f113 ag43 (by rfl)) (resA rfl f114 ag47 (by rfl)) (resA rfl b23_5_2 ag51 (by rfl)) ?_
 exact ⟨by unfold staB; rw [if_neg (by assumption), if_neg (by assumption)]; rfl, L109⟩
end Go.Proofs.YtgpaekbdbpkogaaGreat

namespace Go.Sx
theorem Any.quo8 {P : Program} {env : Env} {n : Nat} {d : Option Nat} {T : TypeId} {p : String} {af : Array Edge} {g : Option (Nat × Bool)} {t ty : TypeId} {x y : Operand} {a b : Nat} (hx : ev env x = some (.int .u8 (a : Int))) (hy : ev env y = some (.int .u8 (b : Int))) (ha : a < 256) (hb : 1 <= b) :
    Any P env n ⟨d, .binOp .quo t x y ty, T, p, af, g⟩ (.int .u8 ((a / b : Nat) : Int)) := .int hx hy fun w => by
  have h0 : b ≠ 0 := by omega
  have h1 : ((a : Int)).tdiv (b : Int) = (a : Int) / (b : Int) := by rw [Int.tdiv_eq_ediv_of_nonneg (by omega)]
  have h2 : a / b <= a := Nat.div_le_self a b
  have h3 : IntKind.u8.wrap ((a : Int) / (b : Int)) = (a : Int) / (b : Int) := by rw [<- Int.natCast_ediv, wrap_u8_nat, BitVec.toNat_ofNat, Nat.mod_eq_of_lt (by omega)]
  simp [binOp, Op.intDiv, h0, h1, h3]
end Go.Sx
namespace Go.Proofs.YtgpaekbdbpkogaaGreat
open Tryz
open Go Go.Sx Go.Hsp Go.Num Go.Osp Go.Gsp Go.Lsp Go.Shp
set_option maxRecDepth 20000
theorem blk_ty {w : World} {g t t' : Nat} {cs cs' : Array Value} (h : Blk w g t cs) (h' : Blk w g t' cs') : t = t' := by
  have e1 : w.heap[g]? = _ := h
  have e2 : w.heap[g]? = _ := h'
  rw [e1] at e2
  injection e2 with e3
  injection e3
theorem LPool.ty_row {w : World} {base gp : Nat} {F : Nat -> Prop} {s : Led} {b e sz n c : Nat} {α : Type} {f : α -> List Value} {A : Option Addr} {xs : List α} (h : LPool w base gp F s) (ho : OVec w b e f sz A n c xs) (h1 : 100 ≠ e) (h2 : 3 ≠ e) : ∀ g, rowOf A c = some g -> ¬ F g := fun g hg hF => by
  obtain ⟨gs, gh, B, d, hL, _, hF', _⟩ := h
  have hrow : ∃ cs, Blk w g e cs := by
    rcases ho.2.2 with ⟨rfl, rfl⟩ | ⟨g', cur, rfl, hb, hh, _⟩
    · rw [rowOf_zero] at hg; cases hg
    · rw [rowOf_lit hg]; exact ⟨_, hh⟩
  obtain ⟨cs, hB⟩ := hrow
  rcases (hF' g).1 hF with hk | hk | hk | hk
  · subst hk; exact h1 (blk_ty hL.hp hB)
  · subst hk; have e1 := hL.hS.1; have e2 : w.heap[_]? = _ := hB; rw [e1] at e2; cases e2
  · subst hk; have e1 := hL.hH.1; have e2 : w.heap[_]? = _ := hB; rw [e1] at e2; cases e2
  · exact OVec.ne_blk hL.hO hB h2 hk
theorem LPool.ty_blk {w : World} {base gp : Nat} {F : Nat -> Prop} {s : Led} {g t : Nat} {cs : Array Value} (h : LPool w base gp F s) (hB : Blk w g t cs) (h1 : 100 ≠ t) (h2 : 3 ≠ t) : ¬ F g := fun hF => by
  obtain ⟨gs, gh, B, d, hL, _, hF', _⟩ := h
  rcases (hF' g).1 hF with hk | hk | hk | hk
  · subst hk; exact h1 (blk_ty hL.hp hB)
  · subst hk; have e1 := hL.hS.1; have e2 : w.heap[_]? = _ := hB; rw [e1] at e2; cases e2
  · subst hk; have e1 := hL.hH.1; have e2 : w.heap[_]? = _ := hB; rw [e1] at e2; cases e2
  · exact OVec.ne_blk hL.hO hB h2 hk
structure Ofr where
  fr : Nat
  am : Nat
  ex : Nat
  se : Nat
def noOfr : Ofr := ⟨0, 0, 0, 0⟩
def ofrV (x : Ofr) : List Value := [.int .u8 ((x.fr : Nat) : Int), .int .u16 ((x.am : Nat) : Int), .int .u16 ((x.ex : Nat) : Int), .int .u64 ((x.se : Nat) : Int)]
theorem ofrV_row : RowF ofrV 4 := ⟨fun _ => rfl, fun x v hv => by simp [ofrV] at hv; rcases hv with rfl | rfl | rfl | rfl <;> rfl, by decide⟩
theorem plyV_row : RowF plyV 102 := ⟨fun p => by simp [plyV, h32V], fun x v hv => by
  unfold plyV at hv
  rcases List.mem_append.1 hv with hv | hv
  · rcases List.mem_append.1 hv with hv | hv
    · exact (List.mem_append.1 hv).elim (h32_one _ v) (h32_one _ v)
    · simp only [List.mem_cons, List.not_mem_nil, or_false] at hv; rcases hv with rfl | rfl | rfl | rfl | rfl | rfl <;> rfl
  · exact h32_one _ v hv, by decide⟩
theorem chnV_row : RowF chnV 57 := ⟨fun p => by simp [chnV], fun x v hv => by
  unfold chnV at hv
  rcases List.mem_append.1 hv with hv | hv
  · rw [List.eq_of_mem_replicate hv]; rfl
  · simp only [List.mem_cons, List.not_mem_nil, or_false] at hv; rcases hv with rfl | rfl | rfl | rfl | rfl | rfl | rfl | rfl | rfl | rfl | rfl | rfl | rfl | rfl | rfl | rfl | rfl | rfl | rfl | rfl | rfl | rfl | rfl | rfl | rfl <;> rfl, by decide⟩
def nof (p : Ply) : Ply := { p with oa := none, on := 0, oc := 0 }
def OfrOk (x : Ofr) : Prop := x.fr < 256 /\ x.am < 65536 /\ x.ex < 65536 /\ x.se < 18446744073709551616
def secO (x : Ofr) : Nat := 1 + x.se % 2305843009213688668
def cdO (x : Ofr) (k : Nat) : Cnd := ⟨((x.fr : Nat) : Int) % 2, ((k : Nat) : Int) + 1, 1 + ((x.am : Nat) : Int), base (secO x), 1 + ((x.ex : Nat) : Int)⟩
theorem fine_cd {x : Ofr} (h : OfrOk x) {k : Nat} (hk : k < 100) : FineC (cdO x k) := by
  obtain ⟨h1, h2, h3, h4⟩ := h
  refine ⟨by show 0 <= ((x.fr : Nat) : Int) % 2 /\ ((x.fr : Nat) : Int) % 2 <= 1; omega, by show 1 <= ((k : Nat) : Int) + 1 /\ ((k : Nat) : Int) + 1 <= 1048576; omega, by show 1 <= 1 + ((x.am : Nat) : Int) /\ 1 + ((x.am : Nat) : Int) <= 1125899906842624; omega, by show 1 <= 1 + ((x.ex : Nat) : Int) /\ 1 + ((x.ex : Nat) : Int) <= 1048576; omega, right_base _, base_ne_one ?_⟩
  show (1 + x.se % 2305843009213688668) % 2305843009213688669 ≠ 0
  omega
theorem rel0 {am op : Int} {s : Sta} (h : RightS am op s) (hn : s.cs = []) : newOk [s.h0, s.h1] /\ (openL ⟨[s.h0, s.h1], [], 0, [], 0, 0⟩ ⟨0, 0, 1, s.h0, s.h1⟩ 0).2 = 0 /\ RelS s (openL ⟨[s.h0, s.h1], [], 0, [], 0, 0⟩ ⟨0, 0, 1, s.h0, s.h1⟩ 0).1 := by
  have h0 := h.h0_
  have h1 := h.h1_
  have ht := h.tot
  have hp := h.top
  rw [hn] at ht
  have hz : sumC [] = 0 := rfl
  rw [hz] at ht
  obtain ⟨k1, k2⟩ := new_rel s.no s.rt h0 h1
  refine ⟨⟨by simp, fun x hx => by simp at hx; rcases hx with rfl | rfl <;> omega, by simp; omega⟩, k1, ?_⟩
  have e : s = ⟨s.no, s.h0, s.h1, [], s.rt⟩ := by rw [<- hn]
  rw [<- e] at k2
  exact k2
theorem add_next {s : Sta} {L : Led} {am op : Int} {c : Cnd} {k : Nat} (hL : RelS s L) (hr : RightS am op s) (hop : 0 <= op /\ op <= 1) (hg : GoodL L) (ha : AddOk op s c) (hp : PutAt s.cs c k) : RightS am op (Shp.addS s c k) /\ (offerL L 0 c.fr c.id c.am c.pt).2 = 0 /\ RelS (Shp.addS s c k) (offerL L 0 c.fr c.id c.am c.pt).1 :=
  ⟨add_right hr hop ha hp, hL.offer hr hg ha hp⟩
theorem secret21_ok (a : Ofr) (ha : OfrOk a) (w : World) : Calls prog 9 #[.agg (ofrV a).toArray] w fun r w' => r = .returned (.int .u64 ((secO a : Nat) : Int)) /\ Le w w' := by
 have hse := ha.2.2.2
 refine enter func9 rfl rfl ?_
 have L0 := Le.refl w
 refine WC.sr (W.ef rfl rfl rfl ?_)
 refine Ef.boxA rfl ?_
 intro g0_0 w0_0 hg0_0 b0_0 h0_0
 have L1 := L0.trans h0_0
 have b0_0 : Blk w0_0 g0_0 62 (ofrV a).toArray := b0_0
 refine W.run 1 rfl (W.nx (WC.sr ?_))
 refine W.a (.field0 fa62_3 rfl) ?_
 refine W.r (.loadB (v := .int .u64 (((a.se : Nat) : Int))) na44 rfl b0_0 rfl) ?_
 refine W.a (.remN a.se 2305843009213688668 (a.se % 2305843009213688668) rfl rfl rfl rfl (by omega) (rfl)) ?_
 refine W.a (.addN 1 (a.se % 2305843009213688668) (secO a) rfl rfl rfl rfl (by unfold secO; omega)) ?_
 refine W.run 1 rfl (W.nx (WC.ret ?_))
 refine E.retG1 rfl rfl ?_
 exact ⟨rfl, L1⟩

set_option maxHeartbeats 4000000 in
theorem LedgerSheets_ok (p : Ply) (hp : PlyOk p) {os : List Ofr} (hof : ∀ o ∈ os, OfrOk o) {n : Nat} (hon : p.on = n) {Ae : Option Addr} {ne ce : Nat} {es : List Byte} (w : World) (hO : Vec w ofrV 4 p.oa p.on os) (hE : Vec w byteV 1 Ae ne es) : Calls prog 3 #[.agg (plyV p).toArray, .slice Ae ne ce] w fun r w' => r = .returned (.bool true) /\ Le w w' := by
 have hpn : PlyOk (nof p) := ⟨hp.s0, hp.s1, hp.am, hp.ow, hp.ra, hp.op, hp.no⟩
 have hol := hO.1; have hel := hE.1; have hch := chB_ok hpn; have hrB := staB_right hpn; have hrel := rel0 hrB (staB_cs (nof p)); have hop := hch.op
 refine enter func3 rfl rfl ?_
 have L0 := Le.refl w
 refine WC.sr (W.ef rfl rfl rfl ?_)
 refine Ef.boxA rfl ?_
 intro g0_0 w0_0 hg0_0 b0_0 h0_0
 have L1 := L0.trans h0_0
 have b0_0 : Blk w0_0 g0_0 29 (plyV p).toArray := b0_0
 refine W.run 1 rfl (W.nx (WC.sr ?_))
 refine W.cl go4 rfl rfl (small46_ok w0_0) ?_
 rintro _ w1_0 ⟨rfl, h1_0⟩
 have L2 := L1.trans h1_0
 refine W.run 1 rfl (W.nx (WC.sr ?_))
 refine W.a (.field0 fa29_5 rfl) ?_
 have f3 := (b0_0.le h1_0)
 refine W.r (.loadB (v := .slice p.oa p.on p.oc) na26 rfl f3 rfl) ?_
 refine W.run 1 rfl (W.nx (WC.sr ?_))
 refine W.a (.field0 fa29_5 rfl) ?_
 refine W.ef0 rfl rfl ?_
 refine Ef.store sz26 rfl rfl f3 (by first | decide | (simp; done) | simp [plyV_row.len]) (rfl) ?_
 intro w3_1 b3_1 h3_1
 have b3_1 : Blk w3_1 g0_0 29 (plyV (nof p)).toArray := b3_1
 have L4 := L2.tb h3_1 L0 hg0_0
 refine W.nx (WC.sr ?_)
 refine W.r (.loadAll ag29 (by rfl) rfl b3_1) ?_
 refine W.cl go5 rfl rfl (made_ok (nof p) w3_1 ⟨hpn, rfl, rfl, rfl⟩) ?_
 rintro _ w4_1 ⟨rfl, h4_1⟩
 have L5 := L4.trans h4_1
 refine W.run 1 rfl ?_
 refine W.a (.extract (v := .agg (chnV (chB (nof p))).toArray) rfl rfl) ?_
 refine W.a (.extract (v := .agg (kit2V (kitB (nof p).s0, kitB (nof p).s1)).toArray) rfl rfl) ?_
 refine W.a (.extract (v := .agg #[.int .i64 ((staB (nof p)).no), .int .i64 ((staB (nof p)).h0), .int .i64 ((staB (nof p)).h1), .slice none 0 0, .int .i64 ((staB (nof p)).rt)]) rfl rfl) ?_
 refine W.ef rfl rfl rfl ?_
 refine Ef.allocA z43 ?_
 intro g4_6 w4_6 hg4_6 b4_6 h4_6
 have L6 := L5.trans h4_6
 have b4_6 : Blk w4_6 g4_6 43 #[.int .u8 (0), .int .u8 (0), .int .u8 (0), .int .u8 (0), .int .u8 (0), .int .u8 (0), .int .u8 (0), .int .u8 (0), .int .u8 (0), .int .u8 (0), .int .u8 (0), .int .u8 (0), .int .u8 (0), .int .u8 (0), .int .u8 (0), .int .u8 (0), .int .u8 (0), .int .u8 (0), .int .u8 (0), .int .u8 (0), .int .u8 (0), .int .u8 (0), .int .u8 (0), .int .u8 (0), .int .u8 (0), .int .u8 (0), .int .u8 (0), .int .u8 (0), .int .u8 (0), .int .u8 (0), .int .u8 (0), .int .u8 (0), .int .i64 (0), .int .i64 (0), .int .u64 (((noBas.f : Nat) : Int)), .int .u64 (((noBas.p : Nat) : Int)), .int .u64 (((noBas.l : Nat) : Int)), .int .u64 (((noBas.c : Nat) : Int)), .int .u64 (((noBas.r : Nat) : Int)), .int .u64 (((noBas.f : Nat) : Int)), .int .u64 (((noBas.p : Nat) : Int)), .int .u64 (((noBas.l : Nat) : Int)), .int .u64 (((noBas.c : Nat) : Int)), .int .u64 (((noBas.r : Nat) : Int)), .int .i64 (0), .int .i64 (0), .int .i64 (0), .int .i64 (0), .int .i64 (0), .int .i64 (0), .int .i64 (0), .int .i64 (0), .int .i64 (0), .int .i64 (0), .int .i64 (0), .int .i64 (0), .int .i64 (0)] := b4_6
 refine W.ef rfl rfl rfl ?_
 refine Ef.allocA z47 ?_
 intro g4_7 w4_7 hg4_7 b4_7 h4_7
 have L7 := L6.trans h4_7
 have b4_7 : Blk w4_7 g4_7 47 (kit2V (noKit, noKit)).toArray := b4_7
 refine W.ef rfl rfl rfl ?_
 refine Ef.allocA z51 ?_
 intro g4_8 w4_8 hg4_8 b4_8 h4_8
 have L8 := L7.trans h4_8
 have b4_8 : Blk w4_8 g4_8 51 #[.int .i64 (0), .int .i64 (0), .int .i64 (0), .slice none 0 0, .int .i64 (0)] := b4_8
 have f9 := (b4_6.le (h4_7.trans h4_8))
 refine W.ef0 rfl rfl ?_
 refine Ef.storeAll sz43 (by rfl) rfl rfl f9 (by rfl) (chnV_row.one (chB (nof p))) ?_
 intro w4_9 b4_9 h4_9
 have b4_9 : Blk w4_9 g4_6 43 (chnV (chB (nof p))).toArray := b4_9
 have L10 := L8.tb h4_9 L5 hg4_6
 have f11 := ((b4_7.le h4_8).ch h4_9 (fun h => (show g4_6 ≠ g4_7 from by have := b4_6.lt; omega) (oI h)))
 refine W.ef0 rfl rfl ?_
 refine Ef.storeAll sz47 (by rfl) rfl rfl f11 (by simp only [List.size_toArray, kit2V_row.len]) (kit2V_row.one (kitB (nof p).s0, kitB (nof p).s1)) ?_
 intro w4_10 b4_10 h4_10
 have L12 := L10.tb h4_10 L6 hg4_7
 have f13 := ((b4_8.ch h4_9 (fun h => (show g4_6 ≠ g4_8 from by have := b4_6.lt; have := h4_7.size; omega) (oI h))).ch h4_10 (fun h => (show g4_7 ≠ g4_8 from by have := b4_7.lt; omega) (oI h)))
 refine W.sA sz51 rfl rfl f13 ?_
 intro w4_11 b4_11 h4_11
 have b4_11 : Blk w4_11 g4_8 51 #[.int .i64 ((staB (nof p)).no), .int .i64 ((staB (nof p)).h0), .int .i64 ((staB (nof p)).h1), .slice none 0 0, .int .i64 ((staB (nof p)).rt)] := b4_11
 have L14 := L12.tb h4_11 L7 hg4_8
 refine W.nx (WC.sr ?_)
 refine W.a (.field0 fa51_1 rfl) ?_
 refine W.a (.idxAo (0) underlying48 sz3 rfl rfl (rfl) (by omega)) ?_
 refine W.r (.loadB (v := .int .i64 ((staB (nof p)).h0)) na3 rfl b4_11 rfl) ?_
 refine W.a (.field0 fa51_1 rfl) ?_
 refine W.a (.idxAo (1) underlying48 sz3 rfl rfl (rfl) (by omega)) ?_
 refine W.r (.loadB (v := .int .i64 ((staB (nof p)).h1)) na3 rfl b4_11 rfl) ?_
 refine W.ef rfl rfl rfl ?_
 refine Ef.buildSliceV (len := 2) [_, _] underlying56 el3 rfl (by simp [Value.cells]) rfl (by decide) (by decide) ?_
 intro g5_6 w5_6 hg5_6 b5_6 h5_6
 have L15 := L14.trans h5_6
 have b5_6 : Blk w5_6 g5_6 3 (([(staB (nof p)).h0, (staB (nof p)).h1]).map iv).flatten.toArray := b5_6
 have o5_6 : OVec w5_6 w4_11.heap.size 3 iv 1 (some ⟨g5_6, 0, none⟩) 2 2 ([(staB (nof p)).h0, (staB (nof p)).h1]) := b5_6.ovec hg5_6 iv_row rfl rfl (by decide)
 refine W.cl go6 rfl rfl (new_led w5_6 o5_6.vec (hrel.1)) ?_
 rintro _ w5_7 ⟨gp5_7, F5_7, rfl, p5_7, h5_7⟩
 have L16 := L15.trans h5_7
 refine W.run 1 rfl (W.nx (WC.seq (WC.sr (W.run 1 rfl ?_))))
 refine W.r (.len underlying26 rfl) ?_
 refine W.run 1 rfl ?_
 by_cases q6_3 : 20 < ((p.on : Nat) : Int)
 ·refine W.dt q6_3 rfl rfl (W.run 4 rfl (W.nx (WC.condT rfl (WC.sr (W.run 2 rfl (W.nx (WC.ret (E.thenR ?_))))))))
  refine E.retG1 rfl rfl ?_
  exact ⟨rfl, L16⟩
 refine W.df q6_3 rfl rfl (W.run 1 rfl ?_)
 refine W.g (.len underlying30 rfl) ?_
 refine W.run 2 rfl (W.nx ?_)
 by_cases c0 : 40 < ((ne : Nat) : Int)
 ·refine WC.condY rfl (decide_eq_true c0) ?_
  refine WC.sr (W.run 2 rfl (W.nx (WC.ret (E.thenR ?_))))
  refine E.retG1 rfl rfl ?_
  exact ⟨rfl, L16⟩
 refine WC.condN rfl (decide_eq_false c0) ?_
 refine WC.sn (WC.seq (WC.sr (W.run 1 rfl ?_)))
 refine W.a (.dec (.isNilP (by kernel_rfl) rfl) rfl) ?_
 refine W.run 2 rfl ?_
 refine W.g (Any.rd (.buildA (cells := (pairV (⟨0, 1⟩ : Pair)).toArray) underlying48 sz3 z48 rfl rfl) _) ?_
 refine W.g (Any.rd (.field0 fa51_1 rfl) _) ?_
 have f17 := (b4_11.le (h5_6.trans h5_7))
 refine W.g (.bpart [.int .i64 ((staB (nof p)).h0), .int .i64 ((staB (nof p)).h1)] ag48 rfl (by decide) rfl f17 rfl) ?_
 refine W.g (Any.rd (.buildP (seatV (⟨0, 0, 1, (staB (nof p)).h0, (staB (nof p)).h1⟩ : Seat)) pl60 z60 rfl rfl) _) ?_
 refine W.efg rfl rfl rfl (rfl) rfl rfl ?_
 refine Ef.call go7 rfl rfl (open_led (s := (⟨[(staB (nof p)).h0, (staB (nof p)).h1], [], 0, [], 0, 0⟩ : Led)) (⟨0, 0, 1, (staB (nof p)).h0, (staB (nof p)).h1⟩ : Seat) 0 p5_7) ?_
 rintro _ w8_8 ⟨F8_8, rfl, p8_8, g8_8, h8_8⟩
 refine ⟨_, rfl, ?_⟩
 have L18 := L16.chP_then h8_8 (fun i hi => Nat.le_trans L15.size (p5_7.old hi))
 have f20 := (((b4_9.ch h4_10 (fun h => (show g4_7 ≠ g4_6 from by have := b4_6.lt; omega) (oI h))).ch h4_11 (fun h => (show g4_8 ≠ g4_6 from by have := b4_6.lt; have := h4_7.size; omega) (oI h))).le (h5_6.trans h5_7))
 have zq24n := (show ¬ F5_7 g4_6 from (fun hF => by have := p5_7.old hF; have := b4_9.lt; have := h4_10.size; have := h4_11.size; have := h5_6.size; omega))
 have zq24 := f20.chP h8_8 zq24n
 have zq26n := (show ¬ F5_7 g4_8 from (fun hF => by have := p5_7.old hF; have := b4_11.lt; have := h5_6.size; omega))
 have zq26 := f17.chP h8_8 zq26n
 refine W.g (Any.rd (.dec (.neq rfl rfl) (dF (fun h => h hrel.2.1))) _) ?_
 refine W.run 1 rfl (W.nx (WC.condF rfl (WC.sn (WC.seq (WC.sr (W.run 1 rfl (W.nx (WC.block ?_))))))))
 refine WC.loop (ι := Nat × Sta × Nat × ((Option Addr)) × Nat × Led × ((Nat -> Prop))) (fun ⟨k, t0, nt0, At0, ct0, Lt0, Ft0⟩ => [(1, .slice Ae ne ce), (5, .bool true), (6, .slice p.oa p.on p.oc), (7, .pointer (some ⟨g4_6, 0, none⟩)), (9, .pointer (some ⟨g4_8, 0, none⟩)), (10, .pointer (some ⟨gp5_7, 0, none⟩)), (11, .int .i64 (((k : Nat) : Int)))]) (fun ⟨k, t0, nt0, At0, ct0, Lt0, Ft0⟩ wl0 => (k <= n) /\ (RightS (chB (nof p)).am (chB (nof p)).op t0) /\ (RelS t0 Lt0) /\ Le w wl0 /\ w8_8.heap.size <= wl0.heap.size /\ Blk wl0 g4_6 43 (chnV (chB (nof p))).toArray /\ Blk wl0 g4_8 51 #[.int .i64 (t0.no), .int .i64 (t0.h0), .int .i64 (t0.h1), .slice At0 nt0 ct0, .int .i64 (t0.rt)] /\ OVec wl0 w8_8.heap.size 66 condV 5 At0 nt0 ct0 t0.cs /\ LPool wl0 w5_6.heap.size gp5_7 Ft0 Lt0) (fun ⟨k, t0, nt0, At0, ct0, Lt0, Ft0⟩ => n - k) (0, (staB (nof p)), 0, none, 0, (openL ⟨[(staB (nof p)).h0, (staB (nof p)).h1], [], 0, [], 0, 0⟩ ⟨0, 0, 1, (staB (nof p)).h0, (staB (nof p)).h1⟩ 0).1, F8_8) ?_ ?_ ?_
 ·exact .cons rfl (.cons rfl (.cons rfl (.cons rfl (.cons rfl (.cons rfl (.cons rfl (.nil _)))))))
 ·exact ⟨Nat.zero_le _, hrB, hrel.2.2, L18, Nat.le_refl _, zq24, zq26, ((OVec.nil w8_8 w8_8.heap.size 66 condV 5 none).cast rfl (staB_cs _).symm), p8_8⟩
 rintro ⟨k, t0, nt0, At0, ct0, Lt0, Ft0⟩ wl0 ⟨hk0, hr0, hL0, Ll0, zl0, f0_0, f0_1, f0_2, f0_3⟩
 have lb0_9 : w8_8.heap.size <= wl0.heap.size := by omega
 refine WC.seq (WC.sr (W.run 2 rfl ?_))
 refine W.r (.len underlying26 rfl) ?_
 refine W.run 1 rfl (W.nx ?_)
 by_cases c2 : ((k : Nat) : Int) < ((p.on : Nat) : Int)
 ·refine WC.condY rfl (decide_eq_true c2) ?_
  have hok := hof _ (getD_inS (z := noOfr) (show k < os.length by omega))
  have hok1 := hok.1; have hok2 := hok.2.1; have hok3 := hok.2.2.1
  refine WC.sn (WC.seq (WC.block (WC.sr (W.run 2 rfl ?_))))
  refine W.a (.idxS (k) underlying26 sz62 rfl rfl (hO.isSome ofrV_row (by omega)) (rfl) (by omega)) ?_
  refine W.r (.vload ag62 rfl (hO.le Ll0) ofrV_row (getS os noOfr (by omega))) ?_
  refine W.ef rfl rfl rfl ?_
  refine Ef.allocA z62 ?_
  intro g13_4 w13_4 hg13_4 b13_4 h13_4
  have L28 := Ll0.trans h13_4
  have b13_4 : Blk w13_4 g13_4 62 (ofrV noOfr).toArray := b13_4
  refine W.ef0 rfl rfl ?_
  refine Ef.storeAll sz62 (by rfl) rfl rfl b13_4 (by simp only [List.size_toArray, ofrV_row.len]) (ofrV_row.one (os.getD k noOfr)) ?_
  intro w13_5 b13_5 h13_5
  have b13_5 : Blk w13_5 g13_4 62 (ofrV (os.getD k noOfr)).toArray := b13_5
  have L29 := L28.tb h13_5 Ll0 hg13_4
  refine W.nx (WC.seq ?_)
  refine WC.drawM [0, 1, 2, 3, 4, 5, 6, 7, 8, 9, 10, 13, 14, 15, 16] [11, 12, 17, 18] [19] (fun i => bif Nat.beq i 12 then [11] else bif Nat.beq i 17 then [12] else []) mixed (by kernel_rfl) ?_
  intro w14 d14
  have L30 := L29.trans d14
  refine G.a rfl (.field0 fa62_0 rfl) ?_
  have f31 := (b13_5.le d14)
  refine G.r rfl (.loadB (v := .int .u8 ((((os.getD k noOfr).fr : Nat) : Int))) na5 rfl f31 rfl) ?_
  refine G.a rfl (.rem8 rfl rfl (by omega)) ?_
  refine G.r rfl (.idI (isS underlying5) underlying3 rfl (IntWalk.i64_in _ (by omega))) ?_
  refine G.run 1 rfl ?_
  refine G.a rfl (.add rfl rfl (by omega)) ?_
  refine G.a rfl (.field0 fa62_1 rfl) ?_
  refine G.r rfl (.loadB (v := .int .u16 ((((os.getD k noOfr).am : Nat) : Int))) na27 rfl f31 rfl) ?_
  refine G.r rfl (.idI (isS underlying27) underlying3 rfl (IntWalk.i64_in _ (by omega))) ?_
  refine G.a rfl (.add rfl rfl (by omega)) ?_
  refine G.r rfl (.loadAll ag62 (by rfl) rfl f31) ?_
  refine G.a rfl (.field0 fa62_2 rfl) ?_
  refine G.r rfl (.loadB (v := .int .u16 ((((os.getD k noOfr).ex : Nat) : Int))) na27 rfl f31 rfl) ?_
  refine G.r rfl (.idI (isS underlying27) underlying3 rfl (IntWalk.i64_in _ (by omega))) ?_
  refine G.a rfl (.add rfl rfl (by omega)) ?_
  refine G.nil ?_
  refine E.free3 ⟨by rfl, fun iU => (bif Nat.beq iU 11 then (fun v w' => v = .int .u64 ((((secO (os.getD k noOfr)) : Nat) : Int))) else (bif Nat.beq iU 12 then (fun v w' => v = .int .u64 (((base (secO (os.getD k noOfr)) : Nat) : Int))) else (bif Nat.beq iU 17 then (fun v w' => v = .agg (condV (cdO (os.getD k noOfr) k)).toArray) else (bif Nat.beq iU 18 then (fun v w' => ∃ g14_18, v = .pointer (some ⟨g14_18, 0, none⟩) /\ Blk w' g14_18 66 (condV noCnd).toArray) else (fun _ _ => True))))), ?_, ?_, ?_⟩
  ·intro iU hi v w1 w2 hv hle
   simp only [List.mem_cons, List.not_mem_nil, or_false] at hi
   rcases hi with rfl | rfl | rfl | rfl
   ·exact hv
   ·exact hv
   ·exact hv
   obtain ⟨g14_18, hvv, k14_18_0⟩ := hv; exact ⟨g14_18, hvv, k14_18_0.le hle⟩
  ·intro iU hi
   simp only [List.mem_cons, List.not_mem_nil, or_false] at hi
   rcases hi with rfl | rfl | rfl | rfl
   ·refine .inl ⟨rfl, Step.of0 rfl rfl ?_⟩
    intro w1 hle
    refine Ef.call go9 rfl rfl (secret21_ok (os.getD k noOfr) hok w1) ?_
    rintro _ w2 ⟨rfl, h2⟩
    refine ⟨_, rfl, ?_⟩
    exact ⟨h2, rfl, fun k hk => hk.elim⟩
   ·refine .inl ⟨rfl, Step.of1 (j := 11) rfl rfl rfl ?_⟩
    intro v11 w1 hle hv11
    have hv11 : v11 = .int .u64 ((((secO (os.getD k noOfr)) : Nat) : Int)) := hv11
    subst hv11
    refine Ef.call go8 rfl rfl (base_ok (secO (os.getD k noOfr)) w1) ?_
    rintro _ w2 ⟨rfl, h2⟩
    refine ⟨_, rfl, ?_⟩
    exact ⟨h2, rfl, fun k hk => hk.elim⟩
   ·refine Step3.pure1 (j := 12) rfl rfl rfl rfl ?_
    intro v12 w1 hle hv12
    have hv12 : v12 = .int .u64 (((base (secO (os.getD k noOfr)) : Nat) : Int)) := hv12
    subst hv12
    exact ⟨.agg (condV (cdO (os.getD k noOfr) k)).toArray, .buildP (condV (cdO (os.getD k noOfr) k)) pl66 z66 rfl rfl, rfl, fun k hk => hk.elim⟩
   refine .inl ⟨rfl, Step.of0 rfl rfl ?_⟩
   intro w1 hle
   refine Ef.allocA z66 ?_
   intro g14_18 w2 hg b14_18 h2
   exact ⟨h2, ⟨_, rfl, b14_18⟩, fun k hk => (show g14_18 = k from hk) ▸ ⟨hg, b14_18.lt⟩⟩
  intro f_14 W_14 h_14 hphi_14 hfeet_14 hap_14
  have e11_14 : f_14 11 = .int .u64 ((((secO (os.getD k noOfr)) : Nat) : Int)) := hphi_14 11 (by decide)
  have e12_14 : f_14 12 = .int .u64 (((base (secO (os.getD k noOfr)) : Nat) : Int)) := hphi_14 12 (by decide)
  have e17_14 : f_14 17 = .agg (condV (cdO (os.getD k noOfr) k)).toArray := hphi_14 17 (by decide)
  obtain ⟨g14_18, e18_14, k14_18_0⟩ := hphi_14 18 (by decide)
  have hgzg14_18 : w14.heap.size <= g14_18 := (hfeet_14 18 (by decide) g14_18 (by rw [e18_14]; rfl)).1
  show G _ _ _ _ _ ((84, f_14 11) :: (85, f_14 12) :: (90, f_14 17) :: (13, f_14 18) :: _) _
  rw [e11_14, e12_14, e17_14, e18_14]
  have L39 := L30.trans h_14
  refine G.ef0 rfl rfl rfl rfl ?_
  refine Ef.storeAll sz66 (by rfl) rfl rfl k14_18_0 (by simp only [List.size_toArray, condV_row.len]) (condV_row.one (cdO (os.getD k noOfr) k)) ?_
  intro w14_19 b14_19 h14_19
  refine noT (by kernel_rfl) ?_
  have b14_19 : Blk w14_19 g14_18 66 (condV (cdO (os.getD k noOfr) k)).toArray := b14_19
  have L40 := L39.tb h14_19 L30 hgzg14_18
  refine G.nil (E.thenN (WC.sr ?_))
  have f41 := ((((f0_0.le h13_4).ch h13_5 (fun h => (show g13_4 ≠ g4_6 from by have := f0_0.lt; omega) (oI h))).le (d14.trans h_14)).ch h14_19 (fun h => (show g14_18 ≠ g4_6 from by have := f0_0.lt; have := h13_4.size; have := h13_5.size; have := d14.size; omega) (oI h)))
  refine W.r (.loadAll ag43 (by rfl) rfl f41) ?_
  have f42 := ((((f0_1.le h13_4).ch h13_5 (fun h => (show g13_4 ≠ g4_8 from by have := f0_1.lt; omega) (oI h))).le (d14.trans h_14)).ch h14_19 (fun h => (show g14_18 ≠ g4_8 from by have := f0_1.lt; have := h13_4.size; have := h13_5.size; have := d14.size; omega) (oI h)))
  refine W.r (.loadAll ag51 (by rfl) rfl f42) ?_
  refine W.r (.loadAll ag66 (by rfl) rfl b14_19) ?_
  have f43 := ((((f0_2.le h13_4).ch h13_5 (fun q hq => by cases hq; exact (fun he => by have := (f0_2.row he).2; omega))).le (d14.trans h_14)).ch h14_19 (fun q hq => by cases hq; exact (fun he => by have := (f0_2.row he).2; have := h13_4.size; have := h13_5.size; have := d14.size; omega)))
  refine W.cl go10 rfl rfl (sadd_ok (c := ct0) (cdO (os.getD k noOfr) k) (fine_cd hok (by omega)) (chB (nof p)) hch w14_19 f43.vec hr0) ?_
  rintro _ w15_3 ⟨t15_3, n15_3, A15_3, c15_3, e15_3, rfl, o15_3, ht15_3, h15_3⟩
  have L44 := L40.trans h15_3
  refine W.run 1 rfl ?_
  refine W.a (.extract (v := .agg #[.int .i64 (t15_3.no), .int .i64 (t15_3.h0), .int .i64 (t15_3.h1), .slice A15_3 n15_3 c15_3, .int .i64 (t15_3.rt)]) rfl rfl) ?_
  refine W.run 1 rfl (W.ef rfl rfl rfl ?_)
  refine Ef.allocA z51 ?_
  intro g15_7 w15_7 hg15_7 b15_7 h15_7
  have L45 := L44.trans h15_7
  have b15_7 : Blk w15_7 g15_7 51 #[.int .i64 (0), .int .i64 (0), .int .i64 (0), .slice none 0 0, .int .i64 (0)] := b15_7
  refine W.sA sz51 rfl rfl b15_7 ?_
  intro w15_8 b15_8 h15_8
  have b15_8 : Blk w15_8 g15_7 51 #[.int .i64 (t15_3.no), .int .i64 (t15_3.h0), .int .i64 (t15_3.h1), .slice A15_3 n15_3 c15_3, .int .i64 (t15_3.rt)] := b15_8
  have L46 := L45.tb h15_8 L44 hg15_7
  refine W.run 1 rfl (W.nx (WC.seq (WC.sr (W.run 2 rfl (W.nx ?_)))))
  by_cases c3 : e15_3 ≠ 0
  ·refine WC.condY rfl (decide_eq_true c3) ?_
   refine WC.exit (E.thenX (E.blkH (E.thenN (WC.region (W.run 1 rfl ?_)))))
   refine W.a (.add rfl rfl (by omega)) ?_
   refine W.run 1 rfl (W.nil ?_)
   have f47 := ((f41.le (h15_3.trans h15_7)).ch h15_8 (fun h => (show g15_7 ≠ g4_6 from by have := f41.lt; have := h15_3.size; omega) (oI h)))
   have f48 := ((f42.le (h15_3.trans h15_7)).ch h15_8 (fun h => (show g15_7 ≠ g4_8 from by have := f42.lt; have := h15_3.size; omega) (oI h)))
   have f49 := ((f43.le (h15_3.trans h15_7)).ch h15_8 (fun q hq => by cases hq; exact (fun he => by have := (f43.row he).2; have := h15_3.size; omega)))
   have f50 := ((((((f0_3.le h13_4).ch h13_5 (fun q hqq hF => by cases hqq; have := f0_3.lt hF;  have := hg13_4; omega)).le (d14.trans h_14)).ch h14_19 (fun q hqq hF => by cases hqq; have := f0_3.lt hF; have := h13_4.size; have := h13_5.size; have := d14.size; have := hgzg14_18; omega)).le (h15_3.trans h15_7)).ch h15_8 (fun q hqq hF => by cases hqq; have := f0_3.lt hF; have := h13_4.size; have := h13_5.size; have := d14.size; have := h_14.size; have := h14_19.size; have := h15_3.size; have := hg15_7; omega))
   refine E.again (k + 1, t0, nt0, At0, ct0, Lt0, Ft0) (.cons rfl (.cons rfl (.cons rfl (.cons rfl (.cons rfl (.cons rfl (.cons rfl (.nil _)))))))) ?_ ?_
   ·exact ⟨by omega, hr0, hL0, L46, by have := zl0; have := h13_4.size; have := h13_5.size; have := d14.size; have := h_14.size; have := h14_19.size; have := h15_3.size; have := h15_7.size; have := h15_8.size; omega, f47, f48, f49, f50⟩
   first | omega | (simp only []; omega)
  refine WC.condN rfl (decide_eq_false c3) ?_
  obtain ⟨hao, k1, hpa, hts⟩ := ht15_3 (by omega)
  refine WC.sn (WC.sr ?_)
  refine W.r (.loadAll ag51 (by rfl) rfl b15_8) ?_
  have f51 := ((f42.le (h15_3.trans h15_7)).ch h15_8 (fun h => (show g15_7 ≠ g4_8 from by have := f42.lt; have := h15_3.size; omega) (oI h)))
  refine W.sA sz51 rfl rfl f51 ?_
  intro w17_1 b17_1 h17_1
  have b17_1 : Blk w17_1 g4_8 51 #[.int .i64 (t15_3.no), .int .i64 (t15_3.h0), .int .i64 (t15_3.h1), .slice A15_3 n15_3 c15_3, .int .i64 (t15_3.rt)] := b17_1
  have L52 := L46.tb h17_1 L7 hg4_8
  refine W.nx (WC.sr ?_)
  have f53 := (((((((f0_3.le h13_4).ch h13_5 (fun q hqq hF => by cases hqq; have := f0_3.lt hF;  have := hg13_4; omega)).le (d14.trans h_14)).ch h14_19 (fun q hqq hF => by cases hqq; have := f0_3.lt hF; have := h13_4.size; have := h13_5.size; have := d14.size; have := hgzg14_18; omega)).le (h15_3.trans h15_7)).ch h15_8 (fun q hqq hF => by cases hqq; have := f0_3.lt hF; have := h13_4.size; have := h13_5.size; have := d14.size; have := h_14.size; have := h14_19.size; have := h15_3.size; have := hg15_7; omega)).ch h17_1 (fun q hqq hF => by cases hqq; exact (f0_3.ty_blk f0_1 (by decide) (by decide)) hF))
  obtain ⟨hr2, ho2, hL2⟩ := add_next hL0 hr0 hop (f53).good hao hpa
  rw [<- hts] at hr2 hL2
  refine W.run 1 rfl ?_
  refine W.a (.field0 fa66_0 rfl) ?_
  have f54 := (((b14_19.le (h15_3.trans h15_7)).ch h15_8 (fun h => (show g15_7 ≠ g14_18 from by have := b14_19.lt; have := h15_3.size; omega) (oI h))).ch h17_1 (fun h => (show g4_8 ≠ g14_18 from by have := f0_1.lt; have := h13_4.size; have := h13_5.size; have := d14.size; omega) (oI h)))
  refine W.r (.loadB (v := .int .i64 ((cdO (os.getD k noOfr) k).fr)) na3 rfl f54 rfl) ?_
  refine W.a (.field0 fa66_1 rfl) ?_
  refine W.r (.loadB (v := .int .i64 ((cdO (os.getD k noOfr) k).id)) na3 rfl f54 rfl) ?_
  refine W.a (.field0 fa66_2 rfl) ?_
  refine W.r (.loadB (v := .int .i64 ((cdO (os.getD k noOfr) k).am)) na3 rfl f54 rfl) ?_
  refine W.a (.field0 fa66_3 rfl) ?_
  refine W.r (.loadB (v := .int .u64 ((((cdO (os.getD k noOfr) k).pt : Nat) : Int))) na35 rfl f54 rfl) ?_
  refine W.cl go11 rfl rfl (offer_led (s := Lt0) 0 ((cdO (os.getD k noOfr) k).fr) ((cdO (os.getD k noOfr) k).id) ((cdO (os.getD k noOfr) k).am) ((cdO (os.getD k noOfr) k).pt) (base_lt _) f53) ?_
  rintro _ w18_9 ⟨F18_9, rfl, p18_9, g18_9, h18_9⟩
  have L55 := L52.chP_then h18_9 (fun i hi => Nat.le_trans L15.size (f53.old hi))
  have f56 := (((f41.le (h15_3.trans h15_7)).ch h15_8 (fun h => (show g15_7 ≠ g4_6 from by have := f41.lt; have := h15_3.size; omega) (oI h))).ch h17_1 (fun h => (show g4_8 ≠ g4_6 from by have := b4_6.lt; have := h4_7.size; omega) (oI h)))
  have f59 := (((o15_3.le h15_7).ch h15_8 (fun q hq => by cases hq; exact (fun he => by have := (o15_3.row he).2; omega))).ch h17_1 (fun q hq => by cases hq; exact (fun he => by have := (o15_3.row he).1; have := f42.lt; omega)))
  have zq61n := (show ¬ Ft0 g4_6 from (fun hF => by have := f53.old hF; have := b4_9.lt; have := h4_10.size; have := h4_11.size; have := h5_6.size; omega))
  have zq61 := f56.chP h18_9 zq61n
  have zq62n := (show ¬ Ft0 g4_8 from (fun hF => by have := f53.old hF; have := b4_11.lt; have := h5_6.size; omega))
  have zq62 := b17_1.chP h18_9 zq62n
  have zq66n := (show ∀ g, rowOf A15_3 c15_3 = some g -> ¬ Ft0 g from (fun g hg hF => by have := f0_3.lt hF; have := h13_4.size; have := h13_5.size; have := d14.size; have := h_14.size; have := h14_19.size; have := (f59.row hg).1; omega))
  have zq66 := f59.chP h18_9 zq66n
  refine W.a (.dec (.neq rfl rfl) (dF (fun h => h ho2))) ?_
  refine W.nx (WC.condF rfl (WC.skip (E.blkN (E.thenN (WC.region (W.run 1 rfl ?_))))))
  refine W.a (.add rfl rfl (by omega)) ?_
  refine W.run 1 rfl (W.nil ?_)
  refine E.again (k + 1, t15_3, n15_3, A15_3, c15_3, (offerL Lt0 0 ((cdO (os.getD k noOfr) k).fr) ((cdO (os.getD k noOfr) k).id) ((cdO (os.getD k noOfr) k).am) ((cdO (os.getD k noOfr) k).pt)).1, F18_9) (.cons rfl (.cons rfl (.cons rfl (.cons rfl (.cons rfl (.cons rfl (.cons rfl (.nil _)))))))) ?_ ?_
  ·exact ⟨by omega, hr2, hL2, L55, by have := zl0; have := h13_4.size; have := h13_5.size; have := d14.size; have := h_14.size; have := h14_19.size; have := h15_3.size; have := h15_7.size; have := h15_8.size; have := h17_1.size; have := h18_9.size; omega, zq61, zq62, (zq66.mono (by have := h13_4.size; have := h13_5.size; have := d14.size; have := h_14.size; have := h14_19.size; omega)), p18_9⟩
  first | omega | (simp only []; omega)
 refine WC.condN rfl (decide_eq_false c2) ?_
 refine WC.exit (E.thenX (E.thenX (E.blkH (E.thenN (WC.seq (WC.sr (W.run 1 rfl (W.nx (WC.block ?_)))))))))
 refine WC.loop (ι := Nat × Sta × Nat × ((Option Addr)) × Nat × Led × ((Nat -> Prop))) (fun ⟨j, t1, nt1, At1, ct1, Lt1, Ft1⟩ => [(1, .slice Ae ne ce), (5, .bool true), (6, .slice p.oa p.on p.oc), (7, .pointer (some ⟨g4_6, 0, none⟩)), (9, .pointer (some ⟨g4_8, 0, none⟩)), (10, .pointer (some ⟨gp5_7, 0, none⟩)), (16, .int .i64 (((j : Nat) : Int)))]) (fun ⟨j, t1, nt1, At1, ct1, Lt1, Ft1⟩ wl1 => (j <= ne) /\ (RightS (chB (nof p)).am (chB (nof p)).op t1) /\ (RelS t1 Lt1) /\ Le w wl1 /\ wl0.heap.size <= wl1.heap.size /\ Blk wl1 g4_6 43 (chnV (chB (nof p))).toArray /\ Blk wl1 g4_8 51 #[.int .i64 (t1.no), .int .i64 (t1.h0), .int .i64 (t1.h1), .slice At1 nt1 ct1, .int .i64 (t1.rt)] /\ OVec wl1 w8_8.heap.size 66 condV 5 At1 nt1 ct1 t1.cs /\ LPool wl1 w5_6.heap.size gp5_7 Ft1 Lt1) (fun ⟨j, t1, nt1, At1, ct1, Lt1, Ft1⟩ => ne - j) (0, t0, nt0, At0, ct0, Lt0, Ft0) ?_ ?_ ?_
 ·exact .cons rfl (.cons rfl (.cons rfl (.cons rfl (.cons rfl (.cons rfl (.cons rfl (.nil _)))))))
 ·exact ⟨Nat.zero_le _, hr0, hL0, Ll0, Nat.le_refl _, f0_0, f0_1, f0_2, f0_3⟩
 rintro ⟨j, t1, nt1, At1, ct1, Lt1, Ft1⟩ wl1 ⟨hk1, hr1, hL1, Ll1, zl1, f1_0, f1_1, f1_2, f1_3⟩
 have lb1_9 : w8_8.heap.size <= wl1.heap.size := Nat.le_trans lb0_9 (by omega)
 refine WC.seq (WC.sr (W.run 2 rfl ?_))
 refine W.r (.len underlying30 rfl) ?_
 refine W.run 1 rfl ?_
 by_cases q21_4 : ((j : Nat) : Int) < ((ne : Nat) : Int)
 ·refine W.dt q21_4 rfl rfl (W.run 1 rfl ?_)
  refine W.g (.len underlying26 rfl) ?_
  refine W.run 2 rfl (W.nx ?_)
  by_cases c5 : 0 < ((p.on : Nat) : Int)
  ·refine WC.condY rfl (decide_eq_true c5) ?_
   have hB := (es.getD j 0).isLt
   have hkm := Nat.mod_lt ((es.getD j 0).toNat / 2) (show 0 < n by omega)
   have hok := hof _ (getD_inS (z := noOfr) (show ((es.getD j 0).toNat / 2 % n) < os.length by omega))
   have hfr := hok.1
   refine WC.sn (WC.seq (WC.block (WC.sr (W.run 2 rfl ?_))))
   refine W.a (.idxS (j) underlying30 sz5 rfl rfl (hE.isSome byteV_row (by omega)) (rfl) (by omega)) ?_
   refine W.r (.vone (v := u8v ((es.getD j (0 : BitVec 8)))) na5 rfl (hE.le Ll1) byteV_row (getS es (0 : BitVec 8) (by first | omega | (simp only [List.length_cons, List.length_nil]; omega))) rfl) ?_
   refine W.a (.quo8 (a := (es.getD j 0).toNat) (b := 2) rfl rfl (by omega) (by decide)) ?_
   refine W.r (.idI (isS underlying5) underlying3 rfl (IntWalk.i64_in _ (by omega))) ?_
   refine W.run 1 rfl ?_
   refine W.r (.len underlying26 rfl) ?_
   refine W.a (.as (.rem rfl rfl (by omega)) (int_eq (b := ((((es.getD j 0).toNat / 2 % n) : Nat) : Int)) (by rw [hon]; exact (Int.natCast_emod _ _).symm))) ?_
   refine W.run 1 rfl (W.nx (WC.sr (W.run 2 rfl ?_)))
   refine W.a (.idxS (((es.getD j 0).toNat / 2 % n)) underlying26 sz62 rfl rfl (hO.isSome ofrV_row (by omega)) (rfl) (by omega)) ?_
   refine W.a (.vfield fa62_0 (hO.isSome ofrV_row (by omega)) rfl) ?_
   refine W.r (.vcell (j := ((es.getD j 0).toNat / 2 % n)) (o := 0) (v := .int .u8 ((((os.getD ((es.getD j 0).toNat / 2 % n) noOfr).fr : Nat) : Int))) na5 rfl (hO.le Ll1) ofrV_row (getS os noOfr (by omega)) rfl) ?_
   refine W.a (.rem8 rfl rfl (by omega)) ?_
   refine W.r (.idI (isS underlying5) underlying3 rfl (IntWalk.i64_in _ (by omega))) ?_
   refine W.run 1 rfl (W.nx (WC.seq (WC.sr (W.run 2 rfl ?_))))
   refine W.a (.idxS (j) underlying30 sz5 rfl rfl (hE.isSome byteV_row (by omega)) (rfl) (by omega)) ?_
   refine W.r (.vone (v := u8v ((es.getD j (0 : BitVec 8)))) na5 rfl (hE.le Ll1) byteV_row (getS es (0 : BitVec 8) (by first | omega | (simp only [List.length_cons, List.length_nil]; omega))) rfl) ?_
   refine W.a (.rem8 rfl rfl (by omega)) ?_
   refine W.run 1 rfl (W.nx ?_)
   by_cases c6 : ((((es.getD j 0).toNat % 2) : Nat) : Int) = 0
   ·refine WC.condY rfl (decide_eq_true c6) ?_
    refine WC.seq ?_
    refine WC.drawM [0, 1, 2, 3, 4, 5, 6, 7, 8] [9, 10, 11, 12, 13, 14] [15, 16] (fun i => bif Nat.beq i 10 then [9] else bif Nat.beq i 11 then [10] else bif Nat.beq i 12 then [11] else bif Nat.beq i 13 then [11] else []) mixed (by kernel_rfl) ?_
    intro w26 d26
    have L68 := Ll1.trans d26
    have f69 := (f1_0.le d26)
    refine G.r rfl (.loadAll ag43 (by rfl) rfl f69) ?_
    have f70 := (f1_1.le d26)
    refine G.r rfl (.loadAll ag51 (by rfl) rfl f70) ?_
    refine G.run 2 rfl ?_
    refine G.a rfl (.add rfl rfl (by omega)) ?_
    refine G.run 2 rfl ?_
    refine G.a rfl (.idxS (((es.getD j 0).toNat / 2 % n)) underlying26 sz62 rfl rfl (hO.isSome ofrV_row (by omega)) (rfl) (by omega)) ?_
    refine G.r rfl (.vload ag62 rfl (hO.le L68) ofrV_row (getS os noOfr (by omega))) ?_
    refine G.nil ?_
    refine E.free3 ⟨by rfl, fun iU => (bif Nat.beq iU 9 then (fun v w' => v = .int .u64 ((((secO (os.getD ((es.getD j 0).toNat / 2 % n) noOfr)) : Nat) : Int))) else (bif Nat.beq iU 10 then (fun v w' => ∃ A26_10 c26_10, v = .tuple #[.agg #[.int .i64 ((setT t1 ((((os.getD ((es.getD j 0).toNat / 2 % n) noOfr).fr : Nat) : Int) % 2) (((((es.getD j 0).toNat / 2 % n) : Nat) : Int) + 1) (secO (os.getD ((es.getD j 0).toNat / 2 % n) noOfr))).no), .int .i64 ((setT t1 ((((os.getD ((es.getD j 0).toNat / 2 % n) noOfr).fr : Nat) : Int) % 2) (((((es.getD j 0).toNat / 2 % n) : Nat) : Int) + 1) (secO (os.getD ((es.getD j 0).toNat / 2 % n) noOfr))).h0), .int .i64 ((setT t1 ((((os.getD ((es.getD j 0).toNat / 2 % n) noOfr).fr : Nat) : Int) % 2) (((((es.getD j 0).toNat / 2 % n) : Nat) : Int) + 1) (secO (os.getD ((es.getD j 0).toNat / 2 % n) noOfr))).h1), .slice A26_10 ((setT t1 ((((os.getD ((es.getD j 0).toNat / 2 % n) noOfr).fr : Nat) : Int) % 2) (((((es.getD j 0).toNat / 2 % n) : Nat) : Int) + 1) (secO (os.getD ((es.getD j 0).toNat / 2 % n) noOfr))).cs.length) c26_10, .int .i64 ((setT t1 ((((os.getD ((es.getD j 0).toNat / 2 % n) noOfr).fr : Nat) : Int) % 2) (((((es.getD j 0).toNat / 2 % n) : Nat) : Int) + 1) (secO (os.getD ((es.getD j 0).toNat / 2 % n) noOfr))).rt)], .int .i64 ((setE t1 ((((os.getD ((es.getD j 0).toNat / 2 % n) noOfr).fr : Nat) : Int) % 2) (((((es.getD j 0).toNat / 2 % n) : Nat) : Int) + 1) (secO (os.getD ((es.getD j 0).toNat / 2 % n) noOfr))))] /\ OVec w' w26.heap.size 66 condV 5 A26_10 ((setT t1 ((((os.getD ((es.getD j 0).toNat / 2 % n) noOfr).fr : Nat) : Int) % 2) (((((es.getD j 0).toNat / 2 % n) : Nat) : Int) + 1) (secO (os.getD ((es.getD j 0).toNat / 2 % n) noOfr))).cs.length) c26_10 ((setT t1 ((((os.getD ((es.getD j 0).toNat / 2 % n) noOfr).fr : Nat) : Int) % 2) (((((es.getD j 0).toNat / 2 % n) : Nat) : Int) + 1) (secO (os.getD ((es.getD j 0).toNat / 2 % n) noOfr))).cs)) else (bif Nat.beq iU 11 then (fun v w' => ∃ A26_10 c26_10, v = .tuple #[.agg #[.int .i64 ((setT t1 ((((os.getD ((es.getD j 0).toNat / 2 % n) noOfr).fr : Nat) : Int) % 2) (((((es.getD j 0).toNat / 2 % n) : Nat) : Int) + 1) (secO (os.getD ((es.getD j 0).toNat / 2 % n) noOfr))).no), .int .i64 ((setT t1 ((((os.getD ((es.getD j 0).toNat / 2 % n) noOfr).fr : Nat) : Int) % 2) (((((es.getD j 0).toNat / 2 % n) : Nat) : Int) + 1) (secO (os.getD ((es.getD j 0).toNat / 2 % n) noOfr))).h0), .int .i64 ((setT t1 ((((os.getD ((es.getD j 0).toNat / 2 % n) noOfr).fr : Nat) : Int) % 2) (((((es.getD j 0).toNat / 2 % n) : Nat) : Int) + 1) (secO (os.getD ((es.getD j 0).toNat / 2 % n) noOfr))).h1), .slice A26_10 ((setT t1 ((((os.getD ((es.getD j 0).toNat / 2 % n) noOfr).fr : Nat) : Int) % 2) (((((es.getD j 0).toNat / 2 % n) : Nat) : Int) + 1) (secO (os.getD ((es.getD j 0).toNat / 2 % n) noOfr))).cs.length) c26_10, .int .i64 ((setT t1 ((((os.getD ((es.getD j 0).toNat / 2 % n) noOfr).fr : Nat) : Int) % 2) (((((es.getD j 0).toNat / 2 % n) : Nat) : Int) + 1) (secO (os.getD ((es.getD j 0).toNat / 2 % n) noOfr))).rt)], .int .i64 ((setE t1 ((((os.getD ((es.getD j 0).toNat / 2 % n) noOfr).fr : Nat) : Int) % 2) (((((es.getD j 0).toNat / 2 % n) : Nat) : Int) + 1) (secO (os.getD ((es.getD j 0).toNat / 2 % n) noOfr))))] /\ OVec w' w26.heap.size 66 condV 5 A26_10 ((setT t1 ((((os.getD ((es.getD j 0).toNat / 2 % n) noOfr).fr : Nat) : Int) % 2) (((((es.getD j 0).toNat / 2 % n) : Nat) : Int) + 1) (secO (os.getD ((es.getD j 0).toNat / 2 % n) noOfr))).cs.length) c26_10 ((setT t1 ((((os.getD ((es.getD j 0).toNat / 2 % n) noOfr).fr : Nat) : Int) % 2) (((((es.getD j 0).toNat / 2 % n) : Nat) : Int) + 1) (secO (os.getD ((es.getD j 0).toNat / 2 % n) noOfr))).cs)) else (bif Nat.beq iU 12 then (fun v w' => ∃ A26_10 c26_10, v = .agg #[.int .i64 ((setT t1 ((((os.getD ((es.getD j 0).toNat / 2 % n) noOfr).fr : Nat) : Int) % 2) (((((es.getD j 0).toNat / 2 % n) : Nat) : Int) + 1) (secO (os.getD ((es.getD j 0).toNat / 2 % n) noOfr))).no), .int .i64 ((setT t1 ((((os.getD ((es.getD j 0).toNat / 2 % n) noOfr).fr : Nat) : Int) % 2) (((((es.getD j 0).toNat / 2 % n) : Nat) : Int) + 1) (secO (os.getD ((es.getD j 0).toNat / 2 % n) noOfr))).h0), .int .i64 ((setT t1 ((((os.getD ((es.getD j 0).toNat / 2 % n) noOfr).fr : Nat) : Int) % 2) (((((es.getD j 0).toNat / 2 % n) : Nat) : Int) + 1) (secO (os.getD ((es.getD j 0).toNat / 2 % n) noOfr))).h1), .slice A26_10 ((setT t1 ((((os.getD ((es.getD j 0).toNat / 2 % n) noOfr).fr : Nat) : Int) % 2) (((((es.getD j 0).toNat / 2 % n) : Nat) : Int) + 1) (secO (os.getD ((es.getD j 0).toNat / 2 % n) noOfr))).cs.length) c26_10, .int .i64 ((setT t1 ((((os.getD ((es.getD j 0).toNat / 2 % n) noOfr).fr : Nat) : Int) % 2) (((((es.getD j 0).toNat / 2 % n) : Nat) : Int) + 1) (secO (os.getD ((es.getD j 0).toNat / 2 % n) noOfr))).rt)] /\ OVec w' w26.heap.size 66 condV 5 A26_10 ((setT t1 ((((os.getD ((es.getD j 0).toNat / 2 % n) noOfr).fr : Nat) : Int) % 2) (((((es.getD j 0).toNat / 2 % n) : Nat) : Int) + 1) (secO (os.getD ((es.getD j 0).toNat / 2 % n) noOfr))).cs.length) c26_10 ((setT t1 ((((os.getD ((es.getD j 0).toNat / 2 % n) noOfr).fr : Nat) : Int) % 2) (((((es.getD j 0).toNat / 2 % n) : Nat) : Int) + 1) (secO (os.getD ((es.getD j 0).toNat / 2 % n) noOfr))).cs)) else (bif Nat.beq iU 13 then (fun v w' => v = .int .i64 ((setE t1 ((((os.getD ((es.getD j 0).toNat / 2 % n) noOfr).fr : Nat) : Int) % 2) (((((es.getD j 0).toNat / 2 % n) : Nat) : Int) + 1) (secO (os.getD ((es.getD j 0).toNat / 2 % n) noOfr))))) else (bif Nat.beq iU 14 then (fun v w' => ∃ g26_14, v = .pointer (some ⟨g26_14, 0, none⟩) /\ Blk w' g26_14 51 #[.int .i64 (0), .int .i64 (0), .int .i64 (0), .slice none 0 0, .int .i64 (0)]) else (fun _ _ => True))))))), ?_, ?_, ?_⟩
    ·intro iU hi v w1 w2 hv hle
     simp only [List.mem_cons, List.not_mem_nil, or_false] at hi
     rcases hi with rfl | rfl | rfl | rfl | rfl | rfl
     ·exact hv
     ·obtain ⟨A26_10, c26_10, hvv, k26_10_0⟩ := hv; exact ⟨A26_10, c26_10, hvv, k26_10_0.le hle⟩
     ·obtain ⟨A26_10, c26_10, hvv, k26_10_0⟩ := hv; exact ⟨A26_10, c26_10, hvv, k26_10_0.le hle⟩
     ·obtain ⟨A26_10, c26_10, hvv, k26_10_0⟩ := hv; exact ⟨A26_10, c26_10, hvv, k26_10_0.le hle⟩
     ·exact hv
     obtain ⟨g26_14, hvv, k26_14_0⟩ := hv; exact ⟨g26_14, hvv, k26_14_0.le hle⟩
    ·intro iU hi
     simp only [List.mem_cons, List.not_mem_nil, or_false] at hi
     rcases hi with rfl | rfl | rfl | rfl | rfl | rfl
     ·refine .inl ⟨rfl, Step.of0 rfl rfl ?_⟩
      intro w1 hle
      refine Ef.call go9 rfl rfl (secret21_ok (os.getD ((es.getD j 0).toNat / 2 % n) noOfr) hok w1) ?_
      rintro _ w2 ⟨rfl, h2⟩
      refine ⟨_, rfl, ?_⟩
      exact ⟨h2, rfl, fun k hk => hk.elim⟩
     ·refine .inl ⟨rfl, Step.of1 (j := 9) rfl rfl rfl ?_⟩
      intro v9 w1 hle hv9
      have hv9 : v9 = .int .u64 ((((secO (os.getD ((es.getD j 0).toNat / 2 % n) noOfr)) : Nat) : Int)) := hv9
      subst hv9
      have f74 := (f1_2.le (d26.trans hle))
      refine Ef.call go12 rfl rfl (ssettle2_ok (c := ct1) (chB (nof p)) hch ((((os.getD ((es.getD j 0).toNat / 2 % n) noOfr).fr : Nat) : Int) % 2) (((((es.getD j 0).toNat / 2 % n) : Nat) : Int) + 1) (secO (os.getD ((es.getD j 0).toNat / 2 % n) noOfr)) w1 f74.vec hr1 (by omega)) ?_
      rintro _ w2 ⟨A26_10, c26_10, rfl, o26_10, h2⟩
      refine ⟨_, rfl, ?_⟩
      exact ⟨h2, ⟨_, _, rfl, (o26_10.mono hle.size)⟩, fun k hk => hk.elim⟩
     ·refine Step3.pure1 (j := 10) rfl rfl rfl rfl ?_
      intro v10 w1 hle hv10
      obtain ⟨A26_10, c26_10, rfl, k26_10_0⟩ := hv10
      exact ⟨.tuple #[.agg #[.int .i64 ((setT t1 ((((os.getD ((es.getD j 0).toNat / 2 % n) noOfr).fr : Nat) : Int) % 2) (((((es.getD j 0).toNat / 2 % n) : Nat) : Int) + 1) (secO (os.getD ((es.getD j 0).toNat / 2 % n) noOfr))).no), .int .i64 ((setT t1 ((((os.getD ((es.getD j 0).toNat / 2 % n) noOfr).fr : Nat) : Int) % 2) (((((es.getD j 0).toNat / 2 % n) : Nat) : Int) + 1) (secO (os.getD ((es.getD j 0).toNat / 2 % n) noOfr))).h0), .int .i64 ((setT t1 ((((os.getD ((es.getD j 0).toNat / 2 % n) noOfr).fr : Nat) : Int) % 2) (((((es.getD j 0).toNat / 2 % n) : Nat) : Int) + 1) (secO (os.getD ((es.getD j 0).toNat / 2 % n) noOfr))).h1), .slice A26_10 ((setT t1 ((((os.getD ((es.getD j 0).toNat / 2 % n) noOfr).fr : Nat) : Int) % 2) (((((es.getD j 0).toNat / 2 % n) : Nat) : Int) + 1) (secO (os.getD ((es.getD j 0).toNat / 2 % n) noOfr))).cs.length) c26_10, .int .i64 ((setT t1 ((((os.getD ((es.getD j 0).toNat / 2 % n) noOfr).fr : Nat) : Int) % 2) (((((es.getD j 0).toNat / 2 % n) : Nat) : Int) + 1) (secO (os.getD ((es.getD j 0).toNat / 2 % n) noOfr))).rt)], .int .i64 ((setE t1 ((((os.getD ((es.getD j 0).toNat / 2 % n) noOfr).fr : Nat) : Int) % 2) (((((es.getD j 0).toNat / 2 % n) : Nat) : Int) + 1) (secO (os.getD ((es.getD j 0).toNat / 2 % n) noOfr))))], .move rfl, ⟨_, _, rfl, k26_10_0⟩, fun k hk => hk.elim⟩
     ·refine Step3.pure1 (j := 11) rfl rfl rfl rfl ?_
      intro v11 w1 hle hv11
      obtain ⟨A26_10, c26_10, rfl, k26_10_0⟩ := hv11
      exact ⟨.agg #[.int .i64 ((setT t1 ((((os.getD ((es.getD j 0).toNat / 2 % n) noOfr).fr : Nat) : Int) % 2) (((((es.getD j 0).toNat / 2 % n) : Nat) : Int) + 1) (secO (os.getD ((es.getD j 0).toNat / 2 % n) noOfr))).no), .int .i64 ((setT t1 ((((os.getD ((es.getD j 0).toNat / 2 % n) noOfr).fr : Nat) : Int) % 2) (((((es.getD j 0).toNat / 2 % n) : Nat) : Int) + 1) (secO (os.getD ((es.getD j 0).toNat / 2 % n) noOfr))).h0), .int .i64 ((setT t1 ((((os.getD ((es.getD j 0).toNat / 2 % n) noOfr).fr : Nat) : Int) % 2) (((((es.getD j 0).toNat / 2 % n) : Nat) : Int) + 1) (secO (os.getD ((es.getD j 0).toNat / 2 % n) noOfr))).h1), .slice A26_10 ((setT t1 ((((os.getD ((es.getD j 0).toNat / 2 % n) noOfr).fr : Nat) : Int) % 2) (((((es.getD j 0).toNat / 2 % n) : Nat) : Int) + 1) (secO (os.getD ((es.getD j 0).toNat / 2 % n) noOfr))).cs.length) c26_10, .int .i64 ((setT t1 ((((os.getD ((es.getD j 0).toNat / 2 % n) noOfr).fr : Nat) : Int) % 2) (((((es.getD j 0).toNat / 2 % n) : Nat) : Int) + 1) (secO (os.getD ((es.getD j 0).toNat / 2 % n) noOfr))).rt)], .extract (v := .agg #[.int .i64 ((setT t1 ((((os.getD ((es.getD j 0).toNat / 2 % n) noOfr).fr : Nat) : Int) % 2) (((((es.getD j 0).toNat / 2 % n) : Nat) : Int) + 1) (secO (os.getD ((es.getD j 0).toNat / 2 % n) noOfr))).no), .int .i64 ((setT t1 ((((os.getD ((es.getD j 0).toNat / 2 % n) noOfr).fr : Nat) : Int) % 2) (((((es.getD j 0).toNat / 2 % n) : Nat) : Int) + 1) (secO (os.getD ((es.getD j 0).toNat / 2 % n) noOfr))).h0), .int .i64 ((setT t1 ((((os.getD ((es.getD j 0).toNat / 2 % n) noOfr).fr : Nat) : Int) % 2) (((((es.getD j 0).toNat / 2 % n) : Nat) : Int) + 1) (secO (os.getD ((es.getD j 0).toNat / 2 % n) noOfr))).h1), .slice A26_10 ((setT t1 ((((os.getD ((es.getD j 0).toNat / 2 % n) noOfr).fr : Nat) : Int) % 2) (((((es.getD j 0).toNat / 2 % n) : Nat) : Int) + 1) (secO (os.getD ((es.getD j 0).toNat / 2 % n) noOfr))).cs.length) c26_10, .int .i64 ((setT t1 ((((os.getD ((es.getD j 0).toNat / 2 % n) noOfr).fr : Nat) : Int) % 2) (((((es.getD j 0).toNat / 2 % n) : Nat) : Int) + 1) (secO (os.getD ((es.getD j 0).toNat / 2 % n) noOfr))).rt)]) rfl rfl, ⟨_, _, rfl, k26_10_0⟩, fun k hk => hk.elim⟩
     ·refine Step3.pure1 (j := 11) rfl rfl rfl rfl ?_
      intro v11 w1 hle hv11
      obtain ⟨A26_10, c26_10, rfl, k26_10_0⟩ := hv11
      exact ⟨.int .i64 ((setE t1 ((((os.getD ((es.getD j 0).toNat / 2 % n) noOfr).fr : Nat) : Int) % 2) (((((es.getD j 0).toNat / 2 % n) : Nat) : Int) + 1) (secO (os.getD ((es.getD j 0).toNat / 2 % n) noOfr)))), .extract (v := .int .i64 ((setE t1 ((((os.getD ((es.getD j 0).toNat / 2 % n) noOfr).fr : Nat) : Int) % 2) (((((es.getD j 0).toNat / 2 % n) : Nat) : Int) + 1) (secO (os.getD ((es.getD j 0).toNat / 2 % n) noOfr))))) rfl rfl, rfl, fun k hk => hk.elim⟩
     refine .inl ⟨rfl, Step.of0 rfl rfl ?_⟩
     intro w1 hle
     refine Ef.allocA z51 ?_
     intro g26_14 w2 hg b26_14 h2
     exact ⟨h2, ⟨_, rfl, b26_14⟩, fun k hk => (show g26_14 = k from hk) ▸ ⟨hg, b26_14.lt⟩⟩
    intro f_26 W_26 h_26 hphi_26 hfeet_26 hap_26
    have e9_26 : f_26 9 = .int .u64 ((((secO (os.getD ((es.getD j 0).toNat / 2 % n) noOfr)) : Nat) : Int)) := hphi_26 9 (by decide)
    obtain ⟨A26_10, c26_10, e10_26, kz26_10_0⟩ := hphi_26 10 (by decide)
    obtain ⟨A26_10, c26_10, e11_26, kz26_10_0⟩ := hphi_26 11 (by decide)
    obtain ⟨A26_10, c26_10, e12_26, k26_10_0⟩ := hphi_26 12 (by decide)
    have e13_26 : f_26 13 = .int .i64 ((setE t1 ((((os.getD ((es.getD j 0).toNat / 2 % n) noOfr).fr : Nat) : Int) % 2) (((((es.getD j 0).toNat / 2 % n) : Nat) : Int) + 1) (secO (os.getD ((es.getD j 0).toNat / 2 % n) noOfr)))) := hphi_26 13 (by decide)
    obtain ⟨g26_14, e14_26, k26_14_0⟩ := hphi_26 14 (by decide)
    have hgzg26_14 : w26.heap.size <= g26_14 := (hfeet_26 14 (by decide) g26_14 (by rw [e14_26]; rfl)).1
    show G _ _ _ _ _ ((155, f_26 9) :: (156, f_26 10) :: (145, f_26 11) :: (157, f_26 12) :: (158, f_26 13) :: (19, f_26 14) :: _) _
    rw [e9_26, e10_26, e11_26, e12_26, e13_26, e14_26]
    have L81 := L68.trans h_26
    refine G.ef0 rfl rfl rfl rfl ?_
    refine Ef.storeAll sz51 (by rfl) rfl rfl k26_14_0 (by rfl) (by simp [Value.oneCell']) ?_
    intro w26_15 b26_15 h26_15
    refine noT (by kernel_rfl) ?_
    have b26_15 : Blk w26_15 g26_14 51 #[.int .i64 ((setT t1 ((((os.getD ((es.getD j 0).toNat / 2 % n) noOfr).fr : Nat) : Int) % 2) (((((es.getD j 0).toNat / 2 % n) : Nat) : Int) + 1) (secO (os.getD ((es.getD j 0).toNat / 2 % n) noOfr))).no), .int .i64 ((setT t1 ((((os.getD ((es.getD j 0).toNat / 2 % n) noOfr).fr : Nat) : Int) % 2) (((((es.getD j 0).toNat / 2 % n) : Nat) : Int) + 1) (secO (os.getD ((es.getD j 0).toNat / 2 % n) noOfr))).h0), .int .i64 ((setT t1 ((((os.getD ((es.getD j 0).toNat / 2 % n) noOfr).fr : Nat) : Int) % 2) (((((es.getD j 0).toNat / 2 % n) : Nat) : Int) + 1) (secO (os.getD ((es.getD j 0).toNat / 2 % n) noOfr))).h1), .slice A26_10 ((setT t1 ((((os.getD ((es.getD j 0).toNat / 2 % n) noOfr).fr : Nat) : Int) % 2) (((((es.getD j 0).toNat / 2 % n) : Nat) : Int) + 1) (secO (os.getD ((es.getD j 0).toNat / 2 % n) noOfr))).cs.length) c26_10, .int .i64 ((setT t1 ((((os.getD ((es.getD j 0).toNat / 2 % n) noOfr).fr : Nat) : Int) % 2) (((((es.getD j 0).toNat / 2 % n) : Nat) : Int) + 1) (secO (os.getD ((es.getD j 0).toNat / 2 % n) noOfr))).rt)] := b26_15
    have L82 := L81.tb h26_15 L68 hgzg26_14
    refine G.run 1 rfl (G.nil (E.thenN (WC.seq (WC.sr ?_))))
    have f83 := ((f1_3.le (d26.trans h_26)).ch h26_15 (fun q hqq hF => by cases hqq; have := f1_3.lt hF; have := d26.size; have := hgzg26_14; omega))
    have hsn := set_next hL1 hr1 hop (f83).good (show 0 <= ((((os.getD ((es.getD j 0).toNat / 2 % n) noOfr).fr : Nat) : Int) % 2) /\ ((((os.getD ((es.getD j 0).toNat / 2 % n) noOfr).fr : Nat) : Int) % 2) <= 1 by omega) (id := (((((es.getD j 0).toNat / 2 % n) : Nat) : Int) + 1)) (secO (os.getD ((es.getD j 0).toNat / 2 % n) noOfr))
    refine W.run 4 rfl ?_
    refine W.a (.add rfl rfl (by omega)) ?_
    refine W.run 2 rfl ?_
    refine W.a (.idxS (((es.getD j 0).toNat / 2 % n)) underlying26 sz62 rfl rfl (hO.isSome ofrV_row (by omega)) (rfl) (by omega)) ?_
    refine W.r (.vload ag62 rfl (hO.le L82) ofrV_row (getS os noOfr (by omega))) ?_
    refine W.cl go9 rfl rfl (secret21_ok (os.getD ((es.getD j 0).toNat / 2 % n) noOfr) hok w26_15) ?_
    rintro _ w27_9 ⟨rfl, h27_9⟩
    have L84 := L82.trans h27_9
    have f85 := (f83.le h27_9)
    refine W.cl go13 rfl rfl (settle_led (s := Lt1) 0 ((((os.getD ((es.getD j 0).toNat / 2 % n) noOfr).fr : Nat) : Int) % 2) (((((es.getD j 0).toNat / 2 % n) : Nat) : Int) + 1) (secO (os.getD ((es.getD j 0).toNat / 2 % n) noOfr)) f85) ?_
    rintro _ w27_10 ⟨F27_10, rfl, p27_10, g27_10, h27_10⟩
    have L86 := L84.chP_then h27_10 (fun i hi => Nat.le_trans L15.size (f85.old hi))
    have f87 := (((f69.le h_26).ch h26_15 (fun h => (show g26_14 ≠ g4_6 from by have := f69.lt; omega) (oI h))).le h27_9)
    have f88 := (((f70.le h_26).ch h26_15 (fun h => (show g26_14 ≠ g4_8 from by have := f70.lt; omega) (oI h))).le h27_9)
    have f89 := (((f1_2.le (d26.trans h_26)).ch h26_15 (fun q hq => by cases hq; exact (fun he => by have := (f1_2.row he).2; have := d26.size; omega))).le h27_9)
    have f90 := ((k26_10_0.ch h26_15 (fun q hq => by cases hq; exact OVec.ne_blk k26_10_0 k26_14_0 (by decide))).le h27_9)
    have f91 := (b26_15.le h27_9)
    have zq92n := (show ¬ Ft1 g4_6 from (fun hF => by have := f85.old hF; have := b4_9.lt; have := h4_10.size; have := h4_11.size; have := h5_6.size; omega))
    have zq92 := f87.chP h27_10 zq92n
    have zq93n := (show ¬ Ft1 g4_8 from (fun hF => by have := f85.old hF; have := b4_11.lt; have := h5_6.size; omega))
    have zq93 := f88.chP h27_10 zq93n
    have zq94n := (show ∀ g, rowOf At1 ct1 = some g -> ¬ Ft1 g from (f85.ty_row f89 (by decide) (by decide)))
    have zq94 := f89.chP h27_10 zq94n
    have zq95n := (show ∀ g, rowOf A26_10 c26_10 = some g -> ¬ Ft1 g from (fun g hg hF => by have := f1_3.lt hF; have := d26.size; have := (f90.row hg).1; omega))
    have zq95 := f90.chP h27_10 zq95n
    have zq96n := (show ¬ Ft1 g26_14 from (fun hF => by have := f1_3.lt hF; have := d26.size; have := hgzg26_14; omega))
    have zq96 := f91.chP h27_10 zq96n
    refine W.a (.dec (.neq rfl rfl) (dF (fun h => h hsn.2.2.symm))) ?_
    refine W.nx (WC.condF rfl (WC.sn (WC.sr (W.run 2 rfl (W.nx ?_)))))
    by_cases c8 : (setE t1 ((((os.getD ((es.getD j 0).toNat / 2 % n) noOfr).fr : Nat) : Int) % 2) (((((es.getD j 0).toNat / 2 % n) : Nat) : Int) + 1) (secO (os.getD ((es.getD j 0).toNat / 2 % n) noOfr))) = 0
    ·refine WC.condY rfl (decide_eq_true c8) ?_
     obtain ⟨hr3, hL3⟩ := hsn.1 c8
     refine WC.region ?_
     refine W.r (.loadAll ag51 (by rfl) rfl zq96) ?_
     refine W.sA sz51 rfl rfl zq93 ?_
     intro w30_1 b30_1 h30_1
     have b30_1 : Blk w30_1 g4_8 51 #[.int .i64 ((setT t1 ((((os.getD ((es.getD j 0).toNat / 2 % n) noOfr).fr : Nat) : Int) % 2) (((((es.getD j 0).toNat / 2 % n) : Nat) : Int) + 1) (secO (os.getD ((es.getD j 0).toNat / 2 % n) noOfr))).no), .int .i64 ((setT t1 ((((os.getD ((es.getD j 0).toNat / 2 % n) noOfr).fr : Nat) : Int) % 2) (((((es.getD j 0).toNat / 2 % n) : Nat) : Int) + 1) (secO (os.getD ((es.getD j 0).toNat / 2 % n) noOfr))).h0), .int .i64 ((setT t1 ((((os.getD ((es.getD j 0).toNat / 2 % n) noOfr).fr : Nat) : Int) % 2) (((((es.getD j 0).toNat / 2 % n) : Nat) : Int) + 1) (secO (os.getD ((es.getD j 0).toNat / 2 % n) noOfr))).h1), .slice A26_10 ((setT t1 ((((os.getD ((es.getD j 0).toNat / 2 % n) noOfr).fr : Nat) : Int) % 2) (((((es.getD j 0).toNat / 2 % n) : Nat) : Int) + 1) (secO (os.getD ((es.getD j 0).toNat / 2 % n) noOfr))).cs.length) c26_10, .int .i64 ((setT t1 ((((os.getD ((es.getD j 0).toNat / 2 % n) noOfr).fr : Nat) : Int) % 2) (((((es.getD j 0).toNat / 2 % n) : Nat) : Int) + 1) (secO (os.getD ((es.getD j 0).toNat / 2 % n) noOfr))).rt)] := b30_1
     have L97 := L86.tb h30_1 L7 hg4_8
     refine W.nx (WC.sr (W.run 1 rfl ?_))
     have f98 := (p27_10.ch h30_1 (fun q hqq hF => by cases hqq; exact (p27_10.ty_blk zq93 (by decide) (by decide)) hF))
     refine W.cl go16 rfl rfl ((by have h := seat_led (s := (settleL Lt1 0 ((((os.getD ((es.getD j 0).toNat / 2 % n) noOfr).fr : Nat) : Int) % 2) (((((es.getD j 0).toNat / 2 % n) : Nat) : Int) + 1) (secO (os.getD ((es.getD j 0).toNat / 2 % n) noOfr))).1) 0 f98; rw [hL3.seen.1, hL3.seen.2] at h; exact h)) ?_
     rintro _ w36_1 ⟨rfl, h36_1⟩
     have L99 := L97.trans h36_1
     refine W.run 1 rfl ?_
     refine W.a (.extract (v := .agg (seatV (⟨0, 0, 1, (setT t1 ((((os.getD ((es.getD j 0).toNat / 2 % n) noOfr).fr : Nat) : Int) % 2) (((((es.getD j 0).toNat / 2 % n) : Nat) : Int) + 1) (secO (os.getD ((es.getD j 0).toNat / 2 % n) noOfr))).h0, (setT t1 ((((os.getD ((es.getD j 0).toNat / 2 % n) noOfr).fr : Nat) : Int) % 2) (((((es.getD j 0).toNat / 2 % n) : Nat) : Int) + 1) (secO (os.getD ((es.getD j 0).toNat / 2 % n) noOfr))).h1⟩ : Seat)).toArray) rfl rfl) ?_
     refine W.run 1 rfl (W.ef rfl rfl rfl ?_)
     refine Ef.allocA z60 ?_
     intro g36_5 w36_5 hg36_5 b36_5 h36_5
     have L100 := L99.trans h36_5
     have b36_5 : Blk w36_5 g36_5 60 (seatV noSeat).toArray := b36_5
     refine W.ef0 rfl rfl ?_
     refine Ef.storeAll sz60 (by rfl) rfl rfl b36_5 (by simp only [List.size_toArray, seatV_row.len]) (seatV_row.one (⟨0, 0, 1, (setT t1 ((((os.getD ((es.getD j 0).toNat / 2 % n) noOfr).fr : Nat) : Int) % 2) (((((es.getD j 0).toNat / 2 % n) : Nat) : Int) + 1) (secO (os.getD ((es.getD j 0).toNat / 2 % n) noOfr))).h0, (setT t1 ((((os.getD ((es.getD j 0).toNat / 2 % n) noOfr).fr : Nat) : Int) % 2) (((((es.getD j 0).toNat / 2 % n) : Nat) : Int) + 1) (secO (os.getD ((es.getD j 0).toNat / 2 % n) noOfr))).h1⟩ : Seat)) ?_
     intro w36_6 b36_6 h36_6
     have b36_6 : Blk w36_6 g36_5 60 (seatV (⟨0, 0, 1, (setT t1 ((((os.getD ((es.getD j 0).toNat / 2 % n) noOfr).fr : Nat) : Int) % 2) (((((es.getD j 0).toNat / 2 % n) : Nat) : Int) + 1) (secO (os.getD ((es.getD j 0).toNat / 2 % n) noOfr))).h0, (setT t1 ((((os.getD ((es.getD j 0).toNat / 2 % n) noOfr).fr : Nat) : Int) % 2) (((((es.getD j 0).toNat / 2 % n) : Nat) : Int) + 1) (secO (os.getD ((es.getD j 0).toNat / 2 % n) noOfr))).h1⟩ : Seat)).toArray := b36_6
     have L101 := L100.tb h36_6 L99 hg36_5
     refine W.run 1 rfl (W.nx (WC.seq ?_))
     refine WC.draw [0, 1, 2, 3, 4, 5, 6, 7, 8, 9, 10, 12, 11, 13, 14, 15, 16, 17, 19, 18, 20, 21, 22] mixed (by kernel_rfl) ?_
     intro w37 d37
     have L102 := L101.trans d37
     refine G.run 3 rfl ?_
     refine G.ag rfl (.field0 fa60_2 rfl) ?_
     have f103 := (b36_6.le d37)
     refine G.rg rfl (.bpart [.int .i64 ((⟨0, 0, 1, (setT t1 ((((os.getD ((es.getD j 0).toNat / 2 % n) noOfr).fr : Nat) : Int) % 2) (((((es.getD j 0).toNat / 2 % n) : Nat) : Int) + 1) (secO (os.getD ((es.getD j 0).toNat / 2 % n) noOfr))).h0, (setT t1 ((((os.getD ((es.getD j 0).toNat / 2 % n) noOfr).fr : Nat) : Int) % 2) (((((es.getD j 0).toNat / 2 % n) : Nat) : Int) + 1) (secO (os.getD ((es.getD j 0).toNat / 2 % n) noOfr))).h1⟩ : Seat).h0), .int .i64 ((⟨0, 0, 1, (setT t1 ((((os.getD ((es.getD j 0).toNat / 2 % n) noOfr).fr : Nat) : Int) % 2) (((((es.getD j 0).toNat / 2 % n) : Nat) : Int) + 1) (secO (os.getD ((es.getD j 0).toNat / 2 % n) noOfr))).h0, (setT t1 ((((os.getD ((es.getD j 0).toNat / 2 % n) noOfr).fr : Nat) : Int) % 2) (((((es.getD j 0).toNat / 2 % n) : Nat) : Int) + 1) (secO (os.getD ((es.getD j 0).toNat / 2 % n) noOfr))).h1⟩ : Seat).h1)] ag48 rfl (by decide) rfl f103 rfl) ?_
     refine G.ag rfl (.field0 fa51_1 rfl) ?_
     have f104 := (((b30_1.le (h36_1.trans h36_5)).ch h36_6 (fun h => (show g36_5 ≠ g4_8 from by have := b30_1.lt; have := h36_1.size; omega) (oI h))).le d37)
     refine G.rg rfl (.bpart [.int .i64 ((setT t1 ((((os.getD ((es.getD j 0).toNat / 2 % n) noOfr).fr : Nat) : Int) % 2) (((((es.getD j 0).toNat / 2 % n) : Nat) : Int) + 1) (secO (os.getD ((es.getD j 0).toNat / 2 % n) noOfr))).h0), .int .i64 ((setT t1 ((((os.getD ((es.getD j 0).toNat / 2 % n) noOfr).fr : Nat) : Int) % 2) (((((es.getD j 0).toNat / 2 % n) : Nat) : Int) + 1) (secO (os.getD ((es.getD j 0).toNat / 2 % n) noOfr))).h1)] ag48 rfl (by decide) rfl f104 rfl) ?_
     refine G.ag rfl (.dec (.neA eg48 rfl rfl (eqv_pairV (d := 9998) (⟨(⟨0, 0, 1, (setT t1 ((((os.getD ((es.getD j 0).toNat / 2 % n) noOfr).fr : Nat) : Int) % 2) (((((es.getD j 0).toNat / 2 % n) : Nat) : Int) + 1) (secO (os.getD ((es.getD j 0).toNat / 2 % n) noOfr))).h0, (setT t1 ((((os.getD ((es.getD j 0).toNat / 2 % n) noOfr).fr : Nat) : Int) % 2) (((((es.getD j 0).toNat / 2 % n) : Nat) : Int) + 1) (secO (os.getD ((es.getD j 0).toNat / 2 % n) noOfr))).h1⟩ : Seat).h0, (⟨0, 0, 1, (setT t1 ((((os.getD ((es.getD j 0).toNat / 2 % n) noOfr).fr : Nat) : Int) % 2) (((((es.getD j 0).toNat / 2 % n) : Nat) : Int) + 1) (secO (os.getD ((es.getD j 0).toNat / 2 % n) noOfr))).h0, (setT t1 ((((os.getD ((es.getD j 0).toNat / 2 % n) noOfr).fr : Nat) : Int) % 2) (((((es.getD j 0).toNat / 2 % n) : Nat) : Int) + 1) (secO (os.getD ((es.getD j 0).toNat / 2 % n) noOfr))).h1⟩ : Seat).h1⟩ : Pair) (⟨(setT t1 ((((os.getD ((es.getD j 0).toNat / 2 % n) noOfr).fr : Nat) : Int) % 2) (((((es.getD j 0).toNat / 2 % n) : Nat) : Int) + 1) (secO (os.getD ((es.getD j 0).toNat / 2 % n) noOfr))).h0, (setT t1 ((((os.getD ((es.getD j 0).toNat / 2 % n) noOfr).fr : Nat) : Int) % 2) (((((es.getD j 0).toNat / 2 % n) : Nat) : Int) + 1) (secO (os.getD ((es.getD j 0).toNat / 2 % n) noOfr))).h1⟩ : Pair))) (congrArg (fun b => !b) (decide_eq_true rfl))) ?_
     refine G.run 3 rfl ?_
     refine G.rg rfl (.loadAll ag51 (by rfl) rfl f104) ?_
     have f105 := (((f98.le (h36_1.trans h36_5)).ch h36_6 (fun q hqq hF => by cases hqq; have := f98.lt hF; have := h36_1.size; have := hg36_5; omega)).le d37)
     refine G.efg rfl rfl rfl rfl rfl (rfl) rfl rfl ?_
     refine Ef.call go17 rfl rfl ((by have h := worth_led (s := (settleL Lt1 0 ((((os.getD ((es.getD j 0).toNat / 2 % n) noOfr).fr : Nat) : Int) % 2) (((((es.getD j 0).toNat / 2 % n) : Nat) : Int) + 1) (secO (os.getD ((es.getD j 0).toNat / 2 % n) noOfr))).1) 0 f105; rw [hL3.worth (i := 0) (by decide)] at h; exact h)) ?_
     rintro _ w37_11 ⟨rfl, h37_11⟩
     refine ⟨_, rfl, ?_⟩
     refine ⟨fun _ => h37_11, ?_⟩
     have L106 := L102.trans h37_11
     have f107 := ((((zq95.ch h30_1 (fun q hq => by cases hq; exact (fun he => by have := (zq95.row he).1; have := f70.lt; omega))).le (h36_1.trans h36_5)).ch h36_6 (fun q hq => by cases hq; exact (fun he => by have := (zq95.row he).2; have := h30_1.size; have := h36_1.size; omega))).le (d37.trans h37_11))
     refine G.efg rfl rfl rfl rfl rfl (rfl) rfl rfl ?_
     refine Ef.call go18 rfl rfl (sworth_ok (c := c26_10) 0 (by omega) w37_11 f107.vec hr3) ?_
     rintro _ w37_13 ⟨rfl, h37_13⟩
     refine ⟨_, rfl, ?_⟩
     refine ⟨fun _ => h37_13, ?_⟩
     have L108 := L106.trans h37_13
     refine G.ag rfl (.dec (.neq rfl rfl) (dF (fun h => h rfl))) ?_
     refine G.run 3 rfl ?_
     have f109 := (f104.le (h37_11.trans h37_13))
     refine G.rg rfl (.loadAll ag51 (by rfl) rfl f109) ?_
     have f110 := (f105.le (h37_11.trans h37_13))
     refine G.efg rfl rfl rfl rfl rfl (rfl) rfl rfl ?_
     refine Ef.call go17 rfl rfl ((by have h := worth_led (s := (settleL Lt1 0 ((((os.getD ((es.getD j 0).toNat / 2 % n) noOfr).fr : Nat) : Int) % 2) (((((es.getD j 0).toNat / 2 % n) : Nat) : Int) + 1) (secO (os.getD ((es.getD j 0).toNat / 2 % n) noOfr))).1) 1 f110; rw [hL3.worth (i := 1) (by decide)] at h; exact h)) ?_
     rintro _ w37_18 ⟨rfl, h37_18⟩
     refine ⟨_, rfl, ?_⟩
     refine ⟨fun _ => h37_18, ?_⟩
     have L111 := L108.trans h37_18
     have f112 := (f107.le (h37_13.trans h37_18))
     refine G.efg rfl rfl rfl rfl rfl (rfl) rfl rfl ?_
     refine Ef.call go18 rfl rfl (sworth_ok (c := c26_10) 1 (by omega) w37_18 f112.vec hr3) ?_
     rintro _ w37_20 ⟨rfl, h37_20⟩
     refine ⟨_, rfl, ?_⟩
     refine ⟨fun _ => h37_20, ?_⟩
     have L113 := L111.trans h37_20
     refine G.ag rfl (.dec (.neq rfl rfl) (dF (fun h => h rfl))) ?_
     refine G.run 1 rfl (G.nil (E.thenN (WC.condF rfl (WC.skip (E.blkN (E.thenN (WC.region (W.run 1 rfl ?_))))))))
     refine W.a (.add rfl rfl (by omega)) ?_
     refine W.run 1 rfl (W.nil ?_)
     have f114 := ((((zq92.ch h30_1 (fun h => (show g4_8 ≠ g4_6 from by have := b4_6.lt; have := h4_7.size; omega) (oI h))).le (h36_1.trans h36_5)).ch h36_6 (fun h => (show g36_5 ≠ g4_6 from by have := zq92.lt; have := h30_1.size; have := h36_1.size; omega) (oI h))).le (d37.trans (h37_11.trans (h37_13.trans (h37_18.trans h37_20)))))
     have f115 := (f109.le (h37_18.trans h37_20))
     have f116 := (f112.le h37_20)
     have f117 := (f110.le (h37_18.trans h37_20))
     refine E.again (j + 1, (setT t1 ((((os.getD ((es.getD j 0).toNat / 2 % n) noOfr).fr : Nat) : Int) % 2) (((((es.getD j 0).toNat / 2 % n) : Nat) : Int) + 1) (secO (os.getD ((es.getD j 0).toNat / 2 % n) noOfr))), (setT t1 ((((os.getD ((es.getD j 0).toNat / 2 % n) noOfr).fr : Nat) : Int) % 2) (((((es.getD j 0).toNat / 2 % n) : Nat) : Int) + 1) (secO (os.getD ((es.getD j 0).toNat / 2 % n) noOfr))).cs.length, A26_10, c26_10, (settleL Lt1 0 ((((os.getD ((es.getD j 0).toNat / 2 % n) noOfr).fr : Nat) : Int) % 2) (((((es.getD j 0).toNat / 2 % n) : Nat) : Int) + 1) (secO (os.getD ((es.getD j 0).toNat / 2 % n) noOfr))).1, F27_10) (.cons rfl (.cons rfl (.cons rfl (.cons rfl (.cons rfl (.cons rfl (.cons rfl (.nil _)))))))) ?_ ?_
     ·exact ⟨by omega, hr3, hL3, L113, by have := zl1; have := d26.size; have := h_26.size; have := h26_15.size; have := h27_9.size; have := h27_10.size; have := h30_1.size; have := h36_1.size; have := h36_5.size; have := h36_6.size; have := d37.size; have := h37_11.size; have := h37_13.size; have := h37_18.size; have := h37_20.size; omega, f114, f115, (f116.mono (by have := d26.size; omega)), f117⟩
     first | omega | (simp only []; omega)
    refine WC.condN rfl (decide_eq_false c8) ?_
    have hL3 := hsn.2.1 c8
    refine WC.sn (WC.sr (W.run 1 rfl ?_))
    refine W.cl go16 rfl rfl ((by have h := seat_led (s := (settleL Lt1 0 ((((os.getD ((es.getD j 0).toNat / 2 % n) noOfr).fr : Nat) : Int) % 2) (((((es.getD j 0).toNat / 2 % n) : Nat) : Int) + 1) (secO (os.getD ((es.getD j 0).toNat / 2 % n) noOfr))).1) 0 p27_10; rw [hL3.seen.1, hL3.seen.2] at h; exact h)) ?_
    rintro _ w36_1_1 ⟨rfl, h36_1_1⟩
    have L118 := L86.trans h36_1_1
    refine W.run 1 rfl ?_
    refine W.a (.extract (v := .agg (seatV (⟨0, 0, 1, t1.h0, t1.h1⟩ : Seat)).toArray) rfl rfl) ?_
    refine W.run 1 rfl (W.ef rfl rfl rfl ?_)
    refine Ef.allocA z60 ?_
    intro g36_5_1 w36_5_1 hg36_5_1 b36_5_1 h36_5_1
    have L119 := L118.trans h36_5_1
    have b36_5_1 : Blk w36_5_1 g36_5_1 60 (seatV noSeat).toArray := b36_5_1
    refine W.ef0 rfl rfl ?_
    refine Ef.storeAll sz60 (by rfl) rfl rfl b36_5_1 (by simp only [List.size_toArray, seatV_row.len]) (seatV_row.one (⟨0, 0, 1, t1.h0, t1.h1⟩ : Seat)) ?_
    intro w36_6_1 b36_6_1 h36_6_1
    have b36_6_1 : Blk w36_6_1 g36_5_1 60 (seatV (⟨0, 0, 1, t1.h0, t1.h1⟩ : Seat)).toArray := b36_6_1
    have L120 := L119.tb h36_6_1 L118 hg36_5_1
    refine W.run 1 rfl (W.nx (WC.seq ?_))
    refine WC.draw [0, 1, 2, 3, 4, 5, 6, 7, 8, 9, 10, 12, 11, 13, 14, 15, 16, 17, 19, 18, 20, 21, 22] mixed (by kernel_rfl) ?_
    intro w37 d37
    have L121 := L120.trans d37
    refine G.run 3 rfl ?_
    refine G.ag rfl (.field0 fa60_2 rfl) ?_
    have f122 := (b36_6_1.le d37)
    refine G.rg rfl (.bpart [.int .i64 ((⟨0, 0, 1, t1.h0, t1.h1⟩ : Seat).h0), .int .i64 ((⟨0, 0, 1, t1.h0, t1.h1⟩ : Seat).h1)] ag48 rfl (by decide) rfl f122 rfl) ?_
    refine G.ag rfl (.field0 fa51_1 rfl) ?_
    have f123 := (((zq93.le (h36_1_1.trans h36_5_1)).ch h36_6_1 (fun h => (show g36_5_1 ≠ g4_8 from by have := zq93.lt; have := h36_1_1.size; omega) (oI h))).le d37)
    refine G.rg rfl (.bpart [.int .i64 (t1.h0), .int .i64 (t1.h1)] ag48 rfl (by decide) rfl f123 rfl) ?_
    refine G.ag rfl (.dec (.neA eg48 rfl rfl (eqv_pairV (d := 9998) (⟨(⟨0, 0, 1, t1.h0, t1.h1⟩ : Seat).h0, (⟨0, 0, 1, t1.h0, t1.h1⟩ : Seat).h1⟩ : Pair) (⟨t1.h0, t1.h1⟩ : Pair))) (congrArg (fun b => !b) (decide_eq_true rfl))) ?_
    refine G.run 3 rfl ?_
    refine G.rg rfl (.loadAll ag51 (by rfl) rfl f123) ?_
    have f124 := (((p27_10.le (h36_1_1.trans h36_5_1)).ch h36_6_1 (fun q hqq hF => by cases hqq; have := p27_10.lt hF; have := h36_1_1.size; have := hg36_5_1; omega)).le d37)
    refine G.efg rfl rfl rfl rfl rfl (rfl) rfl rfl ?_
    refine Ef.call go17 rfl rfl ((by have h := worth_led (s := (settleL Lt1 0 ((((os.getD ((es.getD j 0).toNat / 2 % n) noOfr).fr : Nat) : Int) % 2) (((((es.getD j 0).toNat / 2 % n) : Nat) : Int) + 1) (secO (os.getD ((es.getD j 0).toNat / 2 % n) noOfr))).1) 0 f124; rw [hL3.worth (i := 0) (by decide)] at h; exact h)) ?_
    rintro _ w37_11_1 ⟨rfl, h37_11_1⟩
    refine ⟨_, rfl, ?_⟩
    refine ⟨fun _ => h37_11_1, ?_⟩
    have L125 := L121.trans h37_11_1
    have f126 := (((zq94.le (h36_1_1.trans h36_5_1)).ch h36_6_1 (fun q hq => by cases hq; exact (fun he => by have := (zq94.row he).2; have := h36_1_1.size; omega))).le (d37.trans h37_11_1))
    refine G.efg rfl rfl rfl rfl rfl (rfl) rfl rfl ?_
    refine Ef.call go18 rfl rfl (sworth_ok (c := ct1) 0 (by omega) w37_11_1 f126.vec hr1) ?_
    rintro _ w37_13_1 ⟨rfl, h37_13_1⟩
    refine ⟨_, rfl, ?_⟩
    refine ⟨fun _ => h37_13_1, ?_⟩
    have L127 := L125.trans h37_13_1
    refine G.ag rfl (.dec (.neq rfl rfl) (dF (fun h => h rfl))) ?_
    refine G.run 3 rfl ?_
    have f128 := (f123.le (h37_11_1.trans h37_13_1))
    refine G.rg rfl (.loadAll ag51 (by rfl) rfl f128) ?_
    have f129 := (f124.le (h37_11_1.trans h37_13_1))
    refine G.efg rfl rfl rfl rfl rfl (rfl) rfl rfl ?_
    refine Ef.call go17 rfl rfl ((by have h := worth_led (s := (settleL Lt1 0 ((((os.getD ((es.getD j 0).toNat / 2 % n) noOfr).fr : Nat) : Int) % 2) (((((es.getD j 0).toNat / 2 % n) : Nat) : Int) + 1) (secO (os.getD ((es.getD j 0).toNat / 2 % n) noOfr))).1) 1 f129; rw [hL3.worth (i := 1) (by decide)] at h; exact h)) ?_
    rintro _ w37_18_1 ⟨rfl, h37_18_1⟩
    refine ⟨_, rfl, ?_⟩
    refine ⟨fun _ => h37_18_1, ?_⟩
    have L130 := L127.trans h37_18_1
    have f131 := (f126.le (h37_13_1.trans h37_18_1))
    refine G.efg rfl rfl rfl rfl rfl (rfl) rfl rfl ?_
    refine Ef.call go18 rfl rfl (sworth_ok (c := ct1) 1 (by omega) w37_18_1 f131.vec hr1) ?_
    rintro _ w37_20_1 ⟨rfl, h37_20_1⟩
    refine ⟨_, rfl, ?_⟩
    refine ⟨fun _ => h37_20_1, ?_⟩
    have L132 := L130.trans h37_20_1
    refine G.ag rfl (.dec (.neq rfl rfl) (dF (fun h => h rfl))) ?_
    refine G.run 1 rfl (G.nil (E.thenN (WC.condF rfl (WC.skip (E.blkN (E.thenN (WC.region (W.run 1 rfl ?_))))))))
    refine W.a (.add rfl rfl (by omega)) ?_
    refine W.run 1 rfl (W.nil ?_)
    have f133 := (((zq92.le (h36_1_1.trans h36_5_1)).ch h36_6_1 (fun h => (show g36_5_1 ≠ g4_6 from by have := zq92.lt; have := h36_1_1.size; omega) (oI h))).le (d37.trans (h37_11_1.trans (h37_13_1.trans (h37_18_1.trans h37_20_1)))))
    have f134 := (f128.le (h37_18_1.trans h37_20_1))
    have f135 := (f131.le h37_20_1)
    have f136 := (f129.le (h37_18_1.trans h37_20_1))
    refine E.again (j + 1, t1, nt1, At1, ct1, (settleL Lt1 0 ((((os.getD ((es.getD j 0).toNat / 2 % n) noOfr).fr : Nat) : Int) % 2) (((((es.getD j 0).toNat / 2 % n) : Nat) : Int) + 1) (secO (os.getD ((es.getD j 0).toNat / 2 % n) noOfr))).1, F27_10) (.cons rfl (.cons rfl (.cons rfl (.cons rfl (.cons rfl (.cons rfl (.cons rfl (.nil _)))))))) ?_ ?_
    ·exact ⟨by omega, hr1, hL3, L132, by have := zl1; have := d26.size; have := h_26.size; have := h26_15.size; have := h27_9.size; have := h27_10.size; have := h36_1_1.size; have := h36_5_1.size; have := h36_6_1.size; have := d37.size; have := h37_11_1.size; have := h37_13_1.size; have := h37_18_1.size; have := h37_20_1.size; omega, f133, f134, f135, f136⟩
    first | omega | (simp only []; omega)
   refine WC.condN rfl (decide_eq_false c6) ?_
   refine WC.sr ?_
   refine W.r (.loadAll ag43 (by rfl) rfl f1_0) ?_
   refine W.r (.loadAll ag51 (by rfl) rfl f1_1) ?_
   refine W.run 2 rfl ?_
   refine W.a (.add rfl rfl (by omega)) ?_
   refine W.cl go14 rfl rfl (sfail2_ok (c := ct1) (chB (nof p)) hch ((((os.getD ((es.getD j 0).toNat / 2 % n) noOfr).fr : Nat) : Int) % 2) (((((es.getD j 0).toNat / 2 % n) : Nat) : Int) + 1) wl1 f1_2.vec hr1 (by omega)) ?_
   rintro _ w31_5 ⟨A31_5, c31_5, rfl, o31_5, h31_5⟩
   have L137 := Ll1.trans h31_5
   refine W.run 1 rfl ?_
   refine W.a (.extract (v := .agg #[.int .i64 ((failT t1 ((((os.getD ((es.getD j 0).toNat / 2 % n) noOfr).fr : Nat) : Int) % 2) (((((es.getD j 0).toNat / 2 % n) : Nat) : Int) + 1)).no), .int .i64 ((failT t1 ((((os.getD ((es.getD j 0).toNat / 2 % n) noOfr).fr : Nat) : Int) % 2) (((((es.getD j 0).toNat / 2 % n) : Nat) : Int) + 1)).h0), .int .i64 ((failT t1 ((((os.getD ((es.getD j 0).toNat / 2 % n) noOfr).fr : Nat) : Int) % 2) (((((es.getD j 0).toNat / 2 % n) : Nat) : Int) + 1)).h1), .slice A31_5 ((failT t1 ((((os.getD ((es.getD j 0).toNat / 2 % n) noOfr).fr : Nat) : Int) % 2) (((((es.getD j 0).toNat / 2 % n) : Nat) : Int) + 1)).cs.length) c31_5, .int .i64 ((failT t1 ((((os.getD ((es.getD j 0).toNat / 2 % n) noOfr).fr : Nat) : Int) % 2) (((((es.getD j 0).toNat / 2 % n) : Nat) : Int) + 1)).rt)]) rfl rfl) ?_
   refine W.run 1 rfl (W.ef rfl rfl rfl ?_)
   refine Ef.allocA z51 ?_
   intro g31_9 w31_9 hg31_9 b31_9 h31_9
   have L138 := L137.trans h31_9
   have b31_9 : Blk w31_9 g31_9 51 #[.int .i64 (0), .int .i64 (0), .int .i64 (0), .slice none 0 0, .int .i64 (0)] := b31_9
   refine W.sA sz51 rfl rfl b31_9 ?_
   intro w31_10 b31_10 h31_10
   have b31_10 : Blk w31_10 g31_9 51 #[.int .i64 ((failT t1 ((((os.getD ((es.getD j 0).toNat / 2 % n) noOfr).fr : Nat) : Int) % 2) (((((es.getD j 0).toNat / 2 % n) : Nat) : Int) + 1)).no), .int .i64 ((failT t1 ((((os.getD ((es.getD j 0).toNat / 2 % n) noOfr).fr : Nat) : Int) % 2) (((((es.getD j 0).toNat / 2 % n) : Nat) : Int) + 1)).h0), .int .i64 ((failT t1 ((((os.getD ((es.getD j 0).toNat / 2 % n) noOfr).fr : Nat) : Int) % 2) (((((es.getD j 0).toNat / 2 % n) : Nat) : Int) + 1)).h1), .slice A31_5 ((failT t1 ((((os.getD ((es.getD j 0).toNat / 2 % n) noOfr).fr : Nat) : Int) % 2) (((((es.getD j 0).toNat / 2 % n) : Nat) : Int) + 1)).cs.length) c31_5, .int .i64 ((failT t1 ((((os.getD ((es.getD j 0).toNat / 2 % n) noOfr).fr : Nat) : Int) % 2) (((((es.getD j 0).toNat / 2 % n) : Nat) : Int) + 1)).rt)] := b31_10
   have L139 := L138.tb h31_10 L137 hg31_9
   refine W.run 1 rfl (W.nx (WC.seq (WC.sr ?_)))
   have f140 := ((f1_3.le (h31_5.trans h31_9)).ch h31_10 (fun q hqq hF => by cases hqq; have := f1_3.lt hF; have := h31_5.size; have := hg31_9; omega))
   have hsn := fail_next hL1 hr1 hop (f140).good (show 0 <= ((((os.getD ((es.getD j 0).toNat / 2 % n) noOfr).fr : Nat) : Int) % 2) /\ ((((os.getD ((es.getD j 0).toNat / 2 % n) noOfr).fr : Nat) : Int) % 2) <= 1 by omega) (id := (((((es.getD j 0).toNat / 2 % n) : Nat) : Int) + 1))
   refine W.run 4 rfl ?_
   refine W.a (.add rfl rfl (by omega)) ?_
   refine W.cl go15 rfl rfl (fail_led (s := Lt1) 0 ((((os.getD ((es.getD j 0).toNat / 2 % n) noOfr).fr : Nat) : Int) % 2) (((((es.getD j 0).toNat / 2 % n) : Nat) : Int) + 1) f140) ?_
   rintro _ w32_5 ⟨F32_5, rfl, p32_5, g32_5, h32_5⟩
   have L141 := L139.chP_then h32_5 (fun i hi => Nat.le_trans L15.size (f140.old hi))
   have f142 := ((f1_0.le (h31_5.trans h31_9)).ch h31_10 (fun h => (show g31_9 ≠ g4_6 from by have := f1_0.lt; have := h31_5.size; omega) (oI h)))
   have f143 := ((f1_1.le (h31_5.trans h31_9)).ch h31_10 (fun h => (show g31_9 ≠ g4_8 from by have := f1_1.lt; have := h31_5.size; omega) (oI h)))
   have f144 := ((f1_2.le (h31_5.trans h31_9)).ch h31_10 (fun q hq => by cases hq; exact (fun he => by have := (f1_2.row he).2; have := h31_5.size; omega)))
   have f145 := ((o31_5.le h31_9).ch h31_10 (fun q hq => by cases hq; exact (fun he => by have := (o31_5.row he).2; omega)))
   have zq146n := (show ¬ Ft1 g4_6 from (fun hF => by have := f140.old hF; have := b4_9.lt; have := h4_10.size; have := h4_11.size; have := h5_6.size; omega))
   have zq146 := f142.chP h32_5 zq146n
   have zq147n := (show ¬ Ft1 g4_8 from (fun hF => by have := f140.old hF; have := b4_11.lt; have := h5_6.size; omega))
   have zq147 := f143.chP h32_5 zq147n
   have zq148n := (show ∀ g, rowOf At1 ct1 = some g -> ¬ Ft1 g from (f140.ty_row f144 (by decide) (by decide)))
   have zq148 := f144.chP h32_5 zq148n
   have zq149n := (show ∀ g, rowOf A31_5 c31_5 = some g -> ¬ Ft1 g from (fun g hg hF => by have := f1_3.lt hF;  have := (f145.row hg).1; omega))
   have zq149 := f145.chP h32_5 zq149n
   have zq150n := (show ¬ Ft1 g31_9 from (fun hF => by have := f1_3.lt hF; have := h31_5.size; have := hg31_9; omega))
   have zq150 := b31_10.chP h32_5 zq150n
   refine W.a (.dec (.neq rfl rfl) (dF (fun h => h hsn.2.2.symm))) ?_
   refine W.nx (WC.condF rfl (WC.sn (WC.sr (W.run 2 rfl (W.nx ?_)))))
   by_cases c10 : (failE t1 ((((os.getD ((es.getD j 0).toNat / 2 % n) noOfr).fr : Nat) : Int) % 2) (((((es.getD j 0).toNat / 2 % n) : Nat) : Int) + 1)) = 0
   ·refine WC.condY rfl (decide_eq_true c10) ?_
    obtain ⟨hr3, hL3⟩ := hsn.1 c10
    refine WC.region ?_
    refine W.r (.loadAll ag51 (by rfl) rfl zq150) ?_
    refine W.sA sz51 rfl rfl zq147 ?_
    intro w35_1 b35_1 h35_1
    have b35_1 : Blk w35_1 g4_8 51 #[.int .i64 ((failT t1 ((((os.getD ((es.getD j 0).toNat / 2 % n) noOfr).fr : Nat) : Int) % 2) (((((es.getD j 0).toNat / 2 % n) : Nat) : Int) + 1)).no), .int .i64 ((failT t1 ((((os.getD ((es.getD j 0).toNat / 2 % n) noOfr).fr : Nat) : Int) % 2) (((((es.getD j 0).toNat / 2 % n) : Nat) : Int) + 1)).h0), .int .i64 ((failT t1 ((((os.getD ((es.getD j 0).toNat / 2 % n) noOfr).fr : Nat) : Int) % 2) (((((es.getD j 0).toNat / 2 % n) : Nat) : Int) + 1)).h1), .slice A31_5 ((failT t1 ((((os.getD ((es.getD j 0).toNat / 2 % n) noOfr).fr : Nat) : Int) % 2) (((((es.getD j 0).toNat / 2 % n) : Nat) : Int) + 1)).cs.length) c31_5, .int .i64 ((failT t1 ((((os.getD ((es.getD j 0).toNat / 2 % n) noOfr).fr : Nat) : Int) % 2) (((((es.getD j 0).toNat / 2 % n) : Nat) : Int) + 1)).rt)] := b35_1
    have L151 := L141.tb h35_1 L7 hg4_8
    refine W.nx (WC.sr (W.run 1 rfl ?_))
    have f152 := (p32_5.ch h35_1 (fun q hqq hF => by cases hqq; exact (p32_5.ty_blk zq147 (by decide) (by decide)) hF))
    refine W.cl go16 rfl rfl ((by have h := seat_led (s := (failL Lt1 0 ((((os.getD ((es.getD j 0).toNat / 2 % n) noOfr).fr : Nat) : Int) % 2) (((((es.getD j 0).toNat / 2 % n) : Nat) : Int) + 1)).1) 0 f152; rw [hL3.seen.1, hL3.seen.2] at h; exact h)) ?_
    rintro _ w36_1_2 ⟨rfl, h36_1_2⟩
    have L153 := L151.trans h36_1_2
    refine W.run 1 rfl ?_
    refine W.a (.extract (v := .agg (seatV (⟨0, 0, 1, (failT t1 ((((os.getD ((es.getD j 0).toNat / 2 % n) noOfr).fr : Nat) : Int) % 2) (((((es.getD j 0).toNat / 2 % n) : Nat) : Int) + 1)).h0, (failT t1 ((((os.getD ((es.getD j 0).toNat / 2 % n) noOfr).fr : Nat) : Int) % 2) (((((es.getD j 0).toNat / 2 % n) : Nat) : Int) + 1)).h1⟩ : Seat)).toArray) rfl rfl) ?_
    refine W.run 1 rfl (W.ef rfl rfl rfl ?_)
    refine Ef.allocA z60 ?_
    intro g36_5_2 w36_5_2 hg36_5_2 b36_5_2 h36_5_2
    have L154 := L153.trans h36_5_2
    have b36_5_2 : Blk w36_5_2 g36_5_2 60 (seatV noSeat).toArray := b36_5_2
    refine W.ef0 rfl rfl ?_
    refine Ef.storeAll sz60 (by rfl) rfl rfl b36_5_2 (by simp only [List.size_toArray, seatV_row.len]) (seatV_row.one (⟨0, 0, 1, (failT t1 ((((os.getD ((es.getD j 0).toNat / 2 % n) noOfr).fr : Nat) : Int) % 2) (((((es.getD j 0).toNat / 2 % n) : Nat) : Int) + 1)).h0, (failT t1 ((((os.getD ((es.getD j 0).toNat / 2 % n) noOfr).fr : Nat) : Int) % 2) (((((es.getD j 0).toNat / 2 % n) : Nat) : Int) + 1)).h1⟩ : Seat)) ?_
    intro w36_6_2 b36_6_2 h36_6_2
    have b36_6_2 : Blk w36_6_2 g36_5_2 60 (seatV (⟨0, 0, 1, (failT t1 ((((os.getD ((es.getD j 0).toNat / 2 % n) noOfr).fr : Nat) : Int) % 2) (((((es.getD j 0).toNat / 2 % n) : Nat) : Int) + 1)).h0, (failT t1 ((((os.getD ((es.getD j 0).toNat / 2 % n) noOfr).fr : Nat) : Int) % 2) (((((es.getD j 0).toNat / 2 % n) : Nat) : Int) + 1)).h1⟩ : Seat)).toArray := b36_6_2
    have L155 := L154.tb h36_6_2 L153 hg36_5_2
    refine W.run 1 rfl (W.nx (WC.seq ?_))
    refine WC.draw [0, 1, 2, 3, 4, 5, 6, 7, 8, 9, 10, 12, 11, 13, 14, 15, 16, 17, 19, 18, 20, 21, 22] mixed (by kernel_rfl) ?_
    intro w37 d37
    have L156 := L155.trans d37
    refine G.run 3 rfl ?_
    refine G.ag rfl (.field0 fa60_2 rfl) ?_
    have f157 := (b36_6_2.le d37)
    refine G.rg rfl (.bpart [.int .i64 ((⟨0, 0, 1, (failT t1 ((((os.getD ((es.getD j 0).toNat / 2 % n) noOfr).fr : Nat) : Int) % 2) (((((es.getD j 0).toNat / 2 % n) : Nat) : Int) + 1)).h0, (failT t1 ((((os.getD ((es.getD j 0).toNat / 2 % n) noOfr).fr : Nat) : Int) % 2) (((((es.getD j 0).toNat / 2 % n) : Nat) : Int) + 1)).h1⟩ : Seat).h0), .int .i64 ((⟨0, 0, 1, (failT t1 ((((os.getD ((es.getD j 0).toNat / 2 % n) noOfr).fr : Nat) : Int) % 2) (((((es.getD j 0).toNat / 2 % n) : Nat) : Int) + 1)).h0, (failT t1 ((((os.getD ((es.getD j 0).toNat / 2 % n) noOfr).fr : Nat) : Int) % 2) (((((es.getD j 0).toNat / 2 % n) : Nat) : Int) + 1)).h1⟩ : Seat).h1)] ag48 rfl (by decide) rfl f157 rfl) ?_
    refine G.ag rfl (.field0 fa51_1 rfl) ?_
    have f158 := (((b35_1.le (h36_1_2.trans h36_5_2)).ch h36_6_2 (fun h => (show g36_5_2 ≠ g4_8 from by have := b35_1.lt; have := h36_1_2.size; omega) (oI h))).le d37)
    refine G.rg rfl (.bpart [.int .i64 ((failT t1 ((((os.getD ((es.getD j 0).toNat / 2 % n) noOfr).fr : Nat) : Int) % 2) (((((es.getD j 0).toNat / 2 % n) : Nat) : Int) + 1)).h0), .int .i64 ((failT t1 ((((os.getD ((es.getD j 0).toNat / 2 % n) noOfr).fr : Nat) : Int) % 2) (((((es.getD j 0).toNat / 2 % n) : Nat) : Int) + 1)).h1)] ag48 rfl (by decide) rfl f158 rfl) ?_
    refine G.ag rfl (.dec (.neA eg48 rfl rfl (eqv_pairV (d := 9998) (⟨(⟨0, 0, 1, (failT t1 ((((os.getD ((es.getD j 0).toNat / 2 % n) noOfr).fr : Nat) : Int) % 2) (((((es.getD j 0).toNat / 2 % n) : Nat) : Int) + 1)).h0, (failT t1 ((((os.getD ((es.getD j 0).toNat / 2 % n) noOfr).fr : Nat) : Int) % 2) (((((es.getD j 0).toNat / 2 % n) : Nat) : Int) + 1)).h1⟩ : Seat).h0, (⟨0, 0, 1, (failT t1 ((((os.getD ((es.getD j 0).toNat / 2 % n) noOfr).fr : Nat) : Int) % 2) (((((es.getD j 0).toNat / 2 % n) : Nat) : Int) + 1)).h0, (failT t1 ((((os.getD ((es.getD j 0).toNat / 2 % n) noOfr).fr : Nat) : Int) % 2) (((((es.getD j 0).toNat / 2 % n) : Nat) : Int) + 1)).h1⟩ : Seat).h1⟩ : Pair) (⟨(failT t1 ((((os.getD ((es.getD j 0).toNat / 2 % n) noOfr).fr : Nat) : Int) % 2) (((((es.getD j 0).toNat / 2 % n) : Nat) : Int) + 1)).h0, (failT t1 ((((os.getD ((es.getD j 0).toNat / 2 % n) noOfr).fr : Nat) : Int) % 2) (((((es.getD j 0).toNat / 2 % n) : Nat) : Int) + 1)).h1⟩ : Pair))) (congrArg (fun b => !b) (decide_eq_true rfl))) ?_
    refine G.run 3 rfl ?_
    refine G.rg rfl (.loadAll ag51 (by rfl) rfl f158) ?_
    have f159 := (((f152.le (h36_1_2.trans h36_5_2)).ch h36_6_2 (fun q hqq hF => by cases hqq; have := f152.lt hF; have := h36_1_2.size; have := hg36_5_2; omega)).le d37)
    refine G.efg rfl rfl rfl rfl rfl (rfl) rfl rfl ?_
    refine Ef.call go17 rfl rfl ((by have h := worth_led (s := (failL Lt1 0 ((((os.getD ((es.getD j 0).toNat / 2 % n) noOfr).fr : Nat) : Int) % 2) (((((es.getD j 0).toNat / 2 % n) : Nat) : Int) + 1)).1) 0 f159; rw [hL3.worth (i := 0) (by decide)] at h; exact h)) ?_
    rintro _ w37_11_2 ⟨rfl, h37_11_2⟩
    refine ⟨_, rfl, ?_⟩
    refine ⟨fun _ => h37_11_2, ?_⟩
    have L160 := L156.trans h37_11_2
    have f161 := ((((zq149.ch h35_1 (fun q hq => by cases hq; exact (fun he => by have := (zq149.row he).1; have := f1_1.lt; omega))).le (h36_1_2.trans h36_5_2)).ch h36_6_2 (fun q hq => by cases hq; exact (fun he => by have := (zq149.row he).2; have := h35_1.size; have := h36_1_2.size; omega))).le (d37.trans h37_11_2))
    refine G.efg rfl rfl rfl rfl rfl (rfl) rfl rfl ?_
    refine Ef.call go18 rfl rfl (sworth_ok (c := c31_5) 0 (by omega) w37_11_2 f161.vec hr3) ?_
    rintro _ w37_13_2 ⟨rfl, h37_13_2⟩
    refine ⟨_, rfl, ?_⟩
    refine ⟨fun _ => h37_13_2, ?_⟩
    have L162 := L160.trans h37_13_2
    refine G.ag rfl (.dec (.neq rfl rfl) (dF (fun h => h rfl))) ?_
    refine G.run 3 rfl ?_
    have f163 := (f158.le (h37_11_2.trans h37_13_2))
    refine G.rg rfl (.loadAll ag51 (by rfl) rfl f163) ?_
    have f164 := (f159.le (h37_11_2.trans h37_13_2))
    refine G.efg rfl rfl rfl rfl rfl (rfl) rfl rfl ?_
    refine Ef.call go17 rfl rfl ((by have h := worth_led (s := (failL Lt1 0 ((((os.getD ((es.getD j 0).toNat / 2 % n) noOfr).fr : Nat) : Int) % 2) (((((es.getD j 0).toNat / 2 % n) : Nat) : Int) + 1)).1) 1 f164; rw [hL3.worth (i := 1) (by decide)] at h; exact h)) ?_
    rintro _ w37_18_2 ⟨rfl, h37_18_2⟩
    refine ⟨_, rfl, ?_⟩
    refine ⟨fun _ => h37_18_2, ?_⟩
    have L165 := L162.trans h37_18_2
    have f166 := (f161.le (h37_13_2.trans h37_18_2))
    refine G.efg rfl rfl rfl rfl rfl (rfl) rfl rfl ?_
    refine Ef.call go18 rfl rfl (sworth_ok (c := c31_5) 1 (by omega) w37_18_2 f166.vec hr3) ?_
    rintro _ w37_20_2 ⟨rfl, h37_20_2⟩
    refine ⟨_, rfl, ?_⟩
    refine ⟨fun _ => h37_20_2, ?_⟩
    have L167 := L165.trans h37_20_2
    refine G.ag rfl (.dec (.neq rfl rfl) (dF (fun h => h rfl))) ?_
    refine G.run 1 rfl (G.nil (E.thenN (WC.condF rfl (WC.skip (E.blkN (E.thenN (WC.region (W.run 1 rfl ?_))))))))
    refine W.a (.add rfl rfl (by omega)) ?_
    refine W.run 1 rfl (W.nil ?_)
    have f168 := ((((zq146.ch h35_1 (fun h => (show g4_8 ≠ g4_6 from by have := b4_6.lt; have := h4_7.size; omega) (oI h))).le (h36_1_2.trans h36_5_2)).ch h36_6_2 (fun h => (show g36_5_2 ≠ g4_6 from by have := zq146.lt; have := h35_1.size; have := h36_1_2.size; omega) (oI h))).le (d37.trans (h37_11_2.trans (h37_13_2.trans (h37_18_2.trans h37_20_2)))))
    have f169 := (f163.le (h37_18_2.trans h37_20_2))
    have f170 := (f166.le h37_20_2)
    have f171 := (f164.le (h37_18_2.trans h37_20_2))
    refine E.again (j + 1, (failT t1 ((((os.getD ((es.getD j 0).toNat / 2 % n) noOfr).fr : Nat) : Int) % 2) (((((es.getD j 0).toNat / 2 % n) : Nat) : Int) + 1)), (failT t1 ((((os.getD ((es.getD j 0).toNat / 2 % n) noOfr).fr : Nat) : Int) % 2) (((((es.getD j 0).toNat / 2 % n) : Nat) : Int) + 1)).cs.length, A31_5, c31_5, (failL Lt1 0 ((((os.getD ((es.getD j 0).toNat / 2 % n) noOfr).fr : Nat) : Int) % 2) (((((es.getD j 0).toNat / 2 % n) : Nat) : Int) + 1)).1, F32_5) (.cons rfl (.cons rfl (.cons rfl (.cons rfl (.cons rfl (.cons rfl (.cons rfl (.nil _)))))))) ?_ ?_
    ·exact ⟨by omega, hr3, hL3, L167, by have := zl1; have := h31_5.size; have := h31_9.size; have := h31_10.size; have := h32_5.size; have := h35_1.size; have := h36_1_2.size; have := h36_5_2.size; have := h36_6_2.size; have := d37.size; have := h37_11_2.size; have := h37_13_2.size; have := h37_18_2.size; have := h37_20_2.size; omega, f168, f169, (f170.mono (by omega)), f171⟩
    first | omega | (simp only []; omega)
   refine WC.condN rfl (decide_eq_false c10) ?_
   have hL3 := hsn.2.1 c10
   refine WC.sn (WC.sr (W.run 1 rfl ?_))
   refine W.cl go16 rfl rfl ((by have h := seat_led (s := (failL Lt1 0 ((((os.getD ((es.getD j 0).toNat / 2 % n) noOfr).fr : Nat) : Int) % 2) (((((es.getD j 0).toNat / 2 % n) : Nat) : Int) + 1)).1) 0 p32_5; rw [hL3.seen.1, hL3.seen.2] at h; exact h)) ?_
   rintro _ w36_1_3 ⟨rfl, h36_1_3⟩
   have L172 := L141.trans h36_1_3
   refine W.run 1 rfl ?_
   refine W.a (.extract (v := .agg (seatV (⟨0, 0, 1, t1.h0, t1.h1⟩ : Seat)).toArray) rfl rfl) ?_
   refine W.run 1 rfl (W.ef rfl rfl rfl ?_)
   refine Ef.allocA z60 ?_
   intro g36_5_3 w36_5_3 hg36_5_3 b36_5_3 h36_5_3
   have L173 := L172.trans h36_5_3
   have b36_5_3 : Blk w36_5_3 g36_5_3 60 (seatV noSeat).toArray := b36_5_3
   refine W.ef0 rfl rfl ?_
   refine Ef.storeAll sz60 (by rfl) rfl rfl b36_5_3 (by simp only [List.size_toArray, seatV_row.len]) (seatV_row.one (⟨0, 0, 1, t1.h0, t1.h1⟩ : Seat)) ?_
   intro w36_6_3 b36_6_3 h36_6_3
   have b36_6_3 : Blk w36_6_3 g36_5_3 60 (seatV (⟨0, 0, 1, t1.h0, t1.h1⟩ : Seat)).toArray := b36_6_3
   have L174 := L173.tb h36_6_3 L172 hg36_5_3
   refine W.run 1 rfl (W.nx (WC.seq ?_))
   refine WC.draw [0, 1, 2, 3, 4, 5, 6, 7, 8, 9, 10, 12, 11, 13, 14, 15, 16, 17, 19, 18, 20, 21, 22] mixed (by kernel_rfl) ?_
   intro w37 d37
   have L175 := L174.trans d37
   refine G.run 3 rfl ?_
   refine G.ag rfl (.field0 fa60_2 rfl) ?_
   have f176 := (b36_6_3.le d37)
   refine G.rg rfl (.bpart [.int .i64 ((⟨0, 0, 1, t1.h0, t1.h1⟩ : Seat).h0), .int .i64 ((⟨0, 0, 1, t1.h0, t1.h1⟩ : Seat).h1)] ag48 rfl (by decide) rfl f176 rfl) ?_
   refine G.ag rfl (.field0 fa51_1 rfl) ?_
   have f177 := (((zq147.le (h36_1_3.trans h36_5_3)).ch h36_6_3 (fun h => (show g36_5_3 ≠ g4_8 from by have := zq147.lt; have := h36_1_3.size; omega) (oI h))).le d37)
   refine G.rg rfl (.bpart [.int .i64 (t1.h0), .int .i64 (t1.h1)] ag48 rfl (by decide) rfl f177 rfl) ?_
   refine G.ag rfl (.dec (.neA eg48 rfl rfl (eqv_pairV (d := 9998) (⟨(⟨0, 0, 1, t1.h0, t1.h1⟩ : Seat).h0, (⟨0, 0, 1, t1.h0, t1.h1⟩ : Seat).h1⟩ : Pair) (⟨t1.h0, t1.h1⟩ : Pair))) (congrArg (fun b => !b) (decide_eq_true rfl))) ?_
   refine G.run 3 rfl ?_
   refine G.rg rfl (.loadAll ag51 (by rfl) rfl f177) ?_
   have f178 := (((p32_5.le (h36_1_3.trans h36_5_3)).ch h36_6_3 (fun q hqq hF => by cases hqq; have := p32_5.lt hF; have := h36_1_3.size; have := hg36_5_3; omega)).le d37)
   refine G.efg rfl rfl rfl rfl rfl (rfl) rfl rfl ?_
   refine Ef.call go17 rfl rfl ((by have h := worth_led (s := (failL Lt1 0 ((((os.getD ((es.getD j 0).toNat / 2 % n) noOfr).fr : Nat) : Int) % 2) (((((es.getD j 0).toNat / 2 % n) : Nat) : Int) + 1)).1) 0 f178; rw [hL3.worth (i := 0) (by decide)] at h; exact h)) ?_
   rintro _ w37_11_3 ⟨rfl, h37_11_3⟩
   refine ⟨_, rfl, ?_⟩
   refine ⟨fun _ => h37_11_3, ?_⟩
   have L179 := L175.trans h37_11_3
   have f180 := (((zq148.le (h36_1_3.trans h36_5_3)).ch h36_6_3 (fun q hq => by cases hq; exact (fun he => by have := (zq148.row he).2; have := h36_1_3.size; omega))).le (d37.trans h37_11_3))
   refine G.efg rfl rfl rfl rfl rfl (rfl) rfl rfl ?_
   refine Ef.call go18 rfl rfl (sworth_ok (c := ct1) 0 (by omega) w37_11_3 f180.vec hr1) ?_
   rintro _ w37_13_3 ⟨rfl, h37_13_3⟩
   refine ⟨_, rfl, ?_⟩
   refine ⟨fun _ => h37_13_3, ?_⟩
   have L181 := L179.trans h37_13_3
   refine G.ag rfl (.dec (.neq rfl rfl) (dF (fun h => h rfl))) ?_
   refine G.run 3 rfl ?_
   have f182 := (f177.le (h37_11_3.trans h37_13_3))
   refine G.rg rfl (.loadAll ag51 (by rfl) rfl f182) ?_
   have f183 := (f178.le (h37_11_3.trans h37_13_3))
   refine G.efg rfl rfl rfl rfl rfl (rfl) rfl rfl ?_
   refine Ef.call go17 rfl rfl ((by have h := worth_led (s := (failL Lt1 0 ((((os.getD ((es.getD j 0).toNat / 2 % n) noOfr).fr : Nat) : Int) % 2) (((((es.getD j 0).toNat / 2 % n) : Nat) : Int) + 1)).1) 1 f183; rw [hL3.worth (i := 1) (by decide)] at h; exact h)) ?_
   rintro _ w37_18_3 ⟨rfl, h37_18_3⟩
   refine ⟨_, rfl, ?_⟩
   refine ⟨fun _ => h37_18_3, ?_⟩
   have L184 := L181.trans h37_18_3
   have f185 := (f180.le (h37_13_3.trans h37_18_3))
   refine G.efg rfl rfl rfl rfl rfl (rfl) rfl rfl ?_
   refine Ef.call go18 rfl rfl (sworth_ok (c := ct1) 1 (by omega) w37_18_3 f185.vec hr1) ?_
   rintro _ w37_20_3 ⟨rfl, h37_20_3⟩
   refine ⟨_, rfl, ?_⟩
   refine ⟨fun _ => h37_20_3, ?_⟩
   have L186 := L184.trans h37_20_3
   refine G.ag rfl (.dec (.neq rfl rfl) (dF (fun h => h rfl))) ?_
   refine G.run 1 rfl (G.nil (E.thenN (WC.condF rfl (WC.skip (E.blkN (E.thenN (WC.region (W.run 1 rfl ?_))))))))
   refine W.a (.add rfl rfl (by omega)) ?_
   refine W.run 1 rfl (W.nil ?_)
   have f187 := (((zq146.le (h36_1_3.trans h36_5_3)).ch h36_6_3 (fun h => (show g36_5_3 ≠ g4_6 from by have := zq146.lt; have := h36_1_3.size; omega) (oI h))).le (d37.trans (h37_11_3.trans (h37_13_3.trans (h37_18_3.trans h37_20_3)))))
   have f188 := (f182.le (h37_18_3.trans h37_20_3))
   have f189 := (f185.le h37_20_3)
   have f190 := (f183.le (h37_18_3.trans h37_20_3))
   refine E.again (j + 1, t1, nt1, At1, ct1, (failL Lt1 0 ((((os.getD ((es.getD j 0).toNat / 2 % n) noOfr).fr : Nat) : Int) % 2) (((((es.getD j 0).toNat / 2 % n) : Nat) : Int) + 1)).1, F32_5) (.cons rfl (.cons rfl (.cons rfl (.cons rfl (.cons rfl (.cons rfl (.cons rfl (.nil _)))))))) ?_ ?_
   ·exact ⟨by omega, hr1, hL3, L186, by have := zl1; have := h31_5.size; have := h31_9.size; have := h31_10.size; have := h32_5.size; have := h36_1_3.size; have := h36_5_3.size; have := h36_6_3.size; have := d37.size; have := h37_11_3.size; have := h37_13_3.size; have := h37_18_3.size; have := h37_20_3.size; omega, f187, f188, f189, f190⟩
   first | omega | (simp only []; omega)
  refine WC.condN rfl (decide_eq_false c5) ?_
  refine WC.exit (E.thenX (E.thenX (E.blkH (E.thenN (WC.seq ?_)))))
  refine WC.draw [0, 1, 2, 4, 3, 5, 6, 7, 8] mixed (by kernel_rfl) ?_
  intro w39 d39
  have L191 := Ll1.trans d39
  refine G.run 3 rfl ?_
  have f192 := (f1_1.le d39)
  refine G.rg rfl (.loadAll ag51 (by rfl) rfl f192) ?_
  have f193 := (f1_3.le d39)
  refine G.efg rfl rfl rfl rfl rfl (rfl) rfl rfl ?_
  refine Ef.call go19 rfl rfl ((by have h := total_led (s := Lt1) f193; rw [hL1.total] at h; exact h)) ?_
  rintro _ w39_3 ⟨rfl, h39_3⟩
  refine ⟨_, rfl, ?_⟩
  refine ⟨fun _ => h39_3, ?_⟩
  have L194 := L191.trans h39_3
  have f195 := (f1_2.le (d39.trans h39_3))
  refine G.efg rfl rfl rfl rfl rfl (rfl) rfl rfl ?_
  refine Ef.call go20 rfl rfl (stotal_ok (c := ct1) w39_3 f195.vec hr1) ?_
  rintro _ w39_5 ⟨rfl, h39_5⟩
  refine ⟨_, rfl, ?_⟩
  refine ⟨fun _ => h39_5, ?_⟩
  have L196 := L194.trans h39_5
  refine G.ag rfl (.dec (.eql rfl rfl) (decide_eq_true rfl)) ?_
  refine G.run 2 rfl (G.nil (E.thenN (WC.ret ?_)))
  refine E.retG1 rfl rfl ?_
  exact ⟨rfl, L196⟩
 refine W.df q21_4 rfl rfl (W.run 4 rfl (W.nx (WC.condF rfl (WC.exit (E.thenX (E.thenX (E.blkH (E.thenN (WC.seq ?_)))))))))
 refine WC.draw [0, 1, 2, 4, 3, 5, 6, 7, 8] mixed (by kernel_rfl) ?_
 intro w39 d39
 have L197 := Ll1.trans d39
 refine G.run 3 rfl ?_
 have f198 := (f1_1.le d39)
 refine G.rg rfl (.loadAll ag51 (by rfl) rfl f198) ?_
 have f199 := (f1_3.le d39)
 refine G.efg rfl rfl rfl rfl rfl (rfl) rfl rfl ?_
 refine Ef.call go19 rfl rfl ((by have h := total_led (s := Lt1) f199; rw [hL1.total] at h; exact h)) ?_
 rintro _ w39_3_1 ⟨rfl, h39_3_1⟩
 refine ⟨_, rfl, ?_⟩
 refine ⟨fun _ => h39_3_1, ?_⟩
 have L200 := L197.trans h39_3_1
 have f201 := (f1_2.le (d39.trans h39_3_1))
 refine G.efg rfl rfl rfl rfl rfl (rfl) rfl rfl ?_
 refine Ef.call go20 rfl rfl (stotal_ok (c := ct1) w39_3_1 f201.vec hr1) ?_
 rintro _ w39_5_1 ⟨rfl, h39_5_1⟩
 refine ⟨_, rfl, ?_⟩
 refine ⟨fun _ => h39_5_1, ?_⟩
 have L202 := L200.trans h39_5_1
 refine G.ag rfl (.dec (.eql rfl rfl) (decide_eq_true rfl)) ?_
 refine G.run 2 rfl (G.nil (E.thenN (WC.ret ?_)))
 refine E.retG1 rfl rfl ?_
 exact ⟨rfl, L202⟩
end Go.Proofs.YtgpaekbdbpkogaaGreat

