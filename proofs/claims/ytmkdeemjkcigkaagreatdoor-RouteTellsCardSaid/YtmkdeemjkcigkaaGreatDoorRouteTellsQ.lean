/- RouteTells: for every input the law answers true and leaves its arguments as they were. -/
import Derived.Test.YtmkdeemjkcigkaaGreatDoorRouteTellsP
set_option linter.unusedVariables false
set_option linter.unusedSimpArgs false
namespace Go.Proofs.YtmkdeemjkcigkaaGreatDoor
open Go Go.Sx Go.Num Go.Gsp Go.Nsp Go.Msp Go.Rtp
set_option maxRecDepth 20000
theorem bet_num {u v : Fnd} : betQ u (v, true) = decide (0 < cmpF (takF u.odds) (takF v.odds) ∨ (cmpF (takF u.odds) (takF v.odds) = 0 ∧ (u.sent < v.sent ∨ (u.sent = v.sent ∧ rowsC u.way v.way < 0)))) := by
  unfold betQ
  rw [Bool.not_true, Bool.false_or]
  apply decide_eq_decide.2
  unfold ordB
  simp only [orL]
  rw [cmpF_anti]
  generalize cmpF (takF u.odds) (takF v.odds) = p
  generalize rowsC u.way v.way = r
  unfold cmpI
  repeat' split
  all_goals omega
theorem rows_dec {u v : List Gsp.Edge} {k : Nat} (h : rowsC u v = rowsC (u.drop k) (v.drop k)) (h1 : k < u.length) (h2 : k < v.length) : ((u.getD k noEdge).c ≠ (v.getD k noEdge).c → (rowsC u v < 0 ↔ (u.getD k noEdge).c < (v.getD k noEdge).c)) ∧ ((u.getD k noEdge).c = (v.getD k noEdge).c → rowsC u v = rowsC (u.drop (k + 1)) (v.drop (k + 1))) := by
  rw [h, rowsC_at h1 h2]
  unfold cmpI
  constructor <;> intro hc
  · split <;> (try split) <;> (try split) <;> first | omega | (simp; omega) | (exfalso; simp at *; omega)
  · rw [if_neg (by rw [if_neg (by omega), if_neg (by omega)]; simp)]
theorem rows_fin {u v : List Gsp.Edge} {k : Nat} (h : rowsC u v = rowsC (u.drop k) (v.drop k)) (h1 : k ≤ u.length) (h2 : k ≤ v.length) (h3 : ¬ (k < u.length ∧ k < v.length)) : rowsC u v < 0 ↔ u.length < v.length := by
  rcases Nat.lt_or_ge k u.length with q | q
  · rw [h, rowsC_long q (by omega)]; omega
  · rcases Nat.lt_or_ge k v.length with q2 | q2
    · rw [h, rowsC_short q q2]; omega
    · rw [h, rowsC_even q q2]; omega
theorem r38odds_ok {base gp : Nat} {F : Nat → Prop} {s : MF × Nat} (a x : Int) {A : Option Addr} {n c : Nat} {xs : List Gsp.Edge} (w : World) (hP : RMPool w base gp F s) (hV : Vec w edgeV 9 A n xs) (hn : n ≤ 1000000) (hN : s.2 ≤ 100000) : Calls Tryz.prog 15 #[.pointer (some ⟨gp, 0, none⟩), .slice A n c, .int .i64 (a), .int .i64 (x)] w fun r w' => ∃ A1 c1 A2 c2, r = .returned (.tuple #[.agg #[.slice A1 (digs (oddsR s.1 xs a x).1.n).length c1, .slice A2 (digs (oddsR s.1 xs a x).1.d).length c2], .int .i64 (oddsR s.1 xs a x).2.1, .int .i64 (oddsR s.1 xs a x).2.2]) ∧ OVec w' w.heap.size 122 dv 1 A1 (digs (oddsR s.1 xs a x).1.n).length c1 (digs (oddsR s.1 xs a x).1.n) ∧ OVec w' w.heap.size 122 dv 1 A2 (digs (oddsR s.1 xs a x).1.d).length c2 (digs (oddsR s.1 xs a x).1.d) ∧ Le w w' := by
 have hl := hV.1
 have hgm := hP.good
 refine enter Tryz.func15 rfl rfl ?_
 have L0 := Le.refl w
 refine WC.sr (W.ef rfl rfl rfl ?_)
 refine Ef.allocA z33 ?_
 intro g0_0 w0_0 hg0_0 b0_0 h0_0
 have L1 := L0.trans h0_0
 have b0_0 : Blk w0_0 g0_0 33 #[.slice none 0 0, .slice none 0 0] := b0_0
 refine W.run 2 rfl (W.nx (WC.sr (W.run 3 rfl ?_)))
 refine W.cl go47 rfl rfl (rcost_ok a x w0_0 (hV.le L1) (by omega)) ?_
 rintro _ w1_3 ⟨Aa1_3, ca1_3, Ab1_3, cb1_3, rfl, oa1_3, ob1_3, h1_3⟩
 have L2 := L1.trans h1_3
 refine W.run 7 rfl (W.nx (WC.seq (WC.sr (W.run 2 rfl (W.nx ?_)))))
 by_cases c0 : ((costG xs a x).2.2) ≠ 0
 ·refine WC.condY rfl (decide_eq_true c0) ?_
  refine WC.sr ?_
  refine W.a (.buildP [.slice none 0 0, .slice none 0 0] pl33 z33 rfl rfl) ?_
  refine W.run 1 rfl ?_
  have f3 := (b0_0.le h1_3)
  refine W.ef0 rfl rfl ?_
  refine Ef.storeAll sz33 (by rfl) rfl rfl f3 (by rfl) (by simp [Value.oneCell']) ?_
  intro w3_2 b3_2 h3_2
  have b3_2 : Blk w3_2 g0_0 33 #[.slice none 0 0, .slice none 0 0] := b3_2
  have L4 := L2.then_ h3_2 (fun q hq => by cases hq; exact Nat.le_trans L0.size hg0_0)
  refine W.run 2 rfl (W.nx (WC.ret (E.thenR ?_)))
  refine E.retG3 rfl (resA rfl b3_2 ag33 (by rfl)) rfl rfl ?_
  have hod : oddsR s.1 xs a x = (⟨0, 0⟩, 0, (costG xs a x).2.2) := if_neg (by assumption)
  rw [hod]
  exact ⟨none, 0, none, 0, by simp only [digs_zero]; rfl, by simp only [digs_zero]; exact OVec.nil _ _ _ _ _ _, by simp only [digs_zero]; exact OVec.nil _ _ _ _ _ _, L4⟩
 refine WC.condN rfl (decide_eq_false c0) ?_
 have hcl := costG_lens (Decidable.not_not.1 (by assumption) : (costG xs a x).2.2 = 0)
 have hwl := wayG_len (costG_inv (Decidable.not_not.1 (by assumption) : (costG xs a x).2.2 = 0)).1
 refine WC.sn (WC.sr ?_)
 refine W.cl go48 rfl rfl (rfof_ok 1 1 w1_3 (by omega) (by omega) (by omega)) ?_
 rintro _ w4_0 ⟨An4_0, cn4_0, Ad4_0, cd4_0, rfl, on4_0, od4_0, h4_0⟩
 have L5 := L2.trans h4_0
 refine W.run 1 rfl ?_
 refine W.a (.extract (v := .agg #[.slice An4_0 ((digs ((lowF 1 1).n)).length) cn4_0, .slice Ad4_0 ((digs ((lowF 1 1).d)).length) cd4_0]) rfl rfl) ?_
 refine W.run 1 rfl (W.ef rfl rfl rfl ?_)
 refine Ef.allocA z33 ?_
 intro g4_4 w4_4 hg4_4 b4_4 h4_4
 have L6 := L5.trans h4_4
 have b4_4 : Blk w4_4 g4_4 33 #[.slice none 0 0, .slice none 0 0] := b4_4
 refine W.ef0 rfl rfl ?_
 refine Ef.storeAll sz33 (by rfl) rfl rfl b4_4 (by rfl) (by simp [Value.oneCell']) ?_
 intro w4_5 b4_5 h4_5
 have b4_5 : Blk w4_5 g4_4 33 #[.slice An4_0 ((digs ((lowF 1 1).n)).length) cn4_0, .slice Ad4_0 ((digs ((lowF 1 1).d)).length) cd4_0] := b4_5
 have L7 := L6.then_ h4_5 (fun q hq => by cases hq; exact Nat.le_trans L5.size hg4_4)
 refine W.run 1 rfl (W.nx (WC.seq (WC.sr (W.run 1 rfl (W.nx (WC.block ?_))))))
 have f8 := ((on4_0.le h4_4).ch h4_5 (fun q hq => by cases hq; exact (fun he => by have := (on4_0.row he).2; omega)))
 have f9 := ((od4_0.le h4_4).ch h4_5 (fun q hq => by cases hq; exact (fun he => by have := (od4_0.row he).2; omega)))
 have f10 := ((hP.le (h0_0.trans (h1_3.trans (h4_0.trans h4_4)))).ch h4_5 (fun q hqq hF => by cases hqq; have := hP.lt hF; have := h0_0.size; have := h1_3.size; have := h4_0.size; have := hg4_4; omega))
 have f11 := ((b0_0.le (h1_3.trans (h4_0.trans h4_4))).ch h4_5 (fun h => (show g4_4 ≠ g0_0 from by have := b0_0.lt; have := h1_3.size; have := h4_0.size; omega) (Option.some.inj h)))
 have f12 := ((oa1_3.le (h4_0.trans h4_4)).ch h4_5 (fun q hq => by cases hq; exact (fun he => by have := (oa1_3.row he).2; have := h4_0.size; omega)))
 refine WC.loop (ι := Nat × ((Option Addr)) × Nat × ((Option Addr)) × Nat) (fun ⟨k, Ax, cx, Ay, cy⟩ => [(0, .pointer (some ⟨gp, 0, none⟩)), (1, .slice A n c), (8, .pointer (some ⟨g0_0, 0, none⟩)), (11, .slice Aa1_3 ((costG xs a x).1.length) ca1_3), (14, .pointer (some ⟨g4_4, 0, none⟩)), (16, .int .i64 (((k : Nat) : Int)))]) (fun ⟨k, Ax, cx, Ay, cy⟩ wl0 => (k ≤ n) ∧ Le w wl0 ∧ w4_5.heap.size ≤ wl0.heap.size ∧ RMPool wl0 base gp F s ∧ Blk wl0 g0_0 33 #[.slice none 0 0, .slice none 0 0] ∧ OVec wl0 w0_0.heap.size 3 iv 1 Aa1_3 ((costG xs a x).1.length) ca1_3 ((costG xs a x).1) ∧ Blk wl0 g4_4 33 #[.slice Ax ((digs (accO s.1 xs (costG xs a x).1 k).n).length) cx, .slice Ay ((digs (accO s.1 xs (costG xs a x).1 k).d).length) cy] ∧ OVec wl0 w1_3.heap.size 122 dv 1 Ax ((digs (accO s.1 xs (costG xs a x).1 k).n).length) cx (digs (accO s.1 xs (costG xs a x).1 k).n) ∧ OVec wl0 w1_3.heap.size 122 dv 1 Ay ((digs (accO s.1 xs (costG xs a x).1 k).d).length) cy (digs (accO s.1 xs (costG xs a x).1 k).d)) (fun ⟨k, Ax, cx, Ay, cy⟩ => n - k) (0, An4_0, cn4_0, Ad4_0, cd4_0) ?_ ?_ ?_
 ·exact .cons rfl (.cons rfl (.cons rfl (.cons rfl (.cons rfl (.cons rfl (.nil _))))))
 ·exact ⟨Nat.zero_le _, L7, Nat.le_refl _, f10, f11, f12, b4_5, f8, f9⟩
 rintro ⟨k, Ax, cx, Ay, cy⟩ wl0 ⟨hk, Ll0, zl0, f0_0, f0_1, f0_2, f0_3, f0_4, f0_5⟩
 have lb0_4 : w0_0.heap.size ≤ wl0.heap.size := by have := h1_3.size; have := h4_0.size; have := h4_4.size; have := h4_5.size; omega
 have lb0_6 : w1_3.heap.size ≤ wl0.heap.size := by have := h4_0.size; have := h4_4.size; have := h4_5.size; omega
 have lb0_7 : w1_3.heap.size ≤ wl0.heap.size := by have := h4_0.size; have := h4_4.size; have := h4_5.size; omega
 have hal := accO_len hgm xs (costG xs a x).1 k
 have hol := oddsM_len hgm (xs.getD k noEdge) ((costG xs a x).1.getD k 0)
 refine WC.seq (WC.sr (W.run 2 rfl ?_))
 refine W.r (.len Tryz.underlying22 rfl) ?_
 refine W.run 1 rfl (W.nx ?_)
 by_cases c1 : ((k : Nat) : Int) < ((n : Nat) : Int)
 ·refine WC.condY rfl (decide_eq_true c1) ?_
  refine WC.sn (WC.seq (WC.block (WC.seq ?_)))
  refine WC.drawT (fun o => (app o [0, 1, 2, 3, 4, 5, 6, 7, 8] (.br (app o [9, 10, 11, 12, 13, 14, 15] .nil) (app o [13, 9, 10, 11, 12, 14, 15] .nil)))) mixed (by kernel_rfl) ?_
  intro w8 d8
  have L13 := Ll0.trans d8
  refine GT.app ?_
  refine G.run 3 rfl ?_
  refine G.a rfl (.idxS (k) Tryz.underlying22 sz51 rfl rfl (hV.isSome edgeV_row (by omega)) (rfl) (by omega)) ?_
  refine G.r rfl (.vload ag51 rfl (hV.le L13) edgeV_row (getS xs noEdge (by omega))) ?_
  refine G.run 2 rfl ?_
  refine G.a rfl (.idxS (k) Tryz.underlying24 sz3 rfl rfl (oa1_3.vec.isSome iv_row (by omega)) (rfl) (by omega)) ?_
  have f14 := (f0_2.le d8)
  refine G.r rfl (.vone (v := .int .i64 ((((costG xs a x).1).getD k 0))) na3 rfl f14.vec iv_row (getS ((costG xs a x).1) 0 (by first | omega | (simp only [List.length_cons, List.length_nil]; omega))) rfl) ?_
  refine G.nil ?_
  refine GT.br ?_ ?_
  ·refine GT.last ?_
   have f15 := (f0_0.le d8)
   refine G.ef rfl rfl rfl rfl rfl ?_
   refine Ef.call go49 rfl rfl (rodds_rm (xs.getD k noEdge) (((costG xs a x).1).getD k 0) w8 f15 (by omega)) ?_
   rintro _ w8_9 ⟨An8_9, cn8_9, Ad8_9, cd8_9, rfl, on8_9, od8_9, h8_9⟩
   refine ⟨_, rfl, ?_⟩
   refine ⟨fun _ => h8_9, ?_⟩
   have L16 := L13.trans h8_9
   refine G.run 1 rfl ?_
   refine G.a rfl (.extract (v := .agg #[.slice An8_9 ((digs ((oddsM s.1 (xs.getD k noEdge) (((costG xs a x).1).getD k 0)).n)).length) cn8_9, .slice Ad8_9 ((digs ((oddsM s.1 (xs.getD k noEdge) (((costG xs a x).1).getD k 0)).d)).length) cd8_9]) rfl rfl) ?_
   refine G.run 1 rfl ?_
   refine G.ef rfl rfl rfl rfl rfl ?_
   refine Ef.allocA z33 ?_
   intro g8_13 w8_13 hg8_13 b8_13 h8_13
   refine ⟨fun _ => h8_13, ?_⟩
   have L17 := L16.trans h8_13
   have b8_13 : Blk w8_13 g8_13 33 #[.slice none 0 0, .slice none 0 0] := b8_13
   refine G.ef0 rfl rfl rfl rfl ?_
   refine Ef.storeAll sz33 (by rfl) rfl rfl b8_13 (by rfl) (by simp [Value.oneCell']) ?_
   intro w8_14 b8_14 h8_14
   refine ⟨fun h => absurd h (ne_true_of_eq_false (by kernel_rfl)), ?_⟩
   have b8_14 : Blk w8_14 g8_13 33 #[.slice An8_9 ((digs ((oddsM s.1 (xs.getD k noEdge) (((costG xs a x).1).getD k 0)).n)).length) cn8_9, .slice Ad8_9 ((digs ((oddsM s.1 (xs.getD k noEdge) (((costG xs a x).1).getD k 0)).d)).length) cd8_9] := b8_14
   have L18 := L17.then_ h8_14 (fun q hq => by cases hq; exact Nat.le_trans L16.size hg8_13)
   refine G.run 1 rfl (G.nil (E.thenN (WC.region ?_)))
   have f19 := ((f0_3.le (d8.trans (h8_9.trans h8_13))).ch h8_14 (fun h => (show g8_13 ≠ g4_4 from by have := f0_3.lt; have := d8.size; have := h8_9.size; omega) (Option.some.inj h)))
   refine W.r (.loadAll ag33 (by rfl) rfl f19) ?_
   refine W.r (.loadAll ag33 (by rfl) rfl b8_14) ?_
   have f20 := ((f0_4.le (d8.trans (h8_9.trans h8_13))).ch h8_14 (fun q hq => by cases hq; exact (fun he => by have := (f0_4.row he).2; have := d8.size; have := h8_9.size; omega)))
   have f21 := ((f0_5.le (d8.trans (h8_9.trans h8_13))).ch h8_14 (fun q hq => by cases hq; exact (fun he => by have := (f0_5.row he).2; have := d8.size; have := h8_9.size; omega)))
   have f22 := ((on8_9.le h8_13).ch h8_14 (fun q hq => by cases hq; exact (fun he => by have := (on8_9.row he).2; omega)))
   have f23 := ((od8_9.le h8_13).ch h8_14 (fun q hq => by cases hq; exact (fun he => by have := (od8_9.row he).2; omega)))
   refine W.cl go50 rfl rfl (rfmul_ok w8_14 f20.vec f21.vec (by omega) (by omega) f20.cap.1 f21.cap.1 f22.vec f23.vec (by omega) (by omega) f22.cap.1 f23.cap.1) ?_
   rintro _ w9_2 ⟨An9_2, cn9_2, Ad9_2, cd9_2, rfl, on9_2, od9_2, h9_2⟩
   have L24 := L18.trans h9_2
   have f25 := (f19.le h9_2)
   refine W.ef0 rfl rfl ?_
   refine Ef.storeAll sz33 (by rfl) rfl rfl f25 (by rfl) (by simp [Value.oneCell']) ?_
   intro w9_3 b9_3 h9_3
   have b9_3 : Blk w9_3 g4_4 33 #[.slice An9_2 ((digs ((mulF (takF (⟨((accO s.1 xs (costG xs a x).1 k).n), ((accO s.1 xs (costG xs a x).1 k).d)⟩ : Fr)) (takF (⟨((oddsM s.1 (xs.getD k noEdge) (((costG xs a x).1).getD k 0)).n), ((oddsM s.1 (xs.getD k noEdge) (((costG xs a x).1).getD k 0)).d)⟩ : Fr))).n)).length) cn9_2, .slice Ad9_2 ((digs ((mulF (takF (⟨((accO s.1 xs (costG xs a x).1 k).n), ((accO s.1 xs (costG xs a x).1 k).d)⟩ : Fr)) (takF (⟨((oddsM s.1 (xs.getD k noEdge) (((costG xs a x).1).getD k 0)).n), ((oddsM s.1 (xs.getD k noEdge) (((costG xs a x).1).getD k 0)).d)⟩ : Fr))).d)).length) cd9_2] := b9_3
   have L26 := L24.then_ h9_3 (fun q hq => by cases hq; exact Nat.le_trans L5.size hg4_4)
   refine W.nil (E.blkN (E.thenN (WC.region (W.run 1 rfl ?_))))
   refine W.a (.add rfl rfl (by omega)) ?_
   refine W.run 1 rfl (W.nil ?_)
   have f27 := ((((f15.le (h8_9.trans h8_13)).ch h8_14 (fun q hqq hF => by cases hqq; have := f15.lt hF; have := h8_9.size; have := hg8_13; omega)).le h9_2).ch h9_3 (fun q hqq hF => by cases hqq; have := hP.lt hF; have := h0_0.size; have := h1_3.size; have := h4_0.size; have := hg4_4; omega))
   have f28 := ((((f0_1.le (d8.trans (h8_9.trans h8_13))).ch h8_14 (fun h => (show g8_13 ≠ g0_0 from by have := f0_1.lt; have := d8.size; have := h8_9.size; omega) (Option.some.inj h))).le h9_2).ch h9_3 (fun h => (show g4_4 ≠ g0_0 from by have := b0_0.lt; have := h1_3.size; have := h4_0.size; omega) (Option.some.inj h)))
   have f29 := ((((f14.le (h8_9.trans h8_13)).ch h8_14 (fun q hq => by cases hq; exact (fun he => by have := (f14.row he).2; have := h8_9.size; omega))).le h9_2).ch h9_3 (fun q hq => by cases hq; exact (fun he => by have := (oa1_3.row he).2; have := h4_0.size; omega)))
   have f30 := (on9_2.ch h9_3 (fun q hq => by cases hq; exact (fun he => by have := (on9_2.row he).1; have := f19.lt; omega)))
   have f31 := (od9_2.ch h9_3 (fun q hq => by cases hq; exact (fun he => by have := (od9_2.row he).1; have := f19.lt; omega)))
   refine E.again (k + 1, An9_2, cn9_2, Ad9_2, cd9_2) (.cons rfl (.cons rfl (.cons rfl (.cons rfl (.cons rfl (.cons rfl (.nil _))))))) ?_ ?_
   ·exact ⟨by omega, L26, by have := zl0; have := d8.size; have := h8_9.size; have := h8_13.size; have := h8_14.size; have := h9_2.size; have := h9_3.size; omega, f27, f28, f29, b9_3, (f30.mono (by have := d8.size; have := h8_9.size; have := h8_13.size; have := h8_14.size; omega)), (f31.mono (by have := d8.size; have := h8_9.size; have := h8_13.size; have := h8_14.size; omega))⟩
   first | omega | (simp only []; omega)
  refine GT.last ?_
  refine G.ef rfl rfl rfl rfl rfl ?_
  refine Ef.allocA z33 ?_
  intro g8_13_1 w8_13_1 hg8_13_1 b8_13_1 h8_13_1
  refine ⟨fun _ => h8_13_1, ?_⟩
  have L32 := L13.trans h8_13_1
  have b8_13_1 : Blk w8_13_1 g8_13_1 33 #[.slice none 0 0, .slice none 0 0] := b8_13_1
  have f33 := (f0_0.le (d8.trans h8_13_1))
  refine G.ef rfl rfl rfl rfl rfl ?_
  refine Ef.call go49 rfl rfl (rodds_rm (xs.getD k noEdge) (((costG xs a x).1).getD k 0) w8_13_1 f33 (by omega)) ?_
  rintro _ w8_9_1 ⟨An8_9_1, cn8_9_1, Ad8_9_1, cd8_9_1, rfl, on8_9_1, od8_9_1, h8_9_1⟩
  refine ⟨_, rfl, ?_⟩
  refine ⟨fun _ => h8_9_1, ?_⟩
  have L34 := L32.trans h8_9_1
  refine G.run 1 rfl ?_
  refine G.a rfl (.extract (v := .agg #[.slice An8_9_1 ((digs ((oddsM s.1 (xs.getD k noEdge) (((costG xs a x).1).getD k 0)).n)).length) cn8_9_1, .slice Ad8_9_1 ((digs ((oddsM s.1 (xs.getD k noEdge) (((costG xs a x).1).getD k 0)).d)).length) cd8_9_1]) rfl rfl) ?_
  refine G.run 1 rfl ?_
  have f35 := (b8_13_1.le h8_9_1)
  refine G.ef0 rfl rfl rfl rfl ?_
  refine Ef.storeAll sz33 (by rfl) rfl rfl f35 (by rfl) (by simp [Value.oneCell']) ?_
  intro w8_14_1 b8_14_1 h8_14_1
  refine ⟨fun h => absurd h (ne_true_of_eq_false (by kernel_rfl)), ?_⟩
  have b8_14_1 : Blk w8_14_1 g8_13_1 33 #[.slice An8_9_1 ((digs ((oddsM s.1 (xs.getD k noEdge) (((costG xs a x).1).getD k 0)).n)).length) cn8_9_1, .slice Ad8_9_1 ((digs ((oddsM s.1 (xs.getD k noEdge) (((costG xs a x).1).getD k 0)).d)).length) cd8_9_1] := b8_14_1
  have L36 := L34.then_ h8_14_1 (fun q hq => by cases hq; exact Nat.le_trans L13.size hg8_13_1)
  refine G.run 1 rfl (G.nil (E.thenN (WC.region ?_)))
  have f37 := ((f0_3.le (d8.trans (h8_13_1.trans h8_9_1))).ch h8_14_1 (fun h => (show g8_13_1 ≠ g4_4 from by have := f0_3.lt; have := d8.size; omega) (Option.some.inj h)))
  refine W.r (.loadAll ag33 (by rfl) rfl f37) ?_
  refine W.r (.loadAll ag33 (by rfl) rfl b8_14_1) ?_
  have f38 := ((f0_4.le (d8.trans (h8_13_1.trans h8_9_1))).ch h8_14_1 (fun q hq => by cases hq; exact (fun he => by have := (f0_4.row he).2; have := d8.size; omega)))
  have f39 := ((f0_5.le (d8.trans (h8_13_1.trans h8_9_1))).ch h8_14_1 (fun q hq => by cases hq; exact (fun he => by have := (f0_5.row he).2; have := d8.size; omega)))
  have f40 := (on8_9_1.ch h8_14_1 (fun q hq => by cases hq; exact (fun he => by have := (on8_9_1.row he).1; have := b8_13_1.lt; omega)))
  have f41 := (od8_9_1.ch h8_14_1 (fun q hq => by cases hq; exact (fun he => by have := (od8_9_1.row he).1; have := b8_13_1.lt; omega)))
  refine W.cl go50 rfl rfl (rfmul_ok w8_14_1 f38.vec f39.vec (by omega) (by omega) f38.cap.1 f39.cap.1 f40.vec f41.vec (by omega) (by omega) f40.cap.1 f41.cap.1) ?_
  rintro _ w9_2_1 ⟨An9_2_1, cn9_2_1, Ad9_2_1, cd9_2_1, rfl, on9_2_1, od9_2_1, h9_2_1⟩
  have L42 := L36.trans h9_2_1
  have f43 := (f37.le h9_2_1)
  refine W.ef0 rfl rfl ?_
  refine Ef.storeAll sz33 (by rfl) rfl rfl f43 (by rfl) (by simp [Value.oneCell']) ?_
  intro w9_3_1 b9_3_1 h9_3_1
  have b9_3_1 : Blk w9_3_1 g4_4 33 #[.slice An9_2_1 ((digs ((mulF (takF (⟨((accO s.1 xs (costG xs a x).1 k).n), ((accO s.1 xs (costG xs a x).1 k).d)⟩ : Fr)) (takF (⟨((oddsM s.1 (xs.getD k noEdge) (((costG xs a x).1).getD k 0)).n), ((oddsM s.1 (xs.getD k noEdge) (((costG xs a x).1).getD k 0)).d)⟩ : Fr))).n)).length) cn9_2_1, .slice Ad9_2_1 ((digs ((mulF (takF (⟨((accO s.1 xs (costG xs a x).1 k).n), ((accO s.1 xs (costG xs a x).1 k).d)⟩ : Fr)) (takF (⟨((oddsM s.1 (xs.getD k noEdge) (((costG xs a x).1).getD k 0)).n), ((oddsM s.1 (xs.getD k noEdge) (((costG xs a x).1).getD k 0)).d)⟩ : Fr))).d)).length) cd9_2_1] := b9_3_1
  have L44 := L42.then_ h9_3_1 (fun q hq => by cases hq; exact Nat.le_trans L5.size hg4_4)
  refine W.nil (E.blkN (E.thenN (WC.region (W.run 1 rfl ?_))))
  refine W.a (.add rfl rfl (by omega)) ?_
  refine W.run 1 rfl (W.nil ?_)
  have f45 := ((((f33.le h8_9_1).ch h8_14_1 (fun q hqq hF => by cases hqq; have := f0_0.lt hF; have := d8.size; have := hg8_13_1; omega)).le h9_2_1).ch h9_3_1 (fun q hqq hF => by cases hqq; have := hP.lt hF; have := h0_0.size; have := h1_3.size; have := h4_0.size; have := hg4_4; omega))
  have f46 := ((((f0_1.le (d8.trans (h8_13_1.trans h8_9_1))).ch h8_14_1 (fun h => (show g8_13_1 ≠ g0_0 from by have := f0_1.lt; have := d8.size; omega) (Option.some.inj h))).le h9_2_1).ch h9_3_1 (fun h => (show g4_4 ≠ g0_0 from by have := b0_0.lt; have := h1_3.size; have := h4_0.size; omega) (Option.some.inj h)))
  have f47 := ((((f14.le (h8_13_1.trans h8_9_1)).ch h8_14_1 (fun q hq => by cases hq; exact (fun he => by have := (f14.row he).2; omega))).le h9_2_1).ch h9_3_1 (fun q hq => by cases hq; exact (fun he => by have := (oa1_3.row he).2; have := h4_0.size; omega)))
  have f48 := (on9_2_1.ch h9_3_1 (fun q hq => by cases hq; exact (fun he => by have := (on9_2_1.row he).1; have := f37.lt; omega)))
  have f49 := (od9_2_1.ch h9_3_1 (fun q hq => by cases hq; exact (fun he => by have := (od9_2_1.row he).1; have := f37.lt; omega)))
  refine E.again (k + 1, An9_2_1, cn9_2_1, Ad9_2_1, cd9_2_1) (.cons rfl (.cons rfl (.cons rfl (.cons rfl (.cons rfl (.cons rfl (.nil _))))))) ?_ ?_
  ·exact ⟨by omega, L44, by have := zl0; have := d8.size; have := h8_13_1.size; have := h8_9_1.size; have := h8_14_1.size; have := h9_2_1.size; have := h9_3_1.size; omega, f45, f46, f47, b9_3_1, (f48.mono (by have := d8.size; have := h8_13_1.size; have := h8_9_1.size; have := h8_14_1.size; omega)), (f49.mono (by have := d8.size; have := h8_13_1.size; have := h8_9_1.size; have := h8_14_1.size; omega))⟩
  first | omega | (simp only []; omega)
 refine WC.condN rfl (decide_eq_false c1) ?_
 refine WC.exit (E.thenX (E.thenX (E.blkH (E.thenN (WC.seq ?_)))))
 refine WC.drawS (fun w10 w' => Le w w' ∧ Blk w' g4_4 33 #[.slice Ax ((digs (accO s.1 xs (costG xs a x).1 k).n).length) cx, .slice Ay ((digs (accO s.1 xs (costG xs a x).1 k).d).length) cy] ∧ OVec w' w1_3.heap.size 122 dv 1 Ax ((digs (accO s.1 xs (costG xs a x).1 k).n).length) cx (digs (accO s.1 xs (costG xs a x).1 k).n) ∧ OVec w' w1_3.heap.size 122 dv 1 Ay ((digs (accO s.1 xs (costG xs a x).1 k).d).length) cy (digs (accO s.1 xs (costG xs a x).1 k).d) ∧ OVec w' w0_0.heap.size 3 iv 1 Aa1_3 ((costG xs a x).1.length) ca1_3 ((costG xs a x).1)) [0, 1, 2, 3, 4, 5, 6] mixed (by kernel_rfl) ?_
 intro w10 d10
 have L50 := Ll0.trans d10
 have f51 := (f0_3.le d10)
 have f52 := (f0_4.le d10)
 have f53 := (f0_5.le d10)
 have f54 := (f0_2.le d10)
 refine ⟨⟨L50, f51, f52, f53, f54⟩, ?_⟩
 refine GS.rd rfl rfl (fun w' hs => .loadAll ag33 (by rfl) rfl hs.2.1) rfl rfl rfl ?_
 refine GS.any rfl rfl (.move rfl) rfl rfl rfl ?_
 refine GS.any rfl rfl (.idxS (0) Tryz.underlying24 sz3 rfl rfl (oa1_3.vec.isSome iv_row (by omega)) (rfl) (by omega)) rfl rfl rfl ?_
 refine GS.rd rfl rfl (fun w' hs => .vone (v := .int .i64 ((((costG xs a x).1).getD 0 0))) na3 rfl hs.2.2.2.2.vec iv_row (getS ((costG xs a x).1) 0 (by first | omega | (simp only [List.length_cons, List.length_nil]; omega))) rfl) rfl rfl rfl ?_
 have f55 := (f0_1.le d10)
 refine GS.ef0 rfl rfl rfl rfl ?_
 refine Ef.storeAll sz33 (by rfl) rfl rfl f55 (by rfl) (by simp [Value.oneCell']) ?_
 intro w10_4 b10_4 h10_4
 have b10_4 : Blk w10_4 g0_0 33 #[.slice Ax ((digs (accO s.1 xs (costG xs a x).1 k).n).length) cx, .slice Ay ((digs (accO s.1 xs (costG xs a x).1 k).d).length) cy] := b10_4
 have L56 := L50.then_ h10_4 (fun q hq => by cases hq; exact Nat.le_trans L0.size hg0_0)
 have f57 := (f51.ch h10_4 (fun h => (show g0_0 ≠ g4_4 from by have := b0_0.lt; have := h1_3.size; have := h4_0.size; omega) (Option.some.inj h)))
 have f58 := (f52.ch h10_4 (fun q hq => by cases hq; exact (fun he => by have := (f52.row he).1; have := b0_0.lt; have := h1_3.size; omega)))
 have f59 := (f53.ch h10_4 (fun q hq => by cases hq; exact (fun he => by have := (f53.row he).1; have := b0_0.lt; have := h1_3.size; omega)))
 have f60 := (f54.ch h10_4 (fun q hq => by cases hq; exact (fun he => by have := (f54.row he).1; have := b0_0.lt; omega)))
 refine ⟨⟨L56, f57, f58, f59, f60⟩, ?_⟩
 refine GS.any rfl rfl (.assign rfl) rfl rfl rfl ?_
 refine GS.any rfl rfl (.assign rfl) rfl rfl rfl ?_
 refine GS.nil ?_
 refine E.thenN (WC.ret ?_)
 refine E.retG3 rfl (resA rfl b10_4 ag33 (by rfl)) rfl rfl ?_
 have hkn : k = n := (by omega)
 subst hkn
 have hod : oddsR s.1 xs a x = (accO s.1 xs (costG xs a x).1 xs.length, (costG xs a x).1.getD 0 0, 0) := if_pos (Decidable.not_not.1 (by assumption))
 rw [hod, hl]
 exact ⟨_, _, _, _, rfl, (f58.mono L2.size), (f59.mono L2.size), L56⟩

theorem r38better_ok {Aw1 An1 Ad1 : Option Addr} {nw1 cw1 nn1 cn1 nd1 cd1 p1 q1 : Nat} {ws1 : List Gsp.Edge} {s1 : Int} {z1 : Bool} {Aw2 An2 Ad2 : Option Addr} {nw2 cw2 nn2 cn2 nd2 cd2 p2 q2 : Nat} {ws2 : List Gsp.Edge} {s2 : Int} {z2 : Bool} (w : World) (hw1 : Vec w edgeV 9 Aw1 nw1 ws1) (hn1 : Vec w dv 1 An1 nn1 (digs p1)) (hd1 : Vec w dv 1 Ad1 nd1 (digs q1)) (bw1 : nw1 ≤ 10000) (bn1 : nn1 ≤ 10000) (bd1 : nd1 ≤ 10000) (kn1 : nn1 ≤ cn1) (kd1 : nd1 ≤ cd1) (hw2 : Vec w edgeV 9 Aw2 nw2 ws2) (hn2 : Vec w dv 1 An2 nn2 (digs p2)) (hd2 : Vec w dv 1 Ad2 nd2 (digs q2)) (bw2 : nw2 ≤ 10000) (bn2 : nn2 ≤ 10000) (bd2 : nd2 ≤ 10000) (kn2 : nn2 ≤ cn2) (kd2 : nd2 ≤ cd2) : Calls Tryz.prog 83 #[.agg #[.slice Aw1 nw1 cw1, .slice An1 nn1 cn1, .slice Ad1 nd1 cd1, .int .i64 (s1), .bool (z1)], .agg #[.slice Aw2 nw2 cw2, .slice An2 nn2 cn2, .slice Ad2 nd2 cd2, .int .i64 (s2), .bool (z2)]] w fun r w' => r = .returned (.bool (betQ (⟨ws1, ⟨p1, q1⟩, s1⟩ : Fnd) ((⟨ws2, ⟨p2, q2⟩, s2⟩ : Fnd), z2))) ∧ Le w w' := by
 have hlw1 := hw1.1; have hln1 := hn1.1; have hld1 := hd1.1
 have hlw2 := hw2.1; have hln2 := hn2.1; have hld2 := hd2.1
 refine enter Tryz.func83 rfl rfl ?_
 have L0 := Le.refl w
 refine WC.sr (W.ef rfl rfl rfl ?_)
 refine Ef.boxA rfl ?_
 intro g0_0 w0_0 hg0_0 b0_0 h0_0
 have L1 := L0.trans h0_0
 have b0_0 : Blk w0_0 g0_0 78 #[.slice Aw1 nw1 cw1, .slice An1 nn1 cn1, .slice Ad1 nd1 cd1, .int .i64 (s1), .bool (z1)] := b0_0
 refine W.ef rfl rfl rfl ?_
 refine Ef.boxA rfl ?_
 intro g0_1 w0_1 hg0_1 b0_1 h0_1
 have L2 := L1.trans h0_1
 have b0_1 : Blk w0_1 g0_1 78 #[.slice Aw2 nw2 cw2, .slice An2 nn2 cn2, .slice Ad2 nd2 cd2, .int .i64 (s2), .bool (z2)] := b0_1
 refine W.run 1 rfl (W.nx (WC.seq (WC.sr ?_)))
 refine W.a (.field0 fa78_3 rfl) ?_
 refine W.r (.loadB (v := .bool (z2)) na4 rfl b0_1 rfl) ?_
 refine W.run 1 rfl (W.nx ?_)
 by_cases c0 : z2 = true
 ·refine WC.condN rfl (congrArg not (c0)) ?_
  refine WC.sn (WC.sr ?_)
  refine W.a (.field0 fa78_1 rfl) ?_
  have f3 := (b0_0.le h0_1)
  refine W.r (.bpart [.slice An1 nn1 cn1, .slice Ad1 nd1 cd1] ag33 rfl (by decide) rfl f3 rfl) ?_
  refine W.a (.field0 fa78_1 rfl) ?_
  refine W.r (.bpart [.slice An2 nn2 cn2, .slice Ad2 nd2 cd2] ag33 rfl (by decide) rfl b0_1 rfl) ?_
  refine W.cl go82 rfl rfl (rfcmp_ok w0_1 (hn1.le L2) (hd1.le L2) (by omega) (by omega) (by omega) (by omega) (hn2.le L2) (hd2.le L2) (by omega) (by omega) (by omega) (by omega)) ?_
  rintro _ w3_4 ⟨rfl, h3_4⟩
  have L4 := L2.trans h3_4
  refine W.run 1 rfl (W.nx (WC.seq (WC.sr (W.run 2 rfl ?_))))
  by_cases q4_2 : (cmpF (takF (⟨p1, q1⟩ : Fr)) (takF (⟨p2, q2⟩ : Fr))) ≠ 0
  ·refine W.dt q4_2 rfl rfl (W.run 6 rfl (W.nx (WC.condT rfl (WC.sr (W.run 2 rfl ?_)))))
   by_cases q5_2 : 0 < (cmpF (takF (⟨p1, q1⟩ : Fr)) (takF (⟨p2, q2⟩ : Fr)))
   ·refine W.dt q5_2 rfl rfl (W.run 3 rfl ?_)
    refine W.skipu rfl rfl rfl rfl rfl ?_
    refine W.skipu rfl rfl rfl rfl rfl ?_
    refine W.skipu rfl rfl rfl rfl rfl ?_
    refine W.skipu rfl rfl rfl rfl rfl ?_
    refine W.skipu rfl rfl rfl rfl rfl ?_
    refine W.run 3 rfl (W.nx (WC.ret (E.thenR ?_)))
    refine E.retG1 rfl rfl ?_
    have hz2 : z2 = true := by first | assumption | (cases z2 <;> simp_all)
    subst hz2
    exact ⟨rB ((Bool.eq_iff_iff.2 (by rw [bet_num]; simp only [decide_eq_true_eq, Bool.false_eq_true, false_iff, true_iff]; omega)) : _ = betQ (⟨ws1, ⟨p1, q1⟩, s1⟩ : Fnd) ((⟨ws2, ⟨p2, q2⟩, s2⟩ : Fnd), true)), L4⟩
   refine W.df q5_2 rfl rfl (W.run 2 rfl ?_)
   by_cases q5_5 : (cmpF (takF (⟨p1, q1⟩ : Fr)) (takF (⟨p2, q2⟩ : Fr))) = 0
   ·refine W.g (Any.rd (.dec (.move rfl) (decide_eq_true q5_5)) _) ?_
    refine W.g (Any.rd (.field0 fa78_2 rfl) _) ?_
    have f5 := (f3.le h3_4)
    refine W.g (.loadB (v := .int .i64 (s1)) na3 rfl f5 rfl) ?_
    refine W.g (Any.rd (.field0 fa78_2 rfl) _) ?_
    have f6 := (b0_1.le h3_4)
    refine W.g (.loadB (v := .int .i64 (s2)) na3 rfl f6 rfl) ?_
    refine W.run 1 rfl ?_
    refine W.g (Any.rd (.pickT rfl rfl rfl) _) ?_
    refine W.run 2 rfl (W.nx (WC.ret (E.thenR ?_)))
    refine E.retG1 rfl rfl ?_
    have hz2 : z2 = true := by first | assumption | (cases z2 <;> simp_all)
    subst hz2
    exact ⟨rB ((Bool.eq_iff_iff.2 (by rw [bet_num]; simp only [decide_eq_true_eq, Bool.false_eq_true, false_iff, true_iff]; omega)) : _ = betQ (⟨ws1, ⟨p1, q1⟩, s1⟩ : Fnd) ((⟨ws2, ⟨p2, q2⟩, s2⟩ : Fnd), true)), L4⟩
   refine W.g (Any.rd (.dec (.move rfl) (decide_eq_false q5_5)) _) ?_
   refine W.run 5 rfl ?_
   refine W.g (Any.rd (.pickF rfl rfl rfl) _) ?_
   refine W.run 2 rfl (W.nx (WC.ret (E.thenR ?_)))
   refine E.retG1 rfl rfl ?_
   have hz2 : z2 = true := by first | assumption | (cases z2 <;> simp_all)
   subst hz2
   exact ⟨rB ((Bool.eq_iff_iff.2 (by rw [bet_num]; simp only [decide_eq_true_eq, Bool.false_eq_true, false_iff, true_iff]; omega)) : _ = betQ (⟨ws1, ⟨p1, q1⟩, s1⟩ : Fnd) ((⟨ws2, ⟨p2, q2⟩, s2⟩ : Fnd), true)), L4⟩
  refine W.df q4_2 rfl rfl ?_
  refine W.g (Any.rd (.field0 fa78_2 rfl) _) ?_
  have f7 := (f3.le h3_4)
  refine W.g (.loadB (v := .int .i64 (s1)) na3 rfl f7 rfl) ?_
  refine W.g (Any.rd (.field0 fa78_2 rfl) _) ?_
  have f8 := (b0_1.le h3_4)
  refine W.g (.loadB (v := .int .i64 (s2)) na3 rfl f8 rfl) ?_
  refine W.run 2 rfl (W.nx ?_)
  by_cases c1 : s1 ≠ s2
  ·refine WC.condY rfl (decide_eq_true c1) ?_
   refine WC.sr (W.run 2 rfl ?_)
   by_cases q5_2 : 0 < (cmpF (takF (⟨p1, q1⟩ : Fr)) (takF (⟨p2, q2⟩ : Fr)))
   ·refine W.dt q5_2 rfl rfl (W.run 3 rfl ?_)
    refine W.skipu rfl rfl rfl rfl rfl ?_
    refine W.skipu rfl rfl rfl rfl rfl ?_
    refine W.skipu rfl rfl rfl rfl rfl ?_
    refine W.skipu rfl rfl rfl rfl rfl ?_
    refine W.skipu rfl rfl rfl rfl rfl ?_
    refine W.run 3 rfl (W.nx (WC.ret (E.thenR ?_)))
    refine E.retG1 rfl rfl ?_
    have hz2 : z2 = true := by first | assumption | (cases z2 <;> simp_all)
    subst hz2
    exact ⟨rB ((Bool.eq_iff_iff.2 (by rw [bet_num]; simp only [decide_eq_true_eq, Bool.false_eq_true, false_iff, true_iff]; omega)) : _ = betQ (⟨ws1, ⟨p1, q1⟩, s1⟩ : Fnd) ((⟨ws2, ⟨p2, q2⟩, s2⟩ : Fnd), true)), L4⟩
   refine W.df q5_2 rfl rfl (W.run 2 rfl ?_)
   by_cases q5_5 : (cmpF (takF (⟨p1, q1⟩ : Fr)) (takF (⟨p2, q2⟩ : Fr))) = 0
   ·refine W.g (Any.rd (.dec (.move rfl) (decide_eq_true q5_5)) _) ?_
    refine W.g (Any.rd (.field0 fa78_2 rfl) _) ?_
    refine W.g (.loadB (v := .int .i64 (s1)) na3 rfl f7 rfl) ?_
    refine W.g (Any.rd (.field0 fa78_2 rfl) _) ?_
    refine W.g (.loadB (v := .int .i64 (s2)) na3 rfl f8 rfl) ?_
    refine W.run 1 rfl ?_
    refine W.g (Any.rd (.pickT rfl rfl rfl) _) ?_
    refine W.run 2 rfl (W.nx (WC.ret (E.thenR ?_)))
    refine E.retG1 rfl rfl ?_
    have hz2 : z2 = true := by first | assumption | (cases z2 <;> simp_all)
    subst hz2
    exact ⟨rB ((Bool.eq_iff_iff.2 (by rw [bet_num]; simp only [decide_eq_true_eq, Bool.false_eq_true, false_iff, true_iff]; omega)) : _ = betQ (⟨ws1, ⟨p1, q1⟩, s1⟩ : Fnd) ((⟨ws2, ⟨p2, q2⟩, s2⟩ : Fnd), true)), L4⟩
   refine W.g (Any.rd (.dec (.move rfl) (decide_eq_false q5_5)) _) ?_
   refine W.run 5 rfl ?_
   refine W.g (Any.rd (.pickF rfl rfl rfl) _) ?_
   refine W.run 2 rfl (W.nx (WC.ret (E.thenR ?_)))
   refine E.retG1 rfl rfl ?_
   have hz2 : z2 = true := by first | assumption | (cases z2 <;> simp_all)
   subst hz2
   exact ⟨rB ((Bool.eq_iff_iff.2 (by rw [bet_num]; simp only [decide_eq_true_eq, Bool.false_eq_true, false_iff, true_iff]; omega)) : _ = betQ (⟨ws1, ⟨p1, q1⟩, s1⟩ : Fnd) ((⟨ws2, ⟨p2, q2⟩, s2⟩ : Fnd), true)), L4⟩
  refine WC.condN rfl (decide_eq_false c1) ?_
  refine WC.sn (WC.seq (WC.sr (W.run 1 rfl (W.nx (WC.block ?_)))))
  refine WC.loop (ι := Nat) (fun k => [(2, .pointer (some ⟨g0_0, 0, none⟩)), (3, .pointer (some ⟨g0_1, 0, none⟩)), (6, .int .i64 (((k : Nat) : Int)))]) (fun k wl0 => (k ≤ nw1 ∧ k ≤ nw2) ∧ (rowsC ws1 ws2 = rowsC (ws1.drop k) (ws2.drop k)) ∧ Le w wl0 ∧ w3_4.heap.size ≤ wl0.heap.size ∧ Blk wl0 g0_0 78 #[.slice Aw1 nw1 cw1, .slice An1 nn1 cn1, .slice Ad1 nd1 cd1, .int .i64 (s1), .bool (z1)] ∧ Blk wl0 g0_1 78 #[.slice Aw2 nw2 cw2, .slice An2 nn2 cn2, .slice Ad2 nd2 cd2, .int .i64 (s2), .bool (z2)]) (fun k => nw1 - k) 0 ?_ ?_ ?_
  ·exact .cons rfl (.cons rfl (.cons rfl (.nil _)))
  ·exact ⟨⟨Nat.zero_le _, Nat.zero_le _⟩, rfl, L4, Nat.le_refl _, f7, f8⟩
  rintro k wl0 ⟨hk, hrk, Ll0, zl0, f0_0, f0_1⟩
  refine WC.seq (WC.sr (W.run 1 rfl ?_))
  refine W.a (.field0 fa78_0 rfl) ?_
  refine W.r (.loadB (v := .slice Aw1 nw1 cw1) na22 rfl f0_0 rfl) ?_
  refine W.r (.len Tryz.underlying22 rfl) ?_
  refine W.run 1 rfl ?_
  by_cases q7_5 : ((k : Nat) : Int) < ((nw1 : Nat) : Int)
  ·refine W.dt q7_5 rfl rfl (W.run 1 rfl ?_)
   refine W.g (Any.rd (.field0 fa78_0 rfl) _) ?_
   refine W.g (.loadB (v := .slice Aw2 nw2 cw2) na22 rfl f0_1 rfl) ?_
   refine W.g (.len Tryz.underlying22 rfl) ?_
   refine W.run 2 rfl (W.nx ?_)
   by_cases c2 : ((k : Nat) : Int) < ((nw2 : Nat) : Int)
   ·refine WC.condY rfl (decide_eq_true c2) ?_
    refine WC.sn (WC.seq (WC.block (WC.seq ?_)))
    refine WC.draw [0, 1, 2, 3, 4, 5, 6, 7, 8, 9, 10, 11, 12] mixed (by kernel_rfl) ?_
    intro w9 d9
    have L9 := Ll0.trans d9
    refine G.a rfl (.field0 fa78_0 rfl) ?_
    have f10 := (f0_0.le d9)
    refine G.r rfl (.loadB (v := .slice Aw1 nw1 cw1) na22 rfl f10 rfl) ?_
    refine G.run 1 rfl ?_
    refine G.a rfl (.idxS (k) Tryz.underlying22 sz51 rfl rfl (hw1.isSome edgeV_row (by omega)) (rfl) (by omega)) ?_
    refine G.a rfl (.vfield fa51_2 (hw1.isSome edgeV_row (by omega)) rfl) ?_
    refine G.r rfl (.vcell (j := k) (o := 2) (v := .int .i64 ((ws1.getD k noEdge).c)) na3 rfl (hw1.le L9) edgeV_row (getS ws1 noEdge (by omega)) rfl) ?_
    refine G.a rfl (.field0 fa78_0 rfl) ?_
    have f11 := (f0_1.le d9)
    refine G.r rfl (.loadB (v := .slice Aw2 nw2 cw2) na22 rfl f11 rfl) ?_
    refine G.run 1 rfl ?_
    refine G.a rfl (.idxS (k) Tryz.underlying22 sz51 rfl rfl (hw2.isSome edgeV_row (by omega)) (rfl) (by omega)) ?_
    refine G.a rfl (.vfield fa51_2 (hw2.isSome edgeV_row (by omega)) rfl) ?_
    refine G.r rfl (.vcell (j := k) (o := 2) (v := .int .i64 ((ws2.getD k noEdge).c)) na3 rfl (hw2.le L9) edgeV_row (getS ws2 noEdge (by omega)) rfl) ?_
    refine G.run 1 rfl (G.nil (E.thenN ?_))
    by_cases c3 : ((ws1.getD k noEdge).c) ≠ ((ws2.getD k noEdge).c)
    ·refine WC.condY rfl (decide_eq_true c3) ?_
     refine WC.seq ?_
     refine WC.draw [0, 1, 2, 3, 4, 5, 6, 7, 8, 9, 10, 11, 12, 13] mixed (by kernel_rfl) ?_
     intro w10 d10
     have L12 := L9.trans d10
     refine G.a rfl (.field0 fa78_0 rfl) ?_
     have f13 := (f10.le d10)
     refine G.r rfl (.loadB (v := .slice Aw1 nw1 cw1) na22 rfl f13 rfl) ?_
     refine G.run 1 rfl ?_
     refine G.a rfl (.idxS (k) Tryz.underlying22 sz51 rfl rfl (hw1.isSome edgeV_row (by omega)) (rfl) (by omega)) ?_
     refine G.a rfl (.vfield fa51_2 (hw1.isSome edgeV_row (by omega)) rfl) ?_
     refine G.r rfl (.vcell (j := k) (o := 2) (v := .int .i64 ((ws1.getD k noEdge).c)) na3 rfl (hw1.le L12) edgeV_row (getS ws1 noEdge (by omega)) rfl) ?_
     refine G.a rfl (.field0 fa78_0 rfl) ?_
     have f14 := (f11.le d10)
     refine G.r rfl (.loadB (v := .slice Aw2 nw2 cw2) na22 rfl f14 rfl) ?_
     refine G.run 1 rfl ?_
     refine G.a rfl (.idxS (k) Tryz.underlying22 sz51 rfl rfl (hw2.isSome edgeV_row (by omega)) (rfl) (by omega)) ?_
     refine G.a rfl (.vfield fa51_2 (hw2.isSome edgeV_row (by omega)) rfl) ?_
     refine G.r rfl (.vcell (j := k) (o := 2) (v := .int .i64 ((ws2.getD k noEdge).c)) na3 rfl (hw2.le L12) edgeV_row (getS ws2 noEdge (by omega)) rfl) ?_
     refine G.run 2 rfl (G.nil (E.thenN (WC.ret (E.blkR (E.thenR (E.thenR (E.blkR (E.thenR ?_))))))))
     refine E.retG1 rfl rfl ?_
     have hz2 : z2 = true := by first | assumption | (cases z2 <;> simp_all)
     subst hz2
     have hev := (rows_dec hrk (by omega) (by omega)).1 (by assumption)
     exact ⟨rB ((Bool.eq_iff_iff.2 (by rw [bet_num]; simp only [decide_eq_true_eq]; omega)) : _ = betQ (⟨ws1, ⟨p1, q1⟩, s1⟩ : Fnd) ((⟨ws2, ⟨p2, q2⟩, s2⟩ : Fnd), true)), L12⟩
    refine WC.condN rfl (decide_eq_false c3) ?_
    refine WC.skip (E.blkN (E.thenN (WC.region (W.run 1 rfl ?_))))
    refine W.a (.add rfl rfl (by omega)) ?_
    refine W.run 1 rfl (W.nil ?_)
    refine E.again (k + 1) (.cons rfl (.cons rfl (.cons rfl (.nil _)))) ?_ ?_
    ·exact ⟨by omega, (rows_dec hrk (by omega) (by omega)).2 (by omega), L9, by have := zl0; have := d9.size; omega, f10, f11⟩
    first | omega | (simp only []; omega)
   refine WC.condN rfl (decide_eq_false c2) ?_
   refine WC.exit (E.thenX (E.thenX (E.blkH (E.thenN (WC.sr ?_)))))
   refine W.a (.field0 fa78_0 rfl) ?_
   refine W.r (.loadB (v := .slice Aw1 nw1 cw1) na22 rfl f0_0 rfl) ?_
   refine W.r (.len Tryz.underlying22 rfl) ?_
   refine W.a (.field0 fa78_0 rfl) ?_
   refine W.r (.loadB (v := .slice Aw2 nw2 cw2) na22 rfl f0_1 rfl) ?_
   refine W.r (.len Tryz.underlying22 rfl) ?_
   refine W.run 2 rfl (W.nx (WC.ret ?_))
   refine E.retG1 rfl rfl ?_
   have hz2 : z2 = true := by first | assumption | (cases z2 <;> simp_all)
   subst hz2
   have hev := rows_fin hrk (by omega) (by omega) (by omega)
   exact ⟨rB ((Bool.eq_iff_iff.2 (by rw [bet_num]; simp only [decide_eq_true_eq]; omega)) : _ = betQ (⟨ws1, ⟨p1, q1⟩, s1⟩ : Fnd) ((⟨ws2, ⟨p2, q2⟩, s2⟩ : Fnd), true)), Ll0⟩
  refine W.df q7_5 rfl rfl (W.run 6 rfl (W.nx (WC.condF rfl (WC.exit (E.thenX (E.thenX (E.blkH (E.thenN (WC.sr ?_)))))))))
  refine W.a (.field0 fa78_0 rfl) ?_
  refine W.r (.loadB (v := .slice Aw1 nw1 cw1) na22 rfl f0_0 rfl) ?_
  refine W.r (.len Tryz.underlying22 rfl) ?_
  refine W.a (.field0 fa78_0 rfl) ?_
  refine W.r (.loadB (v := .slice Aw2 nw2 cw2) na22 rfl f0_1 rfl) ?_
  refine W.r (.len Tryz.underlying22 rfl) ?_
  refine W.run 2 rfl (W.nx (WC.ret ?_))
  refine E.retG1 rfl rfl ?_
  have hz2 : z2 = true := by first | assumption | (cases z2 <;> simp_all)
  subst hz2
  have hev := rows_fin hrk (by omega) (by omega) (by omega)
  exact ⟨rB ((Bool.eq_iff_iff.2 (by rw [bet_num]; simp only [decide_eq_true_eq]; omega)) : _ = betQ (⟨ws1, ⟨p1, q1⟩, s1⟩ : Fnd) ((⟨ws2, ⟨p2, q2⟩, s2⟩ : Fnd), true)), Ll0⟩
 refine WC.condY rfl (congrArg not ((Bool.eq_false_iff.2 c0))) ?_
 refine WC.sr (W.run 1 rfl (W.nx (WC.ret (E.thenR ?_))))
 refine E.retG1 rfl rfl ?_
 have hz2 : z2 = false := by first | assumption | (cases z2 <;> simp_all)
 subst hz2
 exact ⟨rfl, L2⟩
end Go.Proofs.YtmkdeemjkcigkaaGreatDoor

