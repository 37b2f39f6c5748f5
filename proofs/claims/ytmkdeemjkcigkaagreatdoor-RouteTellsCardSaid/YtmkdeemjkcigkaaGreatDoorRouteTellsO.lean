/- RouteTells: for every input the law answers true and leaves its arguments as they were. -/
import Derived.Test.YtmkdeemjkcigkaaGreatDoorRouteTellsN
set_option linter.unusedVariables false
set_option linter.unusedSimpArgs false
namespace Go.Proofs.YtmkdeemjkcigkaaGreatDoor
open Go Go.Sx Go.Num Go.Gsp Go.Nsp Go.Msp
set_option maxRecDepth 20000
def wyV (k : Wy) : List Value := [.int .i64 k.f, .int .i64 k.c]
theorem wyV_row : RowF wyV 2 := ⟨fun _ => rfl, fun x v hv => by simp [wyV] at hv; rcases hv with rfl | rfl <;> rfl, by decide⟩
def ntV (n : Nt) : List Value := [.int .i64 n.lo, .int .i64 n.hi, .int .i64 n.rm]
theorem ntV_row : RowF ntV 3 := ⟨fun _ => rfl, fun x v hv => by simp [ntV] at hv; rcases hv with rfl | rfl | rfl <;> rfl, by decide⟩
def wyf (k : Wy) : Value := .agg (wyV k).toArray
def ntf (n : Nt) : Value := .agg (ntV n).toArray
abbrev MMl := List (Nat × Wy × Nt)
theorem eqv_wyV {d : Nat} (a b : Wy) : Eqv Tryz.prog (d + 2) 89 (.agg (wyV a).toArray) (.agg (wyV b).toArray) (decide (a = b)) := by
  have h := Eqv.ints (P := Tryz.prog) (d := d) (t := 89) (wyV a) (wyV b) [(.i64, 0), (.i64, 1)] (by kernel_rfl) (by kernel_rfl) (by
    rw [show (Tryz.prog.fieldsOf 89) = _ from (by unfold Program.fieldsOf; rw [Tryz.underlying89])]
    exact ⟨by decide, rfl, Tryz.underlying3, ⟨_, _, rfl, rfl⟩, by decide, rfl, Tryz.underlying3, ⟨_, _, rfl, rfl⟩, trivial⟩)
  have e : eqAll (wyV a) (wyV b) [(.i64, 0), (.i64, 1)] = decide (a = b) := by
    obtain ⟨a0, a1⟩ := a
    obtain ⟨b0, b1⟩ := b
    simp only [eqAll, wyV, List.getElem?_cons_zero, List.getElem?_cons_succ]
    rw [Bool.eq_iff_iff]
    simp only [Bool.and_eq_true, decide_eq_true_eq, Bool.and_true, Wy.mk.injEq]
  rw [e] at h
  exact h
theorem check_wy (b : Bool) (k : Wy) (w : World) : ∀ m : Nat, (Instr.checkKey b (m + 2) 89 (wyf k)).run Tryz.prog w = .ok () w := by
  intro m
  have hi : ∀ (v : Int) (w : World), (Instr.checkKey b (m + 1) 3 (.int .i64 v)).run Tryz.prog w = .ok () w := fun v w => by unfold Instr.checkKey; simp [run_underlying Tryz.underlying3]
  have p0 : ∀ w : World, (part 3 (wyV k).toArray 0).run Tryz.prog w = .ok (.int .i64 k.f) w := run_part1 na3 rfl
  have p1 : ∀ w : World, (part 3 (wyV k).toArray 1).run Tryz.prog w = .ok (.int .i64 k.c) w := run_part1 na3 rfl
  unfold Instr.checkKey
  simp only [Sem.run_bind, run_underlying Tryz.underlying89, Result.andThen_ok, wyf]
  simp [p0, p1, hi]
theorem kwy : KeyG Tryz.prog 89 wyf := KeyG.struct Tryz.underlying89 (fun b k w => check_wy b k w 9998) (fun k => ⟨_, rfl⟩) (fun a b => eqv_wyV (d := 9998) a b)
theorem stay_wy {k : Wy} {P : Program} (w : World) : (Instr.keyThatStays (wyf k) (wyf k)).run P w = .ok (wyf k) w := by
  have : Instr.sameBits 10000 (wyf k) (wyf k) = true := by simp [wyf, wyV, Instr.sameBits]
  unfold Instr.keyThatStays
  rw [if_pos this]
  rfl
theorem mayc_ok (n : Int) (w : World) : Calls Tryz.prog 96 #[.int .i64 (n)] w fun r w' => r = .returned (.bool (ptyB n)) ∧ Le w w' := by
 refine enter Tryz.func96 rfl rfl ?_
 have L0 := Le.refl w
 refine WC.sr (W.run 1 rfl (W.nx (WC.sr (W.run 2 rfl ?_))))
 by_cases q1_2 : 0 ≤ n
 ·refine W.dt q1_2 rfl rfl (W.run 4 rfl (W.nx (WC.ret ?_)))
  refine E.retG1 rfl rfl ?_
  exact ⟨rB (by simp [ptyB, q1_2]), L0⟩
 refine W.df q1_2 rfl rfl (W.run 4 rfl (W.nx (WC.ret ?_)))
 refine E.retG1 rfl rfl ?_
 exact ⟨rB (by simp [ptyB, q1_2]), L0⟩

theorem lmay_ok (e : Gsp.Edge) (w : World) : Calls Tryz.prog 52 #[.agg (edgeV e).toArray] w fun r w' => r = .returned (.bool (mayM e)) ∧ Le w w' := by
 refine enter Tryz.func52 rfl rfl ?_
 have L0 := Le.refl w
 refine WC.sr (W.ef rfl rfl rfl ?_)
 refine Ef.boxA rfl ?_
 intro g0_0 w0_0 hg0_0 b0_0 h0_0
 have L1 := L0.trans h0_0
 have b0_0 : Blk w0_0 g0_0 51 (edgeV e).toArray := b0_0
 refine W.run 1 rfl (W.nx (WC.sr (W.run 1 rfl (W.nx (WC.sr (W.run 1 rfl ?_))))))
 refine W.a (.field0 fa51_0 rfl) ?_
 refine W.r (.loadB (v := .int .i64 (e.f)) na3 rfl b0_0 rfl) ?_
 refine W.cl go96 rfl rfl (mayc_ok e.f w0_0) ?_
 rintro _ w2_3 ⟨rfl, h2_3⟩
 have L2 := L1.trans h2_3
 by_cases q2_4 : (ptyB e.f) = true
 ·refine W.a (.dec (.move rfl) (q2_4)) ?_
  refine W.run 1 rfl ?_
  refine W.g (Any.rd (.field0 fa51_1 rfl) _) ?_
  have f3 := (b0_0.le h2_3)
  refine W.g (.loadB (v := .int .i64 (e.t)) na3 rfl f3 rfl) ?_
  refine W.efg rfl rfl rfl (rfl) rfl rfl ?_
  refine Ef.call go96 rfl rfl (mayc_ok e.t w2_3) ?_
  rintro _ w2_8 ⟨rfl, h2_8⟩
  refine ⟨_, rfl, ?_⟩
  have L4 := L2.trans h2_8
  refine W.run 1 rfl ?_
  by_cases q2_10 : (ptyB e.t) = true
  ·refine W.a (.dec (.move rfl) (q2_10)) ?_
   refine W.g (Any.rd (.field0 fa51_0 rfl) _) ?_
   have f5 := (f3.le h2_8)
   refine W.g (.loadB (v := .int .i64 (e.f)) na3 rfl f5 rfl) ?_
   refine W.g (Any.rd (.field0 fa51_1 rfl) _) ?_
   refine W.g (.loadB (v := .int .i64 (e.t)) na3 rfl f5 rfl) ?_
   refine W.run 2 rfl ?_
   by_cases q2_17 : e.f ≠ e.t
   ·refine W.dt q2_17 rfl rfl ?_
    refine W.g (Any.rd (.field0 fa51_2 rfl) _) ?_
    refine W.g (.loadB (v := .int .i64 (e.c)) na3 rfl f5 rfl) ?_
    refine W.run 2 rfl ?_
    by_cases q2_22 : 0 ≤ e.c
    ·refine W.dt q2_22 rfl rfl ?_
     refine W.g (Any.rd (.field0 fa51_2 rfl) _) ?_
     refine W.g (.loadB (v := .int .i64 (e.c)) na3 rfl f5 rfl) ?_
     refine W.run 2 rfl ?_
     by_cases q2_27 : e.c < 1048576
     ·refine W.dt q2_27 rfl rfl ?_
      refine W.g (Any.rd (.field0 fa51_3 rfl) _) ?_
      refine W.g (.loadB (v := .int .i64 (e.r)) na3 rfl f5 rfl) ?_
      refine W.run 2 rfl ?_
      by_cases q2_32 : 0 < e.r
      ·refine W.dt q2_32 rfl rfl ?_
       refine W.g (Any.rd (.field0 fa51_3 rfl) _) ?_
       refine W.g (.loadB (v := .int .i64 (e.r)) na3 rfl f5 rfl) ?_
       refine W.run 3 rfl (W.nx (WC.ret ?_))
       refine E.retG1 rfl rfl ?_
       exact ⟨rB (by simp [mayM, q2_4, q2_10, q2_17, q2_22, q2_27, q2_32]), L4⟩
      refine W.df q2_32 rfl rfl (W.run 5 rfl (W.nx (WC.ret ?_)))
      refine E.retG1 rfl rfl ?_
      exact ⟨rB (by simp [mayM, q2_4, q2_10, q2_17, q2_22, q2_27, q2_32]), L4⟩
     refine W.df q2_27 rfl rfl (W.run 10 rfl (W.nx (WC.ret ?_)))
     refine E.retG1 rfl rfl ?_
     exact ⟨rB (by simp [mayM, q2_4, q2_10, q2_17, q2_22, q2_27]), L4⟩
    refine W.df q2_22 rfl rfl (W.run 15 rfl (W.nx (WC.ret ?_)))
    refine E.retG1 rfl rfl ?_
    exact ⟨rB (by simp [mayM, q2_4, q2_10, q2_17, q2_22]), L4⟩
   refine W.df q2_17 rfl rfl (W.run 20 rfl (W.nx (WC.ret ?_)))
   refine E.retG1 rfl rfl ?_
   exact ⟨rB (by simp [mayM, q2_4, q2_10, q2_17]), L4⟩
  refine W.a (.dec (.move rfl) ((Bool.eq_false_iff.2 q2_10))) ?_
  refine W.run 27 rfl (W.nx (WC.ret ?_))
  refine E.retG1 rfl rfl ?_
  exact ⟨rB (by simp [mayM, q2_4, q2_10]), L4⟩
 refine W.a (.dec (.move rfl) ((Bool.eq_false_iff.2 q2_4))) ?_
 refine W.run 33 rfl (W.nx (WC.ret ?_))
 refine E.retG1 rfl rfl ?_
 exact ⟨rB (by simp [mayM, q2_4]), L2⟩

theorem lsome_ok (e : Gsp.Edge) (a : Int) (w : World) : Calls Tryz.prog 71 #[.agg (edgeV e).toArray, .int .i64 (a)] w fun r w' => r = .returned (.bool (someM e a)) ∧ Le w w' := by
 refine enter Tryz.func71 rfl rfl ?_
 have L0 := Le.refl w
 refine WC.sr (W.ef rfl rfl rfl ?_)
 refine Ef.boxA rfl ?_
 intro g0_0 w0_0 hg0_0 b0_0 h0_0
 have L1 := L0.trans h0_0
 have b0_0 : Blk w0_0 g0_0 51 (edgeV e).toArray := b0_0
 refine W.run 1 rfl (W.nx (WC.sr ?_))
 refine W.r (.loadAll ag51 (by rfl) rfl b0_0) ?_
 refine W.cl go52 rfl rfl (lmay_ok e w0_0) ?_
 rintro _ w1_1 ⟨rfl, h1_1⟩
 have L2 := L1.trans h1_1
 by_cases q1_2 : (mayM e) = true
 ·refine W.a (.dec (.move rfl) (q1_2)) ?_
  refine W.run 3 rfl ?_
  by_cases q1_6 : 0 < a
  ·refine W.dt q1_6 rfl rfl (W.run 1 rfl ?_)
   refine W.g (Any.rd (.field0 fa51_3 rfl) _) ?_
   have f3 := (b0_0.le h1_1)
   refine W.g (.loadB (v := .int .i64 (e.r)) na3 rfl f3 rfl) ?_
   refine W.run 3 rfl (W.nx (WC.ret ?_))
   refine E.retG1 rfl rfl ?_
   exact ⟨rB (by simp [someM, q1_2, q1_6]), L2⟩
  refine W.df q1_6 rfl rfl (W.run 6 rfl (W.nx (WC.ret ?_)))
  refine E.retG1 rfl rfl ?_
  exact ⟨rB (by simp [someM, q1_2, q1_6]), L2⟩
 refine W.a (.dec (.move rfl) ((Bool.eq_false_iff.2 q1_2))) ?_
 refine W.run 10 rfl (W.nx (WC.ret ?_))
 refine E.retG1 rfl rfl ?_
 exact ⟨rB (by simp [someM, q1_2]), L2⟩

theorem lthere_ok (e : Gsp.Edge) (w : World) : Calls Tryz.prog 54 #[.agg (edgeV e).toArray] w fun r w' => r = .returned (.agg (wyV (wyE e)).toArray) ∧ Le w w' := by
 refine enter Tryz.func54 rfl rfl ?_
 have L0 := Le.refl w
 refine WC.sr (W.ef rfl rfl rfl ?_)
 refine Ef.boxA rfl ?_
 intro g0_0 w0_0 hg0_0 b0_0 h0_0
 have L1 := L0.trans h0_0
 have b0_0 : Blk w0_0 g0_0 51 (edgeV e).toArray := b0_0
 refine W.ef rfl rfl rfl ?_
 refine Ef.allocA z89 ?_
 intro g0_1 w0_1 hg0_1 b0_1 h0_1
 have L2 := L1.trans h0_1
 have b0_1 : Blk w0_1 g0_1 89 (wyV noWy).toArray := b0_1
 refine W.nx (WC.sr ?_)
 refine W.a (.field0 fa51_0 rfl) ?_
 have f3 := (b0_0.le h0_1)
 refine W.r (.loadB (v := .int .i64 (e.f)) na3 rfl f3 rfl) ?_
 refine W.a (.field0 fa51_2 rfl) ?_
 refine W.r (.loadB (v := .int .i64 (e.c)) na3 rfl f3 rfl) ?_
 refine W.a (.buildP (wyV (⟨e.f, e.c⟩ : Wy)) pl89 z89 rfl rfl) ?_
 refine W.ef0 rfl rfl ?_
 refine Ef.storeAll sz89 (by rfl) rfl rfl b0_1 (by simp only [List.size_toArray, wyV_row.len]) (wyV_row.one (⟨e.f, e.c⟩ : Wy)) ?_
 intro w1_5 b1_5 h1_5
 have b1_5 : Blk w1_5 g0_1 89 (wyV (⟨e.f, e.c⟩ : Wy)).toArray := b1_5
 have L4 := L2.then_ h1_5 (fun q hq => by cases hq; exact Nat.le_trans L1.size hg0_1)
 refine W.nx (WC.ret ?_)
 refine E.retG1 rfl (resA rfl b1_5 ag89 (by rfl)) ?_
 exact ⟨rfl, L4⟩

theorem lof_ok {gp gm ca : Nat} {la : MMl} (k : Wy) (rm : Int) (w : World) (hp : Blk w gp 103 #[.map (some gm)]) (hM : MapG w wyf ntf gm la ca) (hg : ∀ k v, getG k la = some v → okNt v) (h0 : 0 < rm) (h1 : rm ≤ 1125899906842624) : Calls Tryz.prog 53 #[.pointer (some ⟨gp, 0, none⟩), .agg (wyV k).toArray, .int .i64 (rm)] w fun r w' => r = .returned (.agg (ntV (cnt (getG k la) rm)).toArray) ∧ Le w w' := by
 refine enter Tryz.func53 rfl rfl ?_
 have L0 := Le.refl w
 refine WC.sr (W.ef rfl rfl rfl ?_)
 refine Ef.boxA rfl ?_
 intro g0_0 w0_0 hg0_0 b0_0 h0_0
 have L1 := L0.trans h0_0
 have b0_0 : Blk w0_0 g0_0 89 (wyV k).toArray := b0_0
 refine W.ef rfl rfl rfl ?_
 refine Ef.allocA z86 ?_
 intro g0_1 w0_1 hg0_1 b0_1 h0_1
 have L2 := L1.trans h0_1
 have b0_1 : Blk w0_1 g0_1 86 (ntV noNt).toArray := b0_1
 refine W.nx (WC.seq ?_)
 refine WC.draw [0, 1, 2, 3, 4, 5, 6, 7, 8, 9, 10, 11] mixed (by kernel_rfl) ?_
 intro w1 d1
 have L3 := L2.trans d1
 refine G.run 1 rfl ?_
 refine G.a rfl (.nilCheck rfl) ?_
 refine G.a rfl (.field0 fa103_0 rfl) ?_
 refine G.r rfl (.loadB (v := .map (some gm)) na100 rfl (hp.le L3) rfl) ?_
 have f4 := (b0_0.le (h0_1.trans d1))
 refine G.r rfl (.loadAll ag89 (by rfl) rfl f4) ?_
 rcases optG (getG k la) with hk1_5 | ⟨vhk1_5, hk1_5⟩
 ·refine G.r rfl (.as (.lookup2 (key := k) Tryz.underlying100 kwy z86 rfl rfl (hM.le L3)) (by rw [hk1_5] <;> rfl)) ?_
  refine G.run 1 rfl ?_
  refine G.a rfl (.extract (v := .agg (ntV noNt).toArray) rfl rfl) ?_
  refine G.run 1 rfl ?_
  refine G.ef rfl rfl rfl rfl rfl ?_
  refine Ef.allocA z86 ?_
  intro g1_9 w1_9 hg1_9 b1_9 h1_9
  refine ⟨fun _ => h1_9, ?_⟩
  have L5 := L3.trans h1_9
  have b1_9 : Blk w1_9 g1_9 86 (ntV noNt).toArray := b1_9
  refine G.ef0 rfl rfl rfl rfl ?_
  refine Ef.storeAll sz86 (by rfl) rfl rfl b1_9 (by simp only [List.size_toArray, ntV_row.len]) (ntV_row.one noNt) ?_
  intro w1_10 b1_10 h1_10
  refine ⟨fun h => absurd h (ne_true_of_eq_false (by kernel_rfl)), ?_⟩
  have L6 := L5.then_ h1_10 (fun q hq => by cases hq; exact Nat.le_trans L3.size hg1_9)
  refine G.run 1 rfl (G.nil (E.thenN (WC.seq (WC.sr (W.run 2 rfl (W.nx (WC.condT rfl (WC.sr (W.run 1 rfl ?_)))))))))
  refine W.a (.add rfl rfl (by omega)) ?_
  refine W.run 1 rfl ?_
  refine W.a (.buildP (ntV (⟨0, (rm + 1), rm⟩ : Nt)) pl86 z86 rfl rfl) ?_
  have f7 := ((b0_1.le (d1.trans h1_9)).ch h1_10 (fun h => (show g1_9 ≠ g0_1 from by have := b0_1.lt; have := d1.size; omega) (Option.some.inj h)))
  refine W.ef0 rfl rfl ?_
  refine Ef.storeAll sz86 (by rfl) rfl rfl f7 (by simp only [List.size_toArray, ntV_row.len]) (ntV_row.one (⟨0, (rm + 1), rm⟩ : Nt)) ?_
  intro w3_4 b3_4 h3_4
  have b3_4 : Blk w3_4 g0_1 86 (ntV (⟨0, (rm + 1), rm⟩ : Nt)).toArray := b3_4
  have L8 := L6.then_ h3_4 (fun q hq => by cases hq; exact Nat.le_trans L1.size hg0_1)
  refine W.nx (WC.ret (E.thenR ?_))
  refine E.retG1 rfl (resA rfl b3_4 ag86 (by rfl)) ?_
  exact ⟨by rw [hk1_5]; rfl, L8⟩
 have hok := hg _ _ hk1_5
 unfold okNt at hok
 refine G.r rfl (.as (.lookup2 (key := k) Tryz.underlying100 kwy z86 rfl rfl (hM.le L3)) (by rw [hk1_5] <;> rfl)) ?_
 refine G.run 1 rfl ?_
 refine G.a rfl (.extract (v := .agg (ntV vhk1_5).toArray) rfl rfl) ?_
 refine G.run 1 rfl ?_
 refine G.ef rfl rfl rfl rfl rfl ?_
 refine Ef.allocA z86 ?_
 intro g1_9_1 w1_9_1 hg1_9_1 b1_9_1 h1_9_1
 refine ⟨fun _ => h1_9_1, ?_⟩
 have L9 := L3.trans h1_9_1
 have b1_9_1 : Blk w1_9_1 g1_9_1 86 (ntV noNt).toArray := b1_9_1
 refine G.ef0 rfl rfl rfl rfl ?_
 refine Ef.storeAll sz86 (by rfl) rfl rfl b1_9_1 (by simp only [List.size_toArray, ntV_row.len]) (ntV_row.one vhk1_5) ?_
 intro w1_10_1 b1_10_1 h1_10_1
 refine ⟨fun h => absurd h (ne_true_of_eq_false (by kernel_rfl)), ?_⟩
 have b1_10_1 : Blk w1_10_1 g1_9_1 86 (ntV vhk1_5).toArray := b1_10_1
 have L10 := L9.then_ h1_10_1 (fun q hq => by cases hq; exact Nat.le_trans L3.size hg1_9_1)
 refine G.run 1 rfl (G.nil (E.thenN (WC.seq (WC.sr (W.run 2 rfl (W.nx (WC.condF rfl (WC.sn (WC.sr ?_)))))))))
 refine W.a (.field0 fa86_0 rfl) ?_
 refine W.r (.loadB (v := .int .i64 (vhk1_5.lo)) na3 rfl b1_10_1 rfl) ?_
 refine W.run 1 rfl ?_
 refine W.r (.min2 rfl rfl) ?_
 refine W.run 1 rfl ?_
 refine W.a (.field0 fa86_0 rfl) ?_
 refine W.ef0 rfl rfl ?_
 refine Ef.store sz3 rfl rfl b1_10_1 (by first | decide | (simp; done) | simp [ntV_row.len]) (rfl) ?_
 intro w4_6 b4_6 h4_6
 have b4_6 : Blk w4_6 g1_9_1 86 (ntV ({ vhk1_5 with lo := (min vhk1_5.lo rm) })).toArray := b4_6
 have L11 := L10.then_ h4_6 (fun q hq => by cases hq; exact Nat.le_trans L3.size hg1_9_1)
 refine W.a (.field0 fa86_2 rfl) ?_
 refine W.ef0 rfl rfl ?_
 refine Ef.store sz3 rfl rfl b4_6 (by first | decide | (simp; done) | simp [ntV_row.len]) (rfl) ?_
 intro w4_8 b4_8 h4_8
 have b4_8 : Blk w4_8 g1_9_1 86 (ntV ({ { vhk1_5 with lo := (min vhk1_5.lo rm) } with rm := rm })).toArray := b4_8
 have L12 := L11.then_ h4_8 (fun q hq => by cases hq; exact Nat.le_trans L3.size hg1_9_1)
 refine W.nx (WC.sr ?_)
 refine W.a (.field0 fa86_1 rfl) ?_
 refine W.r (.loadB (v := .int .i64 (({ { vhk1_5 with lo := (min vhk1_5.lo rm) } with rm := rm }).hi)) na3 rfl b4_8 rfl) ?_
 refine W.run 1 rfl ?_
 refine W.a (.add rfl rfl (by omega)) ?_
 refine W.r (.min2 rfl rfl) ?_
 refine W.a (.field0 fa86_0 rfl) ?_
 refine W.r (.loadB (v := .int .i64 (({ { vhk1_5 with lo := (min vhk1_5.lo rm) } with rm := rm }).lo)) na3 rfl b4_8 rfl) ?_
 refine W.a (.add rfl rfl (by dsimp only; omega)) ?_
 refine W.r (.max2 rfl rfl) ?_
 refine W.a (.field0 fa86_1 rfl) ?_
 refine W.ef0 rfl rfl ?_
 refine Ef.store sz3 rfl rfl b4_8 (by first | decide | (simp; done) | simp [ntV_row.len]) (rfl) ?_
 intro w5_10 b5_10 h5_10
 have b5_10 : Blk w5_10 g1_9_1 86 (ntV ({ { { vhk1_5 with lo := (min vhk1_5.lo rm) } with rm := rm } with hi := (max (min (({ { vhk1_5 with lo := (min vhk1_5.lo rm) } with rm := rm }).hi) (rm + 1)) ((({ { vhk1_5 with lo := (min vhk1_5.lo rm) } with rm := rm }).lo) + 1)) })).toArray := b5_10
 have L13 := L12.then_ h5_10 (fun q hq => by cases hq; exact Nat.le_trans L3.size hg1_9_1)
 refine W.nx (WC.sr ?_)
 refine W.r (.loadAll ag86 (by rfl) rfl b5_10) ?_
 have f14 := (((((b0_1.le (d1.trans h1_9_1)).ch h1_10_1 (fun h => (show g1_9_1 ≠ g0_1 from by have := b0_1.lt; have := d1.size; omega) (Option.some.inj h))).ch h4_6 (fun h => (show g1_9_1 ≠ g0_1 from by have := b0_1.lt; have := d1.size; omega) (Option.some.inj h))).ch h4_8 (fun h => (show g1_9_1 ≠ g0_1 from by have := b0_1.lt; have := d1.size; omega) (Option.some.inj h))).ch h5_10 (fun h => (show g1_9_1 ≠ g0_1 from by have := b0_1.lt; have := d1.size; omega) (Option.some.inj h)))
 refine W.ef0 rfl rfl ?_
 refine Ef.storeAll sz86 (by rfl) rfl rfl f14 (by simp only [List.size_toArray, ntV_row.len]) (ntV_row.one ({ { { vhk1_5 with lo := (min vhk1_5.lo rm) } with rm := rm } with hi := (max (min (({ { vhk1_5 with lo := (min vhk1_5.lo rm) } with rm := rm }).hi) (rm + 1)) ((({ { vhk1_5 with lo := (min vhk1_5.lo rm) } with rm := rm }).lo) + 1)) })) ?_
 intro w6_1 b6_1 h6_1
 have b6_1 : Blk w6_1 g0_1 86 (ntV ({ { { vhk1_5 with lo := (min vhk1_5.lo rm) } with rm := rm } with hi := (max (min (({ { vhk1_5 with lo := (min vhk1_5.lo rm) } with rm := rm }).hi) (rm + 1)) ((({ { vhk1_5 with lo := (min vhk1_5.lo rm) } with rm := rm }).lo) + 1)) })).toArray := b6_1
 have L15 := L13.then_ h6_1 (fun q hq => by cases hq; exact Nat.le_trans L1.size hg0_1)
 refine W.nx (WC.ret ?_)
 refine E.retG1 rfl (resA rfl b6_1 ag86 (by rfl)) ?_
 exact ⟨by rw [hk1_5]; rfl, L15⟩

theorem lbnd_ok {gp gm ca : Nat} {la : MMl} (e : Gsp.Edge) (w : World) (hp : Blk w gp 103 #[.map (some gm)]) (hM : MapG w wyf ntf gm la ca) (hg : ∀ k v, getG k la = some v → okNt v) : Calls Tryz.prog 20 #[.pointer (some ⟨gp, 0, none⟩), .agg (edgeV e).toArray] w fun r w' => r = .returned (.tuple #[.int .i64 (bndM (fun k => getG k la) e).1, .int .i64 (bndM (fun k => getG k la) e).2]) ∧ Le w w' := by
 refine enter Tryz.func20 rfl rfl ?_
 have L0 := Le.refl w
 refine WC.sr (W.ef rfl rfl rfl ?_)
 refine Ef.boxA rfl ?_
 intro g0_0 w0_0 hg0_0 b0_0 h0_0
 have L1 := L0.trans h0_0
 have b0_0 : Blk w0_0 g0_0 51 (edgeV e).toArray := b0_0
 refine W.run 2 rfl (W.nx (WC.seq (WC.sr ?_)))
 refine W.r (.loadAll ag51 (by rfl) rfl b0_0) ?_
 refine W.cl go52 rfl rfl (lmay_ok e w0_0) ?_
 rintro _ w1_1 ⟨rfl, h1_1⟩
 have L2 := L1.trans h1_1
 refine W.run 1 rfl (W.nx ?_)
 by_cases c0 : (mayM e) = true
 ·refine WC.condN rfl (congrArg not (c0)) ?_
  have hmy := mayM_T (by assumption : mayM e = true)
  refine WC.sn (WC.seq ?_)
  refine WC.drawT (fun o => (app o [0, 1, 3, 4] (.br (app o [2] (.br (app o [5, 6, 7] .nil) (app o [6, 5, 7] .nil))) (app o [6, 2, 5, 7] .nil)))) mixed (by kernel_rfl) ?_
  intro w3 d3
  have L3 := L2.trans d3
  refine GT.app ?_
  refine G.run 1 rfl ?_
  have f4 := (b0_0.le (h1_1.trans d3))
  refine G.r rfl (.loadAll ag51 (by rfl) rfl f4) ?_
  refine G.a rfl (.field0 fa51_3 rfl) ?_
  refine G.r rfl (.loadB (v := .int .i64 (e.r)) na3 rfl f4 rfl) ?_
  refine G.nil ?_
  refine GT.br ?_ ?_
  ·refine GT.app ?_
   refine G.ef rfl rfl rfl rfl rfl ?_
   refine Ef.call go54 rfl rfl (lthere_ok e w3) ?_
   rintro _ w3_2 ⟨rfl, h3_2⟩
   refine ⟨_, rfl, ?_⟩
   refine ⟨fun _ => h3_2, ?_⟩
   have L5 := L3.trans h3_2
   refine G.nil ?_
   refine GT.br ?_ ?_
   ·refine GT.last ?_
    refine G.ef rfl rfl rfl rfl rfl ?_
    refine Ef.call go53 rfl rfl (lof_ok (wyE e) e.r w3_2 (hp.le L5) (hM.le L5) hg (by omega) (by omega)) ?_
    rintro _ w3_5 ⟨rfl, h3_5⟩
    refine ⟨_, rfl, ?_⟩
    refine ⟨fun _ => h3_5, ?_⟩
    have L6 := L5.trans h3_5
    have hof := cnt_ok (fun n hn => hg (wyE e) n hn) (show 0 < e.r by omega) (show e.r ≤ 1125899906842624 by omega)
    unfold okNt at hof
    refine G.ef rfl rfl rfl rfl rfl ?_
    refine Ef.allocA z86 ?_
    intro g3_6 w3_6 hg3_6 b3_6 h3_6
    refine ⟨fun _ => h3_6, ?_⟩
    have L7 := L6.trans h3_6
    have b3_6 : Blk w3_6 g3_6 86 (ntV noNt).toArray := b3_6
    refine G.ef0 rfl rfl rfl rfl ?_
    refine Ef.storeAll sz86 (by rfl) rfl rfl b3_6 (by simp only [List.size_toArray, ntV_row.len]) (ntV_row.one (cnt (getG (wyE e) la) e.r)) ?_
    intro w3_7 b3_7 h3_7
    refine ⟨fun h => absurd h (ne_true_of_eq_false (by kernel_rfl)), ?_⟩
    have b3_7 : Blk w3_7 g3_6 86 (ntV (cnt (getG (wyE e) la) e.r)).toArray := b3_7
    have L8 := L7.then_ h3_7 (fun q hq => by cases hq; exact Nat.le_trans L6.size hg3_6)
    refine G.nil (E.thenN (WC.seq ?_))
    refine WC.draw [0, 1, 2, 3, 4, 5] mixed (by kernel_rfl) ?_
    intro w4 d4
    have L9 := L8.trans d4
    refine G.a rfl (.field0 fa86_0 rfl) ?_
    have f10 := (b3_7.le d4)
    refine G.r rfl (.loadB (v := .int .i64 ((cnt (getG (wyE e) la) e.r).lo)) na3 rfl f10 rfl) ?_
    refine G.a rfl (.field0 fa86_1 rfl) ?_
    refine G.r rfl (.loadB (v := .int .i64 ((cnt (getG (wyE e) la) e.r).hi)) na3 rfl f10 rfl) ?_
    refine G.run 2 rfl (G.nil (E.thenN (WC.ret ?_)))
    refine E.retG2 rfl rfl rfl ?_
    exact ⟨(by first | rfl | (simp [bndM, ofM, c0]; done) | (simp [bndM, ofM, c0]; omega) | (simp [bndM, ofM, c0]; split <;> first | (exfalso; omega) | (simp; done) | (simp; omega))), L9⟩
   refine GT.last ?_
   refine G.ef rfl rfl rfl rfl rfl ?_
   refine Ef.allocA z86 ?_
   intro g3_6_1 w3_6_1 hg3_6_1 b3_6_1 h3_6_1
   refine ⟨fun _ => h3_6_1, ?_⟩
   have L11 := L5.trans h3_6_1
   have b3_6_1 : Blk w3_6_1 g3_6_1 86 (ntV noNt).toArray := b3_6_1
   refine G.ef rfl rfl rfl rfl rfl ?_
   refine Ef.call go53 rfl rfl (lof_ok (wyE e) e.r w3_6_1 (hp.le L11) (hM.le L11) hg (by omega) (by omega)) ?_
   rintro _ w3_5_1 ⟨rfl, h3_5_1⟩
   refine ⟨_, rfl, ?_⟩
   refine ⟨fun _ => h3_5_1, ?_⟩
   have L12 := L11.trans h3_5_1
   have hof := cnt_ok (fun n hn => hg (wyE e) n hn) (show 0 < e.r by omega) (show e.r ≤ 1125899906842624 by omega)
   unfold okNt at hof
   have f13 := (b3_6_1.le h3_5_1)
   refine G.ef0 rfl rfl rfl rfl ?_
   refine Ef.storeAll sz86 (by rfl) rfl rfl f13 (by simp only [List.size_toArray, ntV_row.len]) (ntV_row.one (cnt (getG (wyE e) la) e.r)) ?_
   intro w3_7_1 b3_7_1 h3_7_1
   refine ⟨fun h => absurd h (ne_true_of_eq_false (by kernel_rfl)), ?_⟩
   have b3_7_1 : Blk w3_7_1 g3_6_1 86 (ntV (cnt (getG (wyE e) la) e.r)).toArray := b3_7_1
   have L14 := L12.then_ h3_7_1 (fun q hq => by cases hq; exact Nat.le_trans L5.size hg3_6_1)
   refine G.nil (E.thenN (WC.seq ?_))
   refine WC.draw [0, 1, 2, 3, 4, 5] mixed (by kernel_rfl) ?_
   intro w4 d4
   have L15 := L14.trans d4
   refine G.a rfl (.field0 fa86_0 rfl) ?_
   have f16 := (b3_7_1.le d4)
   refine G.r rfl (.loadB (v := .int .i64 ((cnt (getG (wyE e) la) e.r).lo)) na3 rfl f16 rfl) ?_
   refine G.a rfl (.field0 fa86_1 rfl) ?_
   refine G.r rfl (.loadB (v := .int .i64 ((cnt (getG (wyE e) la) e.r).hi)) na3 rfl f16 rfl) ?_
   refine G.run 2 rfl (G.nil (E.thenN (WC.ret ?_)))
   refine E.retG2 rfl rfl rfl ?_
   exact ⟨(by first | rfl | (simp [bndM, ofM, c0]; done) | (simp [bndM, ofM, c0]; omega) | (simp [bndM, ofM, c0]; split <;> first | (exfalso; omega) | (simp; done) | (simp; omega))), L15⟩
  refine GT.last ?_
  refine G.ef rfl rfl rfl rfl rfl ?_
  refine Ef.allocA z86 ?_
  intro g3_6_2 w3_6_2 hg3_6_2 b3_6_2 h3_6_2
  refine ⟨fun _ => h3_6_2, ?_⟩
  have L17 := L3.trans h3_6_2
  have b3_6_2 : Blk w3_6_2 g3_6_2 86 (ntV noNt).toArray := b3_6_2
  refine G.ef rfl rfl rfl rfl rfl ?_
  refine Ef.call go54 rfl rfl (lthere_ok e w3_6_2) ?_
  rintro _ w3_2_1 ⟨rfl, h3_2_1⟩
  refine ⟨_, rfl, ?_⟩
  refine ⟨fun _ => h3_2_1, ?_⟩
  have L18 := L17.trans h3_2_1
  refine G.ef rfl rfl rfl rfl rfl ?_
  refine Ef.call go53 rfl rfl (lof_ok (wyE e) e.r w3_2_1 (hp.le L18) (hM.le L18) hg (by omega) (by omega)) ?_
  rintro _ w3_5_2 ⟨rfl, h3_5_2⟩
  refine ⟨_, rfl, ?_⟩
  refine ⟨fun _ => h3_5_2, ?_⟩
  have L19 := L18.trans h3_5_2
  have hof := cnt_ok (fun n hn => hg (wyE e) n hn) (show 0 < e.r by omega) (show e.r ≤ 1125899906842624 by omega)
  unfold okNt at hof
  have f20 := (b3_6_2.le (h3_2_1.trans h3_5_2))
  refine G.ef0 rfl rfl rfl rfl ?_
  refine Ef.storeAll sz86 (by rfl) rfl rfl f20 (by simp only [List.size_toArray, ntV_row.len]) (ntV_row.one (cnt (getG (wyE e) la) e.r)) ?_
  intro w3_7_2 b3_7_2 h3_7_2
  refine ⟨fun h => absurd h (ne_true_of_eq_false (by kernel_rfl)), ?_⟩
  have b3_7_2 : Blk w3_7_2 g3_6_2 86 (ntV (cnt (getG (wyE e) la) e.r)).toArray := b3_7_2
  have L21 := L19.then_ h3_7_2 (fun q hq => by cases hq; exact Nat.le_trans L3.size hg3_6_2)
  refine G.nil (E.thenN (WC.seq ?_))
  refine WC.draw [0, 1, 2, 3, 4, 5] mixed (by kernel_rfl) ?_
  intro w4 d4
  have L22 := L21.trans d4
  refine G.a rfl (.field0 fa86_0 rfl) ?_
  have f23 := (b3_7_2.le d4)
  refine G.r rfl (.loadB (v := .int .i64 ((cnt (getG (wyE e) la) e.r).lo)) na3 rfl f23 rfl) ?_
  refine G.a rfl (.field0 fa86_1 rfl) ?_
  refine G.r rfl (.loadB (v := .int .i64 ((cnt (getG (wyE e) la) e.r).hi)) na3 rfl f23 rfl) ?_
  refine G.run 2 rfl (G.nil (E.thenN (WC.ret ?_)))
  refine E.retG2 rfl rfl rfl ?_
  exact ⟨(by first | rfl | (simp [bndM, ofM, c0]; done) | (simp [bndM, ofM, c0]; omega) | (simp [bndM, ofM, c0]; split <;> first | (exfalso; omega) | (simp; done) | (simp; omega))), L22⟩
 refine WC.condY rfl (congrArg not ((Bool.eq_false_iff.2 c0))) ?_
 refine WC.sr (W.run 2 rfl (W.nx (WC.ret (E.thenR ?_))))
 refine E.retG2 rfl rfl rfl ?_
 exact ⟨(by first | rfl | (simp [bndM, ofM, c0]; done) | (simp [bndM, ofM, c0]; omega) | (simp [bndM, ofM, c0]; split <;> first | (exfalso; omega) | (simp; done) | (simp; omega))), L2⟩

theorem lodds_ok {gp gm ca : Nat} {la : MMl} (e : Gsp.Edge) (a : Int) (w : World) (hp : Blk w gp 103 #[.map (some gm)]) (hM : MapG w wyf ntf gm la ca) (hg : ∀ k v, getG k la = some v → okNt v) : Calls Tryz.prog 45 #[.pointer (some ⟨gp, 0, none⟩), .agg (edgeV e).toArray, .int .i64 (a)] w fun r w' => ∃ A1 c1 A2 c2, r = .returned (.tuple #[.agg #[.slice A1 (digs (oddsM (fun k => getG k la) e a).n).length c1, .slice A2 (digs (oddsM (fun k => getG k la) e a).d).length c2], .bool (goesM e a)]) ∧ OVec w' w.heap.size 122 dv 1 A1 (digs (oddsM (fun k => getG k la) e a).n).length c1 (digs (oddsM (fun k => getG k la) e a).n) ∧ OVec w' w.heap.size 122 dv 1 A2 (digs (oddsM (fun k => getG k la) e a).d).length c2 (digs (oddsM (fun k => getG k la) e a).d) ∧ Le w w' := by
 refine enter Tryz.func45 rfl rfl ?_
 have L0 := Le.refl w
 refine WC.sr (W.ef rfl rfl rfl ?_)
 refine Ef.boxA rfl ?_
 intro g0_0 w0_0 hg0_0 b0_0 h0_0
 have L1 := L0.trans h0_0
 have b0_0 : Blk w0_0 g0_0 51 (edgeV e).toArray := b0_0
 refine W.ef rfl rfl rfl ?_
 refine Ef.allocA z33 ?_
 intro g0_1 w0_1 hg0_1 b0_1 h0_1
 have L2 := L1.trans h0_1
 have b0_1 : Blk w0_1 g0_1 33 #[.slice none 0 0, .slice none 0 0] := b0_1
 refine W.run 1 rfl (W.nx (WC.seq (WC.sr ?_)))
 have f3 := (b0_0.le h0_1)
 refine W.r (.loadAll ag51 (by rfl) rfl f3) ?_
 refine W.cl go52 rfl rfl (lmay_ok e w0_1) ?_
 rintro _ w1_1 ⟨rfl, h1_1⟩
 have L4 := L2.trans h1_1
 refine W.run 1 rfl ?_
 by_cases q1_3 : (mayM e) = true
 ·refine W.a (.dec (.move rfl) (congrArg not (q1_3))) ?_
  refine W.run 3 rfl ?_
  by_cases q1_7 : a < 0
  ·refine W.dt q1_7 rfl rfl (W.run 5 rfl (W.nx (WC.condT rfl (WC.sr ?_))))
   refine W.a (.buildP [.slice none 0 0, .slice none 0 0] pl33 z33 rfl rfl) ?_
   have f5 := (b0_1.le h1_1)
   refine W.ef0 rfl rfl ?_
   refine Ef.storeAll sz33 (by rfl) rfl rfl f5 (by rfl) (by simp [Value.oneCell']) ?_
   intro w2_1 b2_1 h2_1
   have b2_1 : Blk w2_1 g0_1 33 #[.slice none 0 0, .slice none 0 0] := b2_1
   have L6 := L4.then_ h2_1 (fun q hq => by cases hq; exact Nat.le_trans L1.size hg0_1)
   refine W.run 1 rfl (W.nx (WC.ret (E.thenR ?_)))
   refine E.retG2 rfl (resA rfl b2_1 ag33 (by rfl)) rfl ?_
   have hgo : goesM e a = false := (by simp [goesM, q1_3, q1_7] <;> omega)
   have hod : oddsM (fun k => getG k la) e a = ⟨0, 0⟩ := (by unfold oddsM; exact if_neg (by rw [hgo]; decide))
   rw [hod, hgo]
   exact ⟨none, 0, none, 0, by simp only [digs_zero]; rfl, by simp only [digs_zero]; exact OVec.nil _ _ _ _ _ _, by simp only [digs_zero]; exact OVec.nil _ _ _ _ _ _, L6⟩
  refine W.df q1_7 rfl rfl (W.run 1 rfl ?_)
  refine W.g (Any.rd (.field0 fa51_3 rfl) _) ?_
  have f7 := (f3.le h1_1)
  refine W.g (.loadB (v := .int .i64 (e.r)) na3 rfl f7 rfl) ?_
  refine W.run 2 rfl (W.nx ?_)
  by_cases c0 : e.r < a
  ·refine WC.condY rfl (decide_eq_true c0) ?_
   refine WC.sr ?_
   refine W.a (.buildP [.slice none 0 0, .slice none 0 0] pl33 z33 rfl rfl) ?_
   have f8 := (b0_1.le h1_1)
   refine W.ef0 rfl rfl ?_
   refine Ef.storeAll sz33 (by rfl) rfl rfl f8 (by rfl) (by simp [Value.oneCell']) ?_
   intro w2_1_1 b2_1_1 h2_1_1
   have b2_1_1 : Blk w2_1_1 g0_1 33 #[.slice none 0 0, .slice none 0 0] := b2_1_1
   have L9 := L4.then_ h2_1_1 (fun q hq => by cases hq; exact Nat.le_trans L1.size hg0_1)
   refine W.run 1 rfl (W.nx (WC.ret (E.thenR ?_)))
   refine E.retG2 rfl (resA rfl b2_1_1 ag33 (by rfl)) rfl ?_
   have hgo : goesM e a = false := (by simp [goesM, q1_3, q1_7, c0] <;> omega)
   have hod : oddsM (fun k => getG k la) e a = ⟨0, 0⟩ := (by unfold oddsM; exact if_neg (by rw [hgo]; decide))
   rw [hod, hgo]
   exact ⟨none, 0, none, 0, by simp only [digs_zero]; rfl, by simp only [digs_zero]; exact OVec.nil _ _ _ _ _ _, by simp only [digs_zero]; exact OVec.nil _ _ _ _ _ _, L9⟩
  refine WC.condN rfl (decide_eq_false c0) ?_
  have hmy := bndM_ok (m := (fun k => getG k la)) (fun k v h => hg k v h) (by assumption : mayM e = true)
  have hmz := mayM_T (by assumption : mayM e = true)
  refine WC.sn (WC.sr (W.run 1 rfl ?_))
  refine W.r (.loadAll ag51 (by rfl) rfl f7) ?_
  refine W.cl go20 rfl rfl (lbnd_ok e w1_1 (hp.le L4) (hM.le L4) hg) ?_
  rintro _ w3_2 ⟨rfl, h3_2⟩
  have L10 := L4.trans h3_2
  refine W.run 5 rfl (W.nx (WC.sr (W.run 3 rfl ?_)))
  refine W.r (.max2 rfl rfl) ?_
  refine W.run 1 rfl ?_
  refine W.r (.min2 rfl rfl) ?_
  refine W.a (.sub rfl rfl (by omega)) ?_
  obtain ⟨nn, hnn⟩ := Int.eq_ofNat_of_zero_le (show 0 ≤ (bndM (fun k => getG k la) e).2 - min (max a (bndM (fun k => getG k la) e).1) (bndM (fun k => getG k la) e).2 by omega)
  refine W.r (.as (.idI (isS Tryz.underlying3) Tryz.underlying57 rfl (IntWalk.u64_in _ (by omega))) (by rw [hnn])) ?_
  refine W.run 2 rfl ?_
  refine W.a (.sub rfl rfl (by omega)) ?_
  obtain ⟨dd, hdd⟩ := Int.eq_ofNat_of_zero_le (show 0 ≤ (bndM (fun k => getG k la) e).2 - (bndM (fun k => getG k la) e).1 by omega)
  refine W.r (.as (.idI (isS Tryz.underlying3) Tryz.underlying57 rfl (IntWalk.u64_in _ (by omega))) (by rw [hdd])) ?_
  refine W.cl go23 rfl rfl (fof_ok nn dd w3_2 (by omega) (by omega) (by omega)) ?_
  rintro _ w4_12 ⟨An4_12, cn4_12, Ad4_12, cd4_12, rfl, on4_12, od4_12, h4_12⟩
  have L11 := L10.trans h4_12
  refine W.a (.extract (v := .agg #[.slice An4_12 ((digs ((lowF nn dd).n)).length) cn4_12, .slice Ad4_12 ((digs ((lowF nn dd).d)).length) cd4_12]) rfl rfl) ?_
  refine W.run 1 rfl ?_
  have f12 := (b0_1.le (h1_1.trans (h3_2.trans h4_12)))
  refine W.ef0 rfl rfl ?_
  refine Ef.storeAll sz33 (by rfl) rfl rfl f12 (by rfl) (by simp [Value.oneCell']) ?_
  intro w4_15 b4_15 h4_15
  have b4_15 : Blk w4_15 g0_1 33 #[.slice An4_12 ((digs ((lowF nn dd).n)).length) cn4_12, .slice Ad4_12 ((digs ((lowF nn dd).d)).length) cd4_12] := b4_15
  have L13 := L11.then_ h4_15 (fun q hq => by cases hq; exact Nat.le_trans L1.size hg0_1)
  refine W.run 1 rfl (W.nx (WC.ret ?_))
  have f14 := (on4_12.ch h4_15 (fun q hq => by cases hq; exact (fun he => by have := (on4_12.row he).1; have := b0_1.lt; have := h1_1.size; have := h3_2.size; omega)))
  have f15 := (od4_12.ch h4_15 (fun q hq => by cases hq; exact (fun he => by have := (od4_12.row he).1; have := b0_1.lt; have := h1_1.size; have := h3_2.size; omega)))
  refine E.retG2 rfl (resA rfl b4_15 ag33 (by rfl)) rfl ?_
  have hgo : goesM e a = true := (by simp [goesM, q1_3, q1_7, c0] <;> omega)
  have hod : oddsM (fun k => getG k la) e a = lowF nn dd := (by unfold oddsM; rw [if_pos hgo, show oddN (fun k => getG k la) e a = (nn : Int) from hnn, show oddD (fun k => getG k la) e = (dd : Int) from hdd]; rfl)
  rw [hod, hgo]
  exact ⟨_, _, _, _, rfl, (f14.mono L10.size), (f15.mono L10.size), L13⟩
 refine W.a (.dec (.move rfl) (congrArg not ((Bool.eq_false_iff.2 q1_3)))) ?_
 refine W.run 9 rfl (W.nx (WC.condT rfl (WC.sr ?_)))
 refine W.a (.buildP [.slice none 0 0, .slice none 0 0] pl33 z33 rfl rfl) ?_
 have f16 := (b0_1.le h1_1)
 refine W.ef0 rfl rfl ?_
 refine Ef.storeAll sz33 (by rfl) rfl rfl f16 (by rfl) (by simp [Value.oneCell']) ?_
 intro w2_1_2 b2_1_2 h2_1_2
 have b2_1_2 : Blk w2_1_2 g0_1 33 #[.slice none 0 0, .slice none 0 0] := b2_1_2
 have L17 := L4.then_ h2_1_2 (fun q hq => by cases hq; exact Nat.le_trans L1.size hg0_1)
 refine W.run 1 rfl (W.nx (WC.ret (E.thenR ?_)))
 refine E.retG2 rfl (resA rfl b2_1_2 ag33 (by rfl)) rfl ?_
 have hgo : goesM e a = false := (by simp [goesM, q1_3] <;> omega)
 have hod : oddsM (fun k => getG k la) e a = ⟨0, 0⟩ := (by unfold oddsM; exact if_neg (by rw [hgo]; decide))
 rw [hod, hgo]
 exact ⟨none, 0, none, 0, by simp only [digs_zero]; rfl, by simp only [digs_zero]; exact OVec.nil _ _ _ _ _ _, by simp only [digs_zero]; exact OVec.nil _ _ _ _ _ _, L17⟩

theorem lfail_ok {gp gm ca : Nat} {la : MMl} (e : Gsp.Edge) (a : Int) (w : World) (hp0 : Blk w gp 103 #[.map (some gm)]) (hM0 : MapG w wyf ntf gm la ca) (hg : ∀ k v, getG k la = some v → okNt v) (n1 : gp ≠ gm) : Calls Tryz.prog 31 #[.pointer (some ⟨gp, 0, none⟩), .agg (edgeV e).toArray, .int .i64 (a)] w fun r w' => r = .returned (.tuple #[]) ∧ ∃ la' ca', MapG w' wyf ntf gm la' ca' ∧ (∀ k, getG k la' = failM (fun k => getG k la) e a k) ∧ ChP w w' (fun k => k = gm) := by
 refine enter Tryz.func31 rfl rfl ?_
 have L0 := ChP.refl w (fun k => k = gm)
 refine WC.sr (W.ef rfl rfl rfl ?_)
 refine Ef.boxA rfl ?_
 intro g0_0 w0_0 hg0_0 b0_0 h0_0
 have L1 := L0.le h0_0
 have b0_0 : Blk w0_0 g0_0 51 (edgeV e).toArray := b0_0
 refine W.nx (WC.sr ?_)
 refine W.r (.loadAll ag51 (by rfl) rfl b0_0) ?_
 refine W.run 1 rfl ?_
 refine W.cl go71 rfl rfl (lsome_ok e a w0_0) ?_
 rintro _ w1_2 ⟨rfl, h1_2⟩
 have L2 := L1.le h1_2
 refine W.nx ?_
 by_cases c0 : (someM e a) = true
 ·refine WC.condY rfl (c0) ?_
  have hsm := someM_T (by assumption : someM e a = true)
  have hmz := mayM_T hsm.1
  refine WC.seq ?_
  refine WC.drawT (fun o => (app o [0, 1, 3, 4] (.br (app o [2] (.br (app o [5, 6, 7] .nil) (app o [6, 5, 7] .nil))) (app o [6, 2, 5, 7] .nil)))) mixed (by kernel_rfl) ?_
  intro w2 d2
  have L3 := L2.le d2
  refine GT.app ?_
  refine G.run 1 rfl ?_
  have f4 := (b0_0.le (h1_2.trans d2))
  refine G.r rfl (.loadAll ag51 (by rfl) rfl f4) ?_
  refine G.a rfl (.field0 fa51_3 rfl) ?_
  refine G.r rfl (.loadB (v := .int .i64 (e.r)) na3 rfl f4 rfl) ?_
  refine G.nil ?_
  refine GT.br ?_ ?_
  ·refine GT.app ?_
   refine G.ef rfl rfl rfl rfl rfl ?_
   refine Ef.call go54 rfl rfl (lthere_ok e w2) ?_
   rintro _ w2_2 ⟨rfl, h2_2⟩
   refine ⟨_, rfl, ?_⟩
   refine ⟨fun _ => h2_2, ?_⟩
   have L5 := L3.le h2_2
   refine G.nil ?_
   refine GT.br ?_ ?_
   ·refine GT.last ?_
    have f6 := (hp0.le (h0_0.trans (h1_2.trans (d2.trans h2_2))))
    have f7 := (hM0.le (h0_0.trans (h1_2.trans (d2.trans h2_2))))
    refine G.ef rfl rfl rfl rfl rfl ?_
    refine Ef.call go53 rfl rfl (lof_ok (wyE e) e.r w2_2 f6 f7 hg (by omega) (by omega)) ?_
    rintro _ w2_5 ⟨rfl, h2_5⟩
    refine ⟨_, rfl, ?_⟩
    refine ⟨fun _ => h2_5, ?_⟩
    have L8 := L5.le h2_5
    have hof := cnt_ok (fun n hn => hg (wyE e) n hn) (show 0 < e.r by omega) (show e.r ≤ 1125899906842624 by omega)
    unfold okNt at hof
    refine G.ef rfl rfl rfl rfl rfl ?_
    refine Ef.allocA z86 ?_
    intro g2_6 w2_6 hg2_6 b2_6 h2_6
    refine ⟨fun _ => h2_6, ?_⟩
    have L9 := L8.le h2_6
    have b2_6 : Blk w2_6 g2_6 86 (ntV noNt).toArray := b2_6
    refine G.ef0 rfl rfl rfl rfl ?_
    refine Ef.storeAll sz86 (by rfl) rfl rfl b2_6 (by simp only [List.size_toArray, ntV_row.len]) (ntV_row.one (cnt (getG (wyE e) la) e.r)) ?_
    intro w2_7 b2_7 h2_7
    refine ⟨fun h => absurd h (ne_true_of_eq_false (by kernel_rfl)), ?_⟩
    have b2_7 : Blk w2_7 g2_6 86 (ntV (cnt (getG (wyE e) la) e.r)).toArray := b2_7
    have L10 : ChP w w2_7 (fun k => k = gm) := L9.ch h2_7 (fun i hi hlt => by cases hi; exact absurd hlt (by have := L8.size; have := hg2_6; omega))
    refine G.nil (E.thenN ?_)
    refine WC.draw [0, 1, 2, 3, 4, 6, 7, 8, 9, 10, 11, 12, 13, 14, 15, 16, 17, 5, 18] mixed (by kernel_rfl) ?_
    intro w3 d3
    have L11 := L10.le d3
    refine G.run 1 rfl ?_
    refine G.a rfl (.nilCheck rfl) ?_
    refine G.a rfl (.field0 fa103_0 rfl) ?_
    have f12 := (((f6.le (h2_5.trans h2_6)).ch h2_7 (fun h => (show g2_6 ≠ gp from by have := f6.lt; have := h2_5.size; omega) (Option.some.inj h))).le d3)
    refine G.r rfl (.loadB (v := .map (some gm)) na100 rfl f12 rfl) ?_
    have f13 := (((f4.le (h2_2.trans (h2_5.trans h2_6))).ch h2_7 (fun h => (show g2_6 ≠ g0_0 from by have := f4.lt; have := h2_2.size; have := h2_5.size; omega) (Option.some.inj h))).le d3)
    refine G.r rfl (.loadAll ag51 (by rfl) rfl f13) ?_
    refine G.a rfl (.field0 fa86_0 rfl) ?_
    have f14 := (b2_7.le d3)
    refine G.r rfl (.loadB (v := .int .i64 ((cnt (getG (wyE e) la) e.r).lo)) na3 rfl f14 rfl) ?_
    refine G.run 1 rfl ?_
    refine G.a rfl (.sub rfl rfl (by omega)) ?_
    refine G.r rfl (.min2 rfl rfl) ?_
    refine G.a rfl (.field0 fa86_1 rfl) ?_
    refine G.r rfl (.loadB (v := .int .i64 ((cnt (getG (wyE e) la) e.r).hi)) na3 rfl f14 rfl) ?_
    refine G.run 1 rfl ?_
    refine G.r rfl (.min2 rfl rfl) ?_
    refine G.a rfl (.field0 fa51_3 rfl) ?_
    refine G.r rfl (.loadB (v := .int .i64 (e.r)) na3 rfl f13 rfl) ?_
    refine G.a rfl (.buildP (ntV (⟨(min ((cnt (getG (wyE e) la) e.r).lo) (a - 1)), (min ((cnt (getG (wyE e) la) e.r).hi) a), e.r⟩ : Nt)) pl86 z86 rfl rfl) ?_
    refine G.ef rfl rfl rfl rfl rfl ?_
    refine Ef.call go54 rfl rfl (lthere_ok e w3) ?_
    rintro _ w3_5 ⟨rfl, h3_5⟩
    refine ⟨_, rfl, ?_⟩
    refine ⟨fun _ => h3_5, ?_⟩
    have L15 := L11.le h3_5
    rcases optG (getG (wyE e) la) with hk3_18 | ⟨vhk3_18, hk3_18⟩
    ·have f16 := (((f7.le (h2_5.trans h2_6)).ch h2_7 (fun h => (show g2_6 ≠ gm from by have := f7.lt; have := h2_5.size; omega) (Option.some.inj h))).le (d3.trans h3_5))
     refine G.ef0 rfl rfl rfl rfl ?_
     refine Ef.insertG (key := (wyE e)) (u := (⟨(min ((cnt (getG (wyE e) la) e.r).lo) (a - 1)), (min ((cnt (getG (wyE e) la) e.r).hi) a), e.r⟩ : Nt)) Tryz.underlying100 kwy rfl rfl rfl f16 (hk3_18) ?_
     intro w3_18 b3_18 h3_18
     refine ⟨fun h => absurd h (ne_true_of_eq_false (by kernel_rfl)), ?_⟩
     have L17 : ChP w w3_18 (fun k => k = gm) := L15.ch h3_18 (fun i hi _ => by cases hi; exact rfl)
     refine G.nil (E.end_ ?_)
     refine E.ret0 rfl ?_
     have hf : failM (fun k => getG k la) e a = setM (fun k => getG k la) (wyE e) (failN e a (ofM (fun k => getG k la) (wyE e) e.r)) := if_pos (by assumption)
     rw [hf]
     exact ⟨rfl, _, _, b3_18, fun k => by rw [getG_push hk3_18]; rfl, L17⟩
    have f18 := (((f7.le (h2_5.trans h2_6)).ch h2_7 (fun h => (show g2_6 ≠ gm from by have := f7.lt; have := h2_5.size; omega) (Option.some.inj h))).le (d3.trans h3_5))
    refine G.ef0 rfl rfl rfl rfl ?_
    refine Ef.updateG (key := (wyE e)) (u := (⟨(min ((cnt (getG (wyE e) la) e.r).lo) (a - 1)), (min ((cnt (getG (wyE e) la) e.r).hi) a), e.r⟩ : Nt)) Tryz.underlying100 kwy rfl rfl rfl f18 stay_wy (hk3_18) ?_
    intro w3_18_1 b3_18_1 h3_18_1
    refine ⟨fun h => absurd h (ne_true_of_eq_false (by kernel_rfl)), ?_⟩
    have L19 : ChP w w3_18_1 (fun k => k = gm) := L15.ch h3_18_1 (fun i hi _ => by cases hi; exact rfl)
    refine G.nil (E.end_ ?_)
    refine E.ret0 rfl ?_
    have hf : failM (fun k => getG k la) e a = setM (fun k => getG k la) (wyE e) (failN e a (ofM (fun k => getG k la) (wyE e) e.r)) := if_pos (by assumption)
    rw [hf]
    exact ⟨rfl, _, _, b3_18_1, fun k => by rw [getG_set ⟨_, hk3_18⟩]; rfl, L19⟩
   refine GT.last ?_
   refine G.ef rfl rfl rfl rfl rfl ?_
   refine Ef.allocA z86 ?_
   intro g2_6_1 w2_6_1 hg2_6_1 b2_6_1 h2_6_1
   refine ⟨fun _ => h2_6_1, ?_⟩
   have L20 := L5.le h2_6_1
   have b2_6_1 : Blk w2_6_1 g2_6_1 86 (ntV noNt).toArray := b2_6_1
   have f21 := (hp0.le (h0_0.trans (h1_2.trans (d2.trans (h2_2.trans h2_6_1)))))
   have f22 := (hM0.le (h0_0.trans (h1_2.trans (d2.trans (h2_2.trans h2_6_1)))))
   refine G.ef rfl rfl rfl rfl rfl ?_
   refine Ef.call go53 rfl rfl (lof_ok (wyE e) e.r w2_6_1 f21 f22 hg (by omega) (by omega)) ?_
   rintro _ w2_5_1 ⟨rfl, h2_5_1⟩
   refine ⟨_, rfl, ?_⟩
   refine ⟨fun _ => h2_5_1, ?_⟩
   have L23 := L20.le h2_5_1
   have hof := cnt_ok (fun n hn => hg (wyE e) n hn) (show 0 < e.r by omega) (show e.r ≤ 1125899906842624 by omega)
   unfold okNt at hof
   have f24 := (b2_6_1.le h2_5_1)
   refine G.ef0 rfl rfl rfl rfl ?_
   refine Ef.storeAll sz86 (by rfl) rfl rfl f24 (by simp only [List.size_toArray, ntV_row.len]) (ntV_row.one (cnt (getG (wyE e) la) e.r)) ?_
   intro w2_7_1 b2_7_1 h2_7_1
   refine ⟨fun h => absurd h (ne_true_of_eq_false (by kernel_rfl)), ?_⟩
   have b2_7_1 : Blk w2_7_1 g2_6_1 86 (ntV (cnt (getG (wyE e) la) e.r)).toArray := b2_7_1
   have L25 : ChP w w2_7_1 (fun k => k = gm) := L23.ch h2_7_1 (fun i hi hlt => by cases hi; exact absurd hlt (by have := L5.size; have := hg2_6_1; omega))
   refine G.nil (E.thenN ?_)
   refine WC.draw [0, 1, 2, 3, 4, 6, 7, 8, 9, 10, 11, 12, 13, 14, 15, 16, 17, 5, 18] mixed (by kernel_rfl) ?_
   intro w3 d3
   have L26 := L25.le d3
   refine G.run 1 rfl ?_
   refine G.a rfl (.nilCheck rfl) ?_
   refine G.a rfl (.field0 fa103_0 rfl) ?_
   have f27 := (((f21.le h2_5_1).ch h2_7_1 (fun h => (show g2_6_1 ≠ gp from by have := hp0.lt; have := h0_0.size; have := h1_2.size; have := d2.size; have := h2_2.size; omega) (Option.some.inj h))).le d3)
   refine G.r rfl (.loadB (v := .map (some gm)) na100 rfl f27 rfl) ?_
   have f28 := (((f4.le (h2_2.trans (h2_6_1.trans h2_5_1))).ch h2_7_1 (fun h => (show g2_6_1 ≠ g0_0 from by have := f4.lt; have := h2_2.size; omega) (Option.some.inj h))).le d3)
   refine G.r rfl (.loadAll ag51 (by rfl) rfl f28) ?_
   refine G.a rfl (.field0 fa86_0 rfl) ?_
   have f29 := (b2_7_1.le d3)
   refine G.r rfl (.loadB (v := .int .i64 ((cnt (getG (wyE e) la) e.r).lo)) na3 rfl f29 rfl) ?_
   refine G.run 1 rfl ?_
   refine G.a rfl (.sub rfl rfl (by omega)) ?_
   refine G.r rfl (.min2 rfl rfl) ?_
   refine G.a rfl (.field0 fa86_1 rfl) ?_
   refine G.r rfl (.loadB (v := .int .i64 ((cnt (getG (wyE e) la) e.r).hi)) na3 rfl f29 rfl) ?_
   refine G.run 1 rfl ?_
   refine G.r rfl (.min2 rfl rfl) ?_
   refine G.a rfl (.field0 fa51_3 rfl) ?_
   refine G.r rfl (.loadB (v := .int .i64 (e.r)) na3 rfl f28 rfl) ?_
   refine G.a rfl (.buildP (ntV (⟨(min ((cnt (getG (wyE e) la) e.r).lo) (a - 1)), (min ((cnt (getG (wyE e) la) e.r).hi) a), e.r⟩ : Nt)) pl86 z86 rfl rfl) ?_
   refine G.ef rfl rfl rfl rfl rfl ?_
   refine Ef.call go54 rfl rfl (lthere_ok e w3) ?_
   rintro _ w3_5_1 ⟨rfl, h3_5_1⟩
   refine ⟨_, rfl, ?_⟩
   refine ⟨fun _ => h3_5_1, ?_⟩
   have L30 := L26.le h3_5_1
   rcases optG (getG (wyE e) la) with hk3_18_1 | ⟨vhk3_18_1, hk3_18_1⟩
   ·have f31 := (((f22.le h2_5_1).ch h2_7_1 (fun h => (show g2_6_1 ≠ gm from by have := hM0.lt; have := h0_0.size; have := h1_2.size; have := d2.size; have := h2_2.size; omega) (Option.some.inj h))).le (d3.trans h3_5_1))
    refine G.ef0 rfl rfl rfl rfl ?_
    refine Ef.insertG (key := (wyE e)) (u := (⟨(min ((cnt (getG (wyE e) la) e.r).lo) (a - 1)), (min ((cnt (getG (wyE e) la) e.r).hi) a), e.r⟩ : Nt)) Tryz.underlying100 kwy rfl rfl rfl f31 (hk3_18_1) ?_
    intro w3_18_2 b3_18_2 h3_18_2
    refine ⟨fun h => absurd h (ne_true_of_eq_false (by kernel_rfl)), ?_⟩
    have L32 : ChP w w3_18_2 (fun k => k = gm) := L30.ch h3_18_2 (fun i hi _ => by cases hi; exact rfl)
    refine G.nil (E.end_ ?_)
    refine E.ret0 rfl ?_
    have hf : failM (fun k => getG k la) e a = setM (fun k => getG k la) (wyE e) (failN e a (ofM (fun k => getG k la) (wyE e) e.r)) := if_pos (by assumption)
    rw [hf]
    exact ⟨rfl, _, _, b3_18_2, fun k => by rw [getG_push hk3_18_1]; rfl, L32⟩
   have f33 := (((f22.le h2_5_1).ch h2_7_1 (fun h => (show g2_6_1 ≠ gm from by have := hM0.lt; have := h0_0.size; have := h1_2.size; have := d2.size; have := h2_2.size; omega) (Option.some.inj h))).le (d3.trans h3_5_1))
   refine G.ef0 rfl rfl rfl rfl ?_
   refine Ef.updateG (key := (wyE e)) (u := (⟨(min ((cnt (getG (wyE e) la) e.r).lo) (a - 1)), (min ((cnt (getG (wyE e) la) e.r).hi) a), e.r⟩ : Nt)) Tryz.underlying100 kwy rfl rfl rfl f33 stay_wy (hk3_18_1) ?_
   intro w3_18_3 b3_18_3 h3_18_3
   refine ⟨fun h => absurd h (ne_true_of_eq_false (by kernel_rfl)), ?_⟩
   have L34 : ChP w w3_18_3 (fun k => k = gm) := L30.ch h3_18_3 (fun i hi _ => by cases hi; exact rfl)
   refine G.nil (E.end_ ?_)
   refine E.ret0 rfl ?_
   have hf : failM (fun k => getG k la) e a = setM (fun k => getG k la) (wyE e) (failN e a (ofM (fun k => getG k la) (wyE e) e.r)) := if_pos (by assumption)
   rw [hf]
   exact ⟨rfl, _, _, b3_18_3, fun k => by rw [getG_set ⟨_, hk3_18_1⟩]; rfl, L34⟩
  refine GT.last ?_
  refine G.ef rfl rfl rfl rfl rfl ?_
  refine Ef.allocA z86 ?_
  intro g2_6_2 w2_6_2 hg2_6_2 b2_6_2 h2_6_2
  refine ⟨fun _ => h2_6_2, ?_⟩
  have L35 := L3.le h2_6_2
  have b2_6_2 : Blk w2_6_2 g2_6_2 86 (ntV noNt).toArray := b2_6_2
  refine G.ef rfl rfl rfl rfl rfl ?_
  refine Ef.call go54 rfl rfl (lthere_ok e w2_6_2) ?_
  rintro _ w2_2_1 ⟨rfl, h2_2_1⟩
  refine ⟨_, rfl, ?_⟩
  refine ⟨fun _ => h2_2_1, ?_⟩
  have L36 := L35.le h2_2_1
  have f37 := (hp0.le (h0_0.trans (h1_2.trans (d2.trans (h2_6_2.trans h2_2_1)))))
  have f38 := (hM0.le (h0_0.trans (h1_2.trans (d2.trans (h2_6_2.trans h2_2_1)))))
  refine G.ef rfl rfl rfl rfl rfl ?_
  refine Ef.call go53 rfl rfl (lof_ok (wyE e) e.r w2_2_1 f37 f38 hg (by omega) (by omega)) ?_
  rintro _ w2_5_2 ⟨rfl, h2_5_2⟩
  refine ⟨_, rfl, ?_⟩
  refine ⟨fun _ => h2_5_2, ?_⟩
  have L39 := L36.le h2_5_2
  have hof := cnt_ok (fun n hn => hg (wyE e) n hn) (show 0 < e.r by omega) (show e.r ≤ 1125899906842624 by omega)
  unfold okNt at hof
  have f40 := (b2_6_2.le (h2_2_1.trans h2_5_2))
  refine G.ef0 rfl rfl rfl rfl ?_
  refine Ef.storeAll sz86 (by rfl) rfl rfl f40 (by simp only [List.size_toArray, ntV_row.len]) (ntV_row.one (cnt (getG (wyE e) la) e.r)) ?_
  intro w2_7_2 b2_7_2 h2_7_2
  refine ⟨fun h => absurd h (ne_true_of_eq_false (by kernel_rfl)), ?_⟩
  have b2_7_2 : Blk w2_7_2 g2_6_2 86 (ntV (cnt (getG (wyE e) la) e.r)).toArray := b2_7_2
  have L41 : ChP w w2_7_2 (fun k => k = gm) := L39.ch h2_7_2 (fun i hi hlt => by cases hi; exact absurd hlt (by have := L3.size; have := hg2_6_2; omega))
  refine G.nil (E.thenN ?_)
  refine WC.draw [0, 1, 2, 3, 4, 6, 7, 8, 9, 10, 11, 12, 13, 14, 15, 16, 17, 5, 18] mixed (by kernel_rfl) ?_
  intro w3 d3
  have L42 := L41.le d3
  refine G.run 1 rfl ?_
  refine G.a rfl (.nilCheck rfl) ?_
  refine G.a rfl (.field0 fa103_0 rfl) ?_
  have f43 := (((f37.le h2_5_2).ch h2_7_2 (fun h => (show g2_6_2 ≠ gp from by have := hp0.lt; have := h0_0.size; have := h1_2.size; have := d2.size; omega) (Option.some.inj h))).le d3)
  refine G.r rfl (.loadB (v := .map (some gm)) na100 rfl f43 rfl) ?_
  have f44 := (((f4.le (h2_6_2.trans (h2_2_1.trans h2_5_2))).ch h2_7_2 (fun h => (show g2_6_2 ≠ g0_0 from by have := f4.lt; omega) (Option.some.inj h))).le d3)
  refine G.r rfl (.loadAll ag51 (by rfl) rfl f44) ?_
  refine G.a rfl (.field0 fa86_0 rfl) ?_
  have f45 := (b2_7_2.le d3)
  refine G.r rfl (.loadB (v := .int .i64 ((cnt (getG (wyE e) la) e.r).lo)) na3 rfl f45 rfl) ?_
  refine G.run 1 rfl ?_
  refine G.a rfl (.sub rfl rfl (by omega)) ?_
  refine G.r rfl (.min2 rfl rfl) ?_
  refine G.a rfl (.field0 fa86_1 rfl) ?_
  refine G.r rfl (.loadB (v := .int .i64 ((cnt (getG (wyE e) la) e.r).hi)) na3 rfl f45 rfl) ?_
  refine G.run 1 rfl ?_
  refine G.r rfl (.min2 rfl rfl) ?_
  refine G.a rfl (.field0 fa51_3 rfl) ?_
  refine G.r rfl (.loadB (v := .int .i64 (e.r)) na3 rfl f44 rfl) ?_
  refine G.a rfl (.buildP (ntV (⟨(min ((cnt (getG (wyE e) la) e.r).lo) (a - 1)), (min ((cnt (getG (wyE e) la) e.r).hi) a), e.r⟩ : Nt)) pl86 z86 rfl rfl) ?_
  refine G.ef rfl rfl rfl rfl rfl ?_
  refine Ef.call go54 rfl rfl (lthere_ok e w3) ?_
  rintro _ w3_5_2 ⟨rfl, h3_5_2⟩
  refine ⟨_, rfl, ?_⟩
  refine ⟨fun _ => h3_5_2, ?_⟩
  have L46 := L42.le h3_5_2
  rcases optG (getG (wyE e) la) with hk3_18_2 | ⟨vhk3_18_2, hk3_18_2⟩
  ·have f47 := (((f38.le h2_5_2).ch h2_7_2 (fun h => (show g2_6_2 ≠ gm from by have := hM0.lt; have := h0_0.size; have := h1_2.size; have := d2.size; omega) (Option.some.inj h))).le (d3.trans h3_5_2))
   refine G.ef0 rfl rfl rfl rfl ?_
   refine Ef.insertG (key := (wyE e)) (u := (⟨(min ((cnt (getG (wyE e) la) e.r).lo) (a - 1)), (min ((cnt (getG (wyE e) la) e.r).hi) a), e.r⟩ : Nt)) Tryz.underlying100 kwy rfl rfl rfl f47 (hk3_18_2) ?_
   intro w3_18_4 b3_18_4 h3_18_4
   refine ⟨fun h => absurd h (ne_true_of_eq_false (by kernel_rfl)), ?_⟩
   have L48 : ChP w w3_18_4 (fun k => k = gm) := L46.ch h3_18_4 (fun i hi _ => by cases hi; exact rfl)
   refine G.nil (E.end_ ?_)
   refine E.ret0 rfl ?_
   have hf : failM (fun k => getG k la) e a = setM (fun k => getG k la) (wyE e) (failN e a (ofM (fun k => getG k la) (wyE e) e.r)) := if_pos (by assumption)
   rw [hf]
   exact ⟨rfl, _, _, b3_18_4, fun k => by rw [getG_push hk3_18_2]; rfl, L48⟩
  have f49 := (((f38.le h2_5_2).ch h2_7_2 (fun h => (show g2_6_2 ≠ gm from by have := hM0.lt; have := h0_0.size; have := h1_2.size; have := d2.size; omega) (Option.some.inj h))).le (d3.trans h3_5_2))
  refine G.ef0 rfl rfl rfl rfl ?_
  refine Ef.updateG (key := (wyE e)) (u := (⟨(min ((cnt (getG (wyE e) la) e.r).lo) (a - 1)), (min ((cnt (getG (wyE e) la) e.r).hi) a), e.r⟩ : Nt)) Tryz.underlying100 kwy rfl rfl rfl f49 stay_wy (hk3_18_2) ?_
  intro w3_18_5 b3_18_5 h3_18_5
  refine ⟨fun h => absurd h (ne_true_of_eq_false (by kernel_rfl)), ?_⟩
  have L50 : ChP w w3_18_5 (fun k => k = gm) := L46.ch h3_18_5 (fun i hi _ => by cases hi; exact rfl)
  refine G.nil (E.end_ ?_)
  refine E.ret0 rfl ?_
  have hf : failM (fun k => getG k la) e a = setM (fun k => getG k la) (wyE e) (failN e a (ofM (fun k => getG k la) (wyE e) e.r)) := if_pos (by assumption)
  rw [hf]
  exact ⟨rfl, _, _, b3_18_5, fun k => by rw [getG_set ⟨_, hk3_18_2⟩]; rfl, L50⟩
 refine WC.condN rfl ((Bool.eq_false_iff.2 c0)) ?_
 refine WC.skip (E.end_ ?_)
 have f51 := (hM0.le (h0_0.trans h1_2))
 refine E.ret0 rfl ?_
 have hf : failM (fun k => getG k la) e a = (fun k => getG k la) := if_neg (by simp [c0])
 rw [hf]
 exact ⟨rfl, _, _, f51, fun k => rfl, L2⟩

theorem lpass_ok {gp gm ca : Nat} {la : MMl} (e : Gsp.Edge) (a : Int) (w : World) (hp0 : Blk w gp 103 #[.map (some gm)]) (hM0 : MapG w wyf ntf gm la ca) (hg : ∀ k v, getG k la = some v → okNt v) (n1 : gp ≠ gm) : Calls Tryz.prog 32 #[.pointer (some ⟨gp, 0, none⟩), .agg (edgeV e).toArray, .int .i64 (a)] w fun r w' => r = .returned (.tuple #[]) ∧ ∃ la' ca', MapG w' wyf ntf gm la' ca' ∧ (∀ k, getG k la' = passM (fun k => getG k la) e a k) ∧ ChP w w' (fun k => k = gm) := by
 refine enter Tryz.func32 rfl rfl ?_
 have L0 := ChP.refl w (fun k => k = gm)
 refine WC.sr (W.ef rfl rfl rfl ?_)
 refine Ef.boxA rfl ?_
 intro g0_0 w0_0 hg0_0 b0_0 h0_0
 have L1 := L0.le h0_0
 have b0_0 : Blk w0_0 g0_0 51 (edgeV e).toArray := b0_0
 refine W.nx (WC.sr ?_)
 refine W.r (.loadAll ag51 (by rfl) rfl b0_0) ?_
 refine W.run 1 rfl ?_
 refine W.cl go71 rfl rfl (lsome_ok e a w0_0) ?_
 rintro _ w1_2 ⟨rfl, h1_2⟩
 have L2 := L1.le h1_2
 refine W.nx ?_
 by_cases c0 : (someM e a) = true
 ·refine WC.condY rfl (c0) ?_
  have hsm := someM_T (by assumption : someM e a = true)
  have hmz := mayM_T hsm.1
  refine WC.seq ?_
  refine WC.drawT (fun o => (app o [0, 1, 3, 4] (.br (app o [2] (.br (app o [5, 6, 7] .nil) (app o [6, 5, 7] .nil))) (app o [6, 2, 5, 7] .nil)))) mixed (by kernel_rfl) ?_
  intro w2 d2
  have L3 := L2.le d2
  refine GT.app ?_
  refine G.run 1 rfl ?_
  have f4 := (b0_0.le (h1_2.trans d2))
  refine G.r rfl (.loadAll ag51 (by rfl) rfl f4) ?_
  refine G.a rfl (.field0 fa51_3 rfl) ?_
  refine G.r rfl (.loadB (v := .int .i64 (e.r)) na3 rfl f4 rfl) ?_
  refine G.nil ?_
  refine GT.br ?_ ?_
  ·refine GT.app ?_
   refine G.ef rfl rfl rfl rfl rfl ?_
   refine Ef.call go54 rfl rfl (lthere_ok e w2) ?_
   rintro _ w2_2 ⟨rfl, h2_2⟩
   refine ⟨_, rfl, ?_⟩
   refine ⟨fun _ => h2_2, ?_⟩
   have L5 := L3.le h2_2
   refine G.nil ?_
   refine GT.br ?_ ?_
   ·refine GT.last ?_
    have f6 := (hp0.le (h0_0.trans (h1_2.trans (d2.trans h2_2))))
    have f7 := (hM0.le (h0_0.trans (h1_2.trans (d2.trans h2_2))))
    refine G.ef rfl rfl rfl rfl rfl ?_
    refine Ef.call go53 rfl rfl (lof_ok (wyE e) e.r w2_2 f6 f7 hg (by omega) (by omega)) ?_
    rintro _ w2_5 ⟨rfl, h2_5⟩
    refine ⟨_, rfl, ?_⟩
    refine ⟨fun _ => h2_5, ?_⟩
    have L8 := L5.le h2_5
    have hof := cnt_ok (fun n hn => hg (wyE e) n hn) (show 0 < e.r by omega) (show e.r ≤ 1125899906842624 by omega)
    unfold okNt at hof
    refine G.ef rfl rfl rfl rfl rfl ?_
    refine Ef.allocA z86 ?_
    intro g2_6 w2_6 hg2_6 b2_6 h2_6
    refine ⟨fun _ => h2_6, ?_⟩
    have L9 := L8.le h2_6
    have b2_6 : Blk w2_6 g2_6 86 (ntV noNt).toArray := b2_6
    refine G.ef0 rfl rfl rfl rfl ?_
    refine Ef.storeAll sz86 (by rfl) rfl rfl b2_6 (by simp only [List.size_toArray, ntV_row.len]) (ntV_row.one (cnt (getG (wyE e) la) e.r)) ?_
    intro w2_7 b2_7 h2_7
    refine ⟨fun h => absurd h (ne_true_of_eq_false (by kernel_rfl)), ?_⟩
    have b2_7 : Blk w2_7 g2_6 86 (ntV (cnt (getG (wyE e) la) e.r)).toArray := b2_7
    have L10 : ChP w w2_7 (fun k => k = gm) := L9.ch h2_7 (fun i hi hlt => by cases hi; exact absurd hlt (by have := L8.size; have := hg2_6; omega))
    refine G.nil (E.thenN ?_)
    refine WC.draw [0, 1, 2, 3, 4, 6, 7, 8, 9, 10, 11, 12, 13, 14, 15, 16, 17, 5, 18] mixed (by kernel_rfl) ?_
    intro w3 d3
    have L11 := L10.le d3
    refine G.run 1 rfl ?_
    refine G.a rfl (.nilCheck rfl) ?_
    refine G.a rfl (.field0 fa103_0 rfl) ?_
    have f12 := (((f6.le (h2_5.trans h2_6)).ch h2_7 (fun h => (show g2_6 ≠ gp from by have := f6.lt; have := h2_5.size; omega) (Option.some.inj h))).le d3)
    refine G.r rfl (.loadB (v := .map (some gm)) na100 rfl f12 rfl) ?_
    have f13 := (((f4.le (h2_2.trans (h2_5.trans h2_6))).ch h2_7 (fun h => (show g2_6 ≠ g0_0 from by have := f4.lt; have := h2_2.size; have := h2_5.size; omega) (Option.some.inj h))).le d3)
    refine G.r rfl (.loadAll ag51 (by rfl) rfl f13) ?_
    refine G.a rfl (.field0 fa86_0 rfl) ?_
    have f14 := (b2_7.le d3)
    refine G.r rfl (.loadB (v := .int .i64 ((cnt (getG (wyE e) la) e.r).lo)) na3 rfl f14 rfl) ?_
    refine G.run 1 rfl ?_
    refine G.r rfl (.max2 rfl rfl) ?_
    refine G.a rfl (.field0 fa86_1 rfl) ?_
    refine G.r rfl (.loadB (v := .int .i64 ((cnt (getG (wyE e) la) e.r).hi)) na3 rfl f14 rfl) ?_
    refine G.run 1 rfl ?_
    refine G.a rfl (.add rfl rfl (by omega)) ?_
    refine G.r rfl (.max2 rfl rfl) ?_
    refine G.a rfl (.field0 fa51_3 rfl) ?_
    refine G.r rfl (.loadB (v := .int .i64 (e.r)) na3 rfl f13 rfl) ?_
    refine G.a rfl (.buildP (ntV (⟨(max ((cnt (getG (wyE e) la) e.r).lo) a), (max ((cnt (getG (wyE e) la) e.r).hi) (a + 1)), e.r⟩ : Nt)) pl86 z86 rfl rfl) ?_
    refine G.ef rfl rfl rfl rfl rfl ?_
    refine Ef.call go54 rfl rfl (lthere_ok e w3) ?_
    rintro _ w3_5 ⟨rfl, h3_5⟩
    refine ⟨_, rfl, ?_⟩
    refine ⟨fun _ => h3_5, ?_⟩
    have L15 := L11.le h3_5
    rcases optG (getG (wyE e) la) with hk3_18 | ⟨vhk3_18, hk3_18⟩
    ·have f16 := (((f7.le (h2_5.trans h2_6)).ch h2_7 (fun h => (show g2_6 ≠ gm from by have := f7.lt; have := h2_5.size; omega) (Option.some.inj h))).le (d3.trans h3_5))
     refine G.ef0 rfl rfl rfl rfl ?_
     refine Ef.insertG (key := (wyE e)) (u := (⟨(max ((cnt (getG (wyE e) la) e.r).lo) a), (max ((cnt (getG (wyE e) la) e.r).hi) (a + 1)), e.r⟩ : Nt)) Tryz.underlying100 kwy rfl rfl rfl f16 (hk3_18) ?_
     intro w3_18 b3_18 h3_18
     refine ⟨fun h => absurd h (ne_true_of_eq_false (by kernel_rfl)), ?_⟩
     have L17 : ChP w w3_18 (fun k => k = gm) := L15.ch h3_18 (fun i hi _ => by cases hi; exact rfl)
     refine G.nil (E.end_ ?_)
     refine E.ret0 rfl ?_
     have hf : passM (fun k => getG k la) e a = setM (fun k => getG k la) (wyE e) (passN e a (ofM (fun k => getG k la) (wyE e) e.r)) := if_pos (by assumption)
     rw [hf]
     exact ⟨rfl, _, _, b3_18, fun k => by rw [getG_push hk3_18]; rfl, L17⟩
    have f18 := (((f7.le (h2_5.trans h2_6)).ch h2_7 (fun h => (show g2_6 ≠ gm from by have := f7.lt; have := h2_5.size; omega) (Option.some.inj h))).le (d3.trans h3_5))
    refine G.ef0 rfl rfl rfl rfl ?_
    refine Ef.updateG (key := (wyE e)) (u := (⟨(max ((cnt (getG (wyE e) la) e.r).lo) a), (max ((cnt (getG (wyE e) la) e.r).hi) (a + 1)), e.r⟩ : Nt)) Tryz.underlying100 kwy rfl rfl rfl f18 stay_wy (hk3_18) ?_
    intro w3_18_1 b3_18_1 h3_18_1
    refine ⟨fun h => absurd h (ne_true_of_eq_false (by kernel_rfl)), ?_⟩
    have L19 : ChP w w3_18_1 (fun k => k = gm) := L15.ch h3_18_1 (fun i hi _ => by cases hi; exact rfl)
    refine G.nil (E.end_ ?_)
    refine E.ret0 rfl ?_
    have hf : passM (fun k => getG k la) e a = setM (fun k => getG k la) (wyE e) (passN e a (ofM (fun k => getG k la) (wyE e) e.r)) := if_pos (by assumption)
    rw [hf]
    exact ⟨rfl, _, _, b3_18_1, fun k => by rw [getG_set ⟨_, hk3_18⟩]; rfl, L19⟩
   refine GT.last ?_
   refine G.ef rfl rfl rfl rfl rfl ?_
   refine Ef.allocA z86 ?_
   intro g2_6_1 w2_6_1 hg2_6_1 b2_6_1 h2_6_1
   refine ⟨fun _ => h2_6_1, ?_⟩
   have L20 := L5.le h2_6_1
   have b2_6_1 : Blk w2_6_1 g2_6_1 86 (ntV noNt).toArray := b2_6_1
   have f21 := (hp0.le (h0_0.trans (h1_2.trans (d2.trans (h2_2.trans h2_6_1)))))
   have f22 := (hM0.le (h0_0.trans (h1_2.trans (d2.trans (h2_2.trans h2_6_1)))))
   refine G.ef rfl rfl rfl rfl rfl ?_
   refine Ef.call go53 rfl rfl (lof_ok (wyE e) e.r w2_6_1 f21 f22 hg (by omega) (by omega)) ?_
   rintro _ w2_5_1 ⟨rfl, h2_5_1⟩
   refine ⟨_, rfl, ?_⟩
   refine ⟨fun _ => h2_5_1, ?_⟩
   have L23 := L20.le h2_5_1
   have hof := cnt_ok (fun n hn => hg (wyE e) n hn) (show 0 < e.r by omega) (show e.r ≤ 1125899906842624 by omega)
   unfold okNt at hof
   have f24 := (b2_6_1.le h2_5_1)
   refine G.ef0 rfl rfl rfl rfl ?_
   refine Ef.storeAll sz86 (by rfl) rfl rfl f24 (by simp only [List.size_toArray, ntV_row.len]) (ntV_row.one (cnt (getG (wyE e) la) e.r)) ?_
   intro w2_7_1 b2_7_1 h2_7_1
   refine ⟨fun h => absurd h (ne_true_of_eq_false (by kernel_rfl)), ?_⟩
   have b2_7_1 : Blk w2_7_1 g2_6_1 86 (ntV (cnt (getG (wyE e) la) e.r)).toArray := b2_7_1
   have L25 : ChP w w2_7_1 (fun k => k = gm) := L23.ch h2_7_1 (fun i hi hlt => by cases hi; exact absurd hlt (by have := L5.size; have := hg2_6_1; omega))
   refine G.nil (E.thenN ?_)
   refine WC.draw [0, 1, 2, 3, 4, 6, 7, 8, 9, 10, 11, 12, 13, 14, 15, 16, 17, 5, 18] mixed (by kernel_rfl) ?_
   intro w3 d3
   have L26 := L25.le d3
   refine G.run 1 rfl ?_
   refine G.a rfl (.nilCheck rfl) ?_
   refine G.a rfl (.field0 fa103_0 rfl) ?_
   have f27 := (((f21.le h2_5_1).ch h2_7_1 (fun h => (show g2_6_1 ≠ gp from by have := hp0.lt; have := h0_0.size; have := h1_2.size; have := d2.size; have := h2_2.size; omega) (Option.some.inj h))).le d3)
   refine G.r rfl (.loadB (v := .map (some gm)) na100 rfl f27 rfl) ?_
   have f28 := (((f4.le (h2_2.trans (h2_6_1.trans h2_5_1))).ch h2_7_1 (fun h => (show g2_6_1 ≠ g0_0 from by have := f4.lt; have := h2_2.size; omega) (Option.some.inj h))).le d3)
   refine G.r rfl (.loadAll ag51 (by rfl) rfl f28) ?_
   refine G.a rfl (.field0 fa86_0 rfl) ?_
   have f29 := (b2_7_1.le d3)
   refine G.r rfl (.loadB (v := .int .i64 ((cnt (getG (wyE e) la) e.r).lo)) na3 rfl f29 rfl) ?_
   refine G.run 1 rfl ?_
   refine G.r rfl (.max2 rfl rfl) ?_
   refine G.a rfl (.field0 fa86_1 rfl) ?_
   refine G.r rfl (.loadB (v := .int .i64 ((cnt (getG (wyE e) la) e.r).hi)) na3 rfl f29 rfl) ?_
   refine G.run 1 rfl ?_
   refine G.a rfl (.add rfl rfl (by omega)) ?_
   refine G.r rfl (.max2 rfl rfl) ?_
   refine G.a rfl (.field0 fa51_3 rfl) ?_
   refine G.r rfl (.loadB (v := .int .i64 (e.r)) na3 rfl f28 rfl) ?_
   refine G.a rfl (.buildP (ntV (⟨(max ((cnt (getG (wyE e) la) e.r).lo) a), (max ((cnt (getG (wyE e) la) e.r).hi) (a + 1)), e.r⟩ : Nt)) pl86 z86 rfl rfl) ?_
   refine G.ef rfl rfl rfl rfl rfl ?_
   refine Ef.call go54 rfl rfl (lthere_ok e w3) ?_
   rintro _ w3_5_1 ⟨rfl, h3_5_1⟩
   refine ⟨_, rfl, ?_⟩
   refine ⟨fun _ => h3_5_1, ?_⟩
   have L30 := L26.le h3_5_1
   rcases optG (getG (wyE e) la) with hk3_18_1 | ⟨vhk3_18_1, hk3_18_1⟩
   ·have f31 := (((f22.le h2_5_1).ch h2_7_1 (fun h => (show g2_6_1 ≠ gm from by have := hM0.lt; have := h0_0.size; have := h1_2.size; have := d2.size; have := h2_2.size; omega) (Option.some.inj h))).le (d3.trans h3_5_1))
    refine G.ef0 rfl rfl rfl rfl ?_
    refine Ef.insertG (key := (wyE e)) (u := (⟨(max ((cnt (getG (wyE e) la) e.r).lo) a), (max ((cnt (getG (wyE e) la) e.r).hi) (a + 1)), e.r⟩ : Nt)) Tryz.underlying100 kwy rfl rfl rfl f31 (hk3_18_1) ?_
    intro w3_18_2 b3_18_2 h3_18_2
    refine ⟨fun h => absurd h (ne_true_of_eq_false (by kernel_rfl)), ?_⟩
    have L32 : ChP w w3_18_2 (fun k => k = gm) := L30.ch h3_18_2 (fun i hi _ => by cases hi; exact rfl)
    refine G.nil (E.end_ ?_)
    refine E.ret0 rfl ?_
    have hf : passM (fun k => getG k la) e a = setM (fun k => getG k la) (wyE e) (passN e a (ofM (fun k => getG k la) (wyE e) e.r)) := if_pos (by assumption)
    rw [hf]
    exact ⟨rfl, _, _, b3_18_2, fun k => by rw [getG_push hk3_18_1]; rfl, L32⟩
   have f33 := (((f22.le h2_5_1).ch h2_7_1 (fun h => (show g2_6_1 ≠ gm from by have := hM0.lt; have := h0_0.size; have := h1_2.size; have := d2.size; have := h2_2.size; omega) (Option.some.inj h))).le (d3.trans h3_5_1))
   refine G.ef0 rfl rfl rfl rfl ?_
   refine Ef.updateG (key := (wyE e)) (u := (⟨(max ((cnt (getG (wyE e) la) e.r).lo) a), (max ((cnt (getG (wyE e) la) e.r).hi) (a + 1)), e.r⟩ : Nt)) Tryz.underlying100 kwy rfl rfl rfl f33 stay_wy (hk3_18_1) ?_
   intro w3_18_3 b3_18_3 h3_18_3
   refine ⟨fun h => absurd h (ne_true_of_eq_false (by kernel_rfl)), ?_⟩
   have L34 : ChP w w3_18_3 (fun k => k = gm) := L30.ch h3_18_3 (fun i hi _ => by cases hi; exact rfl)
   refine G.nil (E.end_ ?_)
   refine E.ret0 rfl ?_
   have hf : passM (fun k => getG k la) e a = setM (fun k => getG k la) (wyE e) (passN e a (ofM (fun k => getG k la) (wyE e) e.r)) := if_pos (by assumption)
   rw [hf]
   exact ⟨rfl, _, _, b3_18_3, fun k => by rw [getG_set ⟨_, hk3_18_1⟩]; rfl, L34⟩
  refine GT.last ?_
  refine G.ef rfl rfl rfl rfl rfl ?_
  refine Ef.allocA z86 ?_
  intro g2_6_2 w2_6_2 hg2_6_2 b2_6_2 h2_6_2
  refine ⟨fun _ => h2_6_2, ?_⟩
  have L35 := L3.le h2_6_2
  have b2_6_2 : Blk w2_6_2 g2_6_2 86 (ntV noNt).toArray := b2_6_2
  refine G.ef rfl rfl rfl rfl rfl ?_
  refine Ef.call go54 rfl rfl (lthere_ok e w2_6_2) ?_
  rintro _ w2_2_1 ⟨rfl, h2_2_1⟩
  refine ⟨_, rfl, ?_⟩
  refine ⟨fun _ => h2_2_1, ?_⟩
  have L36 := L35.le h2_2_1
  have f37 := (hp0.le (h0_0.trans (h1_2.trans (d2.trans (h2_6_2.trans h2_2_1)))))
  have f38 := (hM0.le (h0_0.trans (h1_2.trans (d2.trans (h2_6_2.trans h2_2_1)))))
  refine G.ef rfl rfl rfl rfl rfl ?_
  refine Ef.call go53 rfl rfl (lof_ok (wyE e) e.r w2_2_1 f37 f38 hg (by omega) (by omega)) ?_
  rintro _ w2_5_2 ⟨rfl, h2_5_2⟩
  refine ⟨_, rfl, ?_⟩
  refine ⟨fun _ => h2_5_2, ?_⟩
  have L39 := L36.le h2_5_2
  have hof := cnt_ok (fun n hn => hg (wyE e) n hn) (show 0 < e.r by omega) (show e.r ≤ 1125899906842624 by omega)
  unfold okNt at hof
  have f40 := (b2_6_2.le (h2_2_1.trans h2_5_2))
  refine G.ef0 rfl rfl rfl rfl ?_
  refine Ef.storeAll sz86 (by rfl) rfl rfl f40 (by simp only [List.size_toArray, ntV_row.len]) (ntV_row.one (cnt (getG (wyE e) la) e.r)) ?_
  intro w2_7_2 b2_7_2 h2_7_2
  refine ⟨fun h => absurd h (ne_true_of_eq_false (by kernel_rfl)), ?_⟩
  have b2_7_2 : Blk w2_7_2 g2_6_2 86 (ntV (cnt (getG (wyE e) la) e.r)).toArray := b2_7_2
  have L41 : ChP w w2_7_2 (fun k => k = gm) := L39.ch h2_7_2 (fun i hi hlt => by cases hi; exact absurd hlt (by have := L3.size; have := hg2_6_2; omega))
  refine G.nil (E.thenN ?_)
  refine WC.draw [0, 1, 2, 3, 4, 6, 7, 8, 9, 10, 11, 12, 13, 14, 15, 16, 17, 5, 18] mixed (by kernel_rfl) ?_
  intro w3 d3
  have L42 := L41.le d3
  refine G.run 1 rfl ?_
  refine G.a rfl (.nilCheck rfl) ?_
  refine G.a rfl (.field0 fa103_0 rfl) ?_
  have f43 := (((f37.le h2_5_2).ch h2_7_2 (fun h => (show g2_6_2 ≠ gp from by have := hp0.lt; have := h0_0.size; have := h1_2.size; have := d2.size; omega) (Option.some.inj h))).le d3)
  refine G.r rfl (.loadB (v := .map (some gm)) na100 rfl f43 rfl) ?_
  have f44 := (((f4.le (h2_6_2.trans (h2_2_1.trans h2_5_2))).ch h2_7_2 (fun h => (show g2_6_2 ≠ g0_0 from by have := f4.lt; omega) (Option.some.inj h))).le d3)
  refine G.r rfl (.loadAll ag51 (by rfl) rfl f44) ?_
  refine G.a rfl (.field0 fa86_0 rfl) ?_
  have f45 := (b2_7_2.le d3)
  refine G.r rfl (.loadB (v := .int .i64 ((cnt (getG (wyE e) la) e.r).lo)) na3 rfl f45 rfl) ?_
  refine G.run 1 rfl ?_
  refine G.r rfl (.max2 rfl rfl) ?_
  refine G.a rfl (.field0 fa86_1 rfl) ?_
  refine G.r rfl (.loadB (v := .int .i64 ((cnt (getG (wyE e) la) e.r).hi)) na3 rfl f45 rfl) ?_
  refine G.run 1 rfl ?_
  refine G.a rfl (.add rfl rfl (by omega)) ?_
  refine G.r rfl (.max2 rfl rfl) ?_
  refine G.a rfl (.field0 fa51_3 rfl) ?_
  refine G.r rfl (.loadB (v := .int .i64 (e.r)) na3 rfl f44 rfl) ?_
  refine G.a rfl (.buildP (ntV (⟨(max ((cnt (getG (wyE e) la) e.r).lo) a), (max ((cnt (getG (wyE e) la) e.r).hi) (a + 1)), e.r⟩ : Nt)) pl86 z86 rfl rfl) ?_
  refine G.ef rfl rfl rfl rfl rfl ?_
  refine Ef.call go54 rfl rfl (lthere_ok e w3) ?_
  rintro _ w3_5_2 ⟨rfl, h3_5_2⟩
  refine ⟨_, rfl, ?_⟩
  refine ⟨fun _ => h3_5_2, ?_⟩
  have L46 := L42.le h3_5_2
  rcases optG (getG (wyE e) la) with hk3_18_2 | ⟨vhk3_18_2, hk3_18_2⟩
  ·have f47 := (((f38.le h2_5_2).ch h2_7_2 (fun h => (show g2_6_2 ≠ gm from by have := hM0.lt; have := h0_0.size; have := h1_2.size; have := d2.size; omega) (Option.some.inj h))).le (d3.trans h3_5_2))
   refine G.ef0 rfl rfl rfl rfl ?_
   refine Ef.insertG (key := (wyE e)) (u := (⟨(max ((cnt (getG (wyE e) la) e.r).lo) a), (max ((cnt (getG (wyE e) la) e.r).hi) (a + 1)), e.r⟩ : Nt)) Tryz.underlying100 kwy rfl rfl rfl f47 (hk3_18_2) ?_
   intro w3_18_4 b3_18_4 h3_18_4
   refine ⟨fun h => absurd h (ne_true_of_eq_false (by kernel_rfl)), ?_⟩
   have L48 : ChP w w3_18_4 (fun k => k = gm) := L46.ch h3_18_4 (fun i hi _ => by cases hi; exact rfl)
   refine G.nil (E.end_ ?_)
   refine E.ret0 rfl ?_
   have hf : passM (fun k => getG k la) e a = setM (fun k => getG k la) (wyE e) (passN e a (ofM (fun k => getG k la) (wyE e) e.r)) := if_pos (by assumption)
   rw [hf]
   exact ⟨rfl, _, _, b3_18_4, fun k => by rw [getG_push hk3_18_2]; rfl, L48⟩
  have f49 := (((f38.le h2_5_2).ch h2_7_2 (fun h => (show g2_6_2 ≠ gm from by have := hM0.lt; have := h0_0.size; have := h1_2.size; have := d2.size; omega) (Option.some.inj h))).le (d3.trans h3_5_2))
  refine G.ef0 rfl rfl rfl rfl ?_
  refine Ef.updateG (key := (wyE e)) (u := (⟨(max ((cnt (getG (wyE e) la) e.r).lo) a), (max ((cnt (getG (wyE e) la) e.r).hi) (a + 1)), e.r⟩ : Nt)) Tryz.underlying100 kwy rfl rfl rfl f49 stay_wy (hk3_18_2) ?_
  intro w3_18_5 b3_18_5 h3_18_5
  refine ⟨fun h => absurd h (ne_true_of_eq_false (by kernel_rfl)), ?_⟩
  have L50 : ChP w w3_18_5 (fun k => k = gm) := L46.ch h3_18_5 (fun i hi _ => by cases hi; exact rfl)
  refine G.nil (E.end_ ?_)
  refine E.ret0 rfl ?_
  have hf : passM (fun k => getG k la) e a = setM (fun k => getG k la) (wyE e) (passN e a (ofM (fun k => getG k la) (wyE e) e.r)) := if_pos (by assumption)
  rw [hf]
  exact ⟨rfl, _, _, b3_18_5, fun k => by rw [getG_set ⟨_, hk3_18_2⟩]; rfl, L50⟩
 refine WC.condN rfl ((Bool.eq_false_iff.2 c0)) ?_
 refine WC.skip (E.end_ ?_)
 have f51 := (hM0.le (h0_0.trans h1_2))
 refine E.ret0 rfl ?_
 have hf : passM (fun k => getG k la) e a = (fun k => getG k la) := if_neg (by simp [c0])
 rw [hf]
 exact ⟨rfl, _, _, f51, fun k => rfl, L2⟩

theorem lnew_ok (w : World) : Calls Tryz.prog 29 #[] w fun r w' => ∃ gp gm, r = .returned (.pointer (some ⟨gp, 0, none⟩)) ∧ Blk w' gp 103 #[.map (some gm)] ∧ MapG w' wyf ntf gm [] 0 ∧ w.heap.size ≤ gp ∧ w.heap.size ≤ gm ∧ gp ≠ gm ∧ Le w w' := by
 refine enter Tryz.func29 rfl rfl ?_
 have L0 := Le.refl w
 refine WC.sr (W.run 1 rfl (W.nx (WC.sr (W.ef rfl rfl rfl ?_))))
 refine Ef.makeMapG wyf ntf ?_
 intro g1_0 w1_0 hg1_0 b1_0 h1_0
 have L1 := L0.trans h1_0
 refine W.a (.buildP [.map (some g1_0)] pl103 z103 rfl rfl) ?_
 refine W.ef rfl rfl rfl ?_
 refine Ef.boxA rfl ?_
 intro g1_2 w1_2 hg1_2 b1_2 h1_2
 have L2 := L1.trans h1_2
 have b1_2 : Blk w1_2 g1_2 103 #[.map (some g1_0)] := b1_2
 refine W.run 1 rfl (W.nx (WC.ret ?_))
 have f3 := (b1_0.le h1_2)
 refine E.retG1 rfl rfl ?_
 exact ⟨_, _, rfl, b1_2, f3, (by have := hg1_2; have := L1.size; omega), (by have := hg1_0; have := L0.size; omega), (show g1_2 ≠ g1_0 from by have := b1_0.lt; omega), L2⟩

end Go.Proofs.YtmkdeemjkcigkaaGreatDoor

namespace Go.Proofs.YtmkdeemjkcigkaaGreatDoor
open Go Go.Sx Go.Num Go.Gsp Go.Nsp Go.Msp
set_option maxRecDepth 20000
def GrownM (w : World) (F F' : Nat → Prop) : Prop := ∀ k, F' k → F k ∨ w.heap.size ≤ k
def MPool (w : World) (base gp : Nat) (F : Nat → Prop) (m : MF) : Prop := ∃ gm la ca, Blk w gp 103 #[.map (some gm)] ∧ MapG w wyf ntf gm la ca ∧ (fun k => getG k la) = m ∧ GoodM m ∧ gp ≠ gm ∧ (∀ k, F k ↔ k = gp ∨ k = gm) ∧ base ≤ gp ∧ base ≤ gm
section
variable {w w' : World} {base gp : Nat} {F : Nat → Prop} {m : MF}
theorem MPool.chP {F' : Nat → Prop} (h : MPool w base gp F m) (hc : ChP w w' F') (hne : ∀ k, F k → ¬ F' k) : MPool w' base gp F m := by
  obtain ⟨gm, la, ca, h1, h2, h3, h4, h5, h6, h7, h8⟩ := h
  exact ⟨gm, la, ca, h1.chP hc (hne _ ((h6 _).2 (.inl rfl))), h2.chP hc (hne _ ((h6 _).2 (.inr rfl))), h3, h4, h5, h6, h7, h8⟩
theorem MPool.ch {r : Option Nat} (h : MPool w base gp F m) (hc : Ch w w' r) (hne : ∀ k, r = some k → ¬ F k) : MPool w' base gp F m := h.chP (hc.chP (F := fun k => r = some k) (fun i hi => hi)) (fun k hk hr => hne k hr hk)
theorem MPool.le (h : MPool w base gp F m) (hl : Le w w') : MPool w' base gp F m := h.chP (hl.chP (fun _ => False)) (fun _ _ hf => hf)
theorem MPool.lt (h : MPool w base gp F m) {k : Nat} (hk : F k) : k < w.heap.size := by
  obtain ⟨gm, la, ca, h1, h2, h3, h4, h5, h6, h7, h8⟩ := h
  rcases (h6 k).1 hk with rfl | rfl
  · exact h1.lt
  · exact h2.lt
theorem MPool.good (h : MPool w base gp F m) : GoodM m := by
  obtain ⟨gm, la, ca, h1, h2, h3, h4, h5, h6, h7, h8⟩ := h
  exact h4
theorem MPool.old (h : MPool w base gp F m) {k : Nat} (hk : F k) : base ≤ k := by
  obtain ⟨gm, la, ca, h1, h2, h3, h4, h5, h6, h7, h8⟩ := h
  rcases (h6 k).1 hk with rfl | rfl
  · exact h7
  · exact h8
theorem MPool.size (h : MPool w base gp F m) : base ≤ w.heap.size := by
  obtain ⟨gm, la, ca, h1, h2, h3, h4, h5, h6, h7, h8⟩ := h
  have := h1.lt
  omega
theorem goodG {la : MMl} (h4 : GoodM (fun k => getG k la)) : ∀ k v, getG k la = some v → okNt v := fun k v hv => h4 k v hv
def ActedM (w : World) (base gp : Nat) (F : Nat → Prop) (m : MF) : Ending → World → Prop := fun e w' => e = .returned (.tuple #[]) ∧ MPool w' base gp F m ∧ GrownM w F F ∧ ChP w w' F
theorem new_mind (w : World) : Calls Tryz.prog 29 #[] w fun r w' => ∃ gp F, r = .returned (.pointer (some ⟨gp, 0, none⟩)) ∧ MPool w' w.heap.size gp F (fun _ => none) ∧ Le w w' := by
  refine Calls.mono (lnew_ok w) ?_
  rintro r w' ⟨gp, gm, hr, h1, h2, h3, h4, h5, h6⟩
  exact ⟨gp, fun k => k = gp ∨ k = gm, hr, ⟨gm, [], 0, h1, h2, rfl, (fun _ _ h => by cases h), h5, fun _ => Iff.rfl, h3, h4⟩, h6⟩
theorem bnd_mind (e : Gsp.Edge) (h : MPool w base gp F m) : Calls Tryz.prog 20 #[.pointer (some ⟨gp, 0, none⟩), .agg (edgeV e).toArray] w fun r w' => r = .returned (.tuple #[.int .i64 (bndM m e).1, .int .i64 (bndM m e).2]) ∧ Le w w' := by
  obtain ⟨gm, la, ca, h1, h2, rfl, h4, h5, h6, h7, h8⟩ := h
  exact lbnd_ok e w h1 h2 (goodG h4)
theorem odds_mind (e : Gsp.Edge) (a : Int) (h : MPool w base gp F m) : Calls Tryz.prog 45 #[.pointer (some ⟨gp, 0, none⟩), .agg (edgeV e).toArray, .int .i64 a] w fun r w' => ∃ A1 c1 A2 c2, r = .returned (.tuple #[.agg #[.slice A1 (digs (oddsM m e a).n).length c1, .slice A2 (digs (oddsM m e a).d).length c2], .bool (goesM e a)]) ∧ OVec w' w.heap.size 122 dv 1 A1 (digs (oddsM m e a).n).length c1 (digs (oddsM m e a).n) ∧ OVec w' w.heap.size 122 dv 1 A2 (digs (oddsM m e a).d).length c2 (digs (oddsM m e a).d) ∧ Le w w' := by
  obtain ⟨gm, la, ca, h1, h2, rfl, h4, h5, h6, h7, h8⟩ := h
  exact lodds_ok e a w h1 h2 (goodG h4)
theorem fail_mind (e : Gsp.Edge) (a : Int) (h : MPool w base gp F m) : Calls Tryz.prog 31 #[.pointer (some ⟨gp, 0, none⟩), .agg (edgeV e).toArray, .int .i64 a] w (ActedM w base gp F (failM m e a)) := by
  obtain ⟨gm, la, ca, h1, h2, rfl, h4, h5, h6, h7, h8⟩ := h
  refine Calls.mono (lfail_ok e a w h1 h2 (goodG h4) h5) ?_
  rintro r w' ⟨hr, la', ca', k1, k2, k3⟩
  exact ⟨hr, ⟨gm, la', ca', h1.chP k3 h5, k1, funext k2, failM_good h4 e a, h5, h6, h7, h8⟩, fun k hk => .inl hk, k3.mono fun k hk _ => (h6 k).2 (.inr hk)⟩
theorem pass_mind (e : Gsp.Edge) (a : Int) (h : MPool w base gp F m) : Calls Tryz.prog 32 #[.pointer (some ⟨gp, 0, none⟩), .agg (edgeV e).toArray, .int .i64 a] w (ActedM w base gp F (passM m e a)) := by
  obtain ⟨gm, la, ca, h1, h2, rfl, h4, h5, h6, h7, h8⟩ := h
  refine Calls.mono (lpass_ok e a w h1 h2 (goodG h4) h5) ?_
  rintro r w' ⟨hr, la', ca', k1, k2, k3⟩
  exact ⟨hr, ⟨gm, la', ca', h1.chP k3 h5, k1, funext k2, passM_good h4 e a, h5, h6, h7, h8⟩, fun k hk => .inl hk, k3.mono fun k hk _ => (h6 k).2 (.inr hk)⟩
end
end Go.Proofs.YtmkdeemjkcigkaaGreatDoor

namespace Go.Rtp
open Go.Gsp Go.Nsp Go.Msp Go.Proofs.YtmkdeemjkcigkaaGreatDoor
def accO (m : MF) (xs : List Gsp.Edge) (s : List Int) : Nat → Fr
  | 0 => lowF 1 1
  | k + 1 => mulF (takF (accO m xs s k)) (takF (oddsM m (xs.getD k noEdge) (s.getD k 0)))
def oddsR (m : MF) (xs : List Gsp.Edge) (a x : Int) : Fr × Int × Int :=
  if (costG xs a x).2.2 = 0 then (accO m xs (costG xs a x).1 xs.length, (costG xs a x).1.getD 0 0, 0) else (⟨0, 0⟩, 0, (costG xs a x).2.2)
structure Fnd where
  way : List Gsp.Edge
  odds : Fr
  sent : Int
def noFnd : Fnd := ⟨[], ⟨0, 0⟩, 0⟩
def rowsC : List Gsp.Edge → List Gsp.Edge → Int
  | [], [] => 0
  | [], _ :: _ => -1
  | _ :: _, [] => 1
  | x :: xs, y :: ys => if cmpI x.c y.c ≠ 0 then cmpI x.c y.c else rowsC xs ys
def betterR (a b : Fnd) : Bool := decide (orL [cmpF (takF b.odds) (takF a.odds), cmpI a.sent b.sent, rowsC a.way b.way] < 0)
def cutR (way : List Gsp.Edge) (r : Fr × Int × Int) (b : Fnd) : Prop := way ≠ [] ∧ (r.2.2 ≠ 0 ∨ r.1.n = 0 ∨ (b.way ≠ [] ∧ cmpF (takF r.1) (takF b.odds) < 0))
instance (way : List Gsp.Edge) (r : Fr × Int × Int) (b : Fnd) : Decidable (cutR way r b) := by unfold cutR; infer_instance
def fndR (way : List Gsp.Edge) (r : Fr × Int × Int) : Fnd := ⟨way, r.1, r.2.1⟩
def skipR (way : List Gsp.Edge) (to : Int) (e : Gsp.Edge) : Bool := decide (e.f = to) || way.any (fun y => decide (y.f = e.f))
def inG (g : List Gsp.Edge) (at_ : Int) : List Gsp.Edge := g.filter fun e => decide (e.t = at_)
def stepR (rec_ : List Gsp.Edge → Int → Fnd → Fnd) (way : List Gsp.Edge) (to : Int) (b : Fnd) (e : Gsp.Edge) : Fnd := if skipR way to e = true then b else rec_ (e :: way) e.f b
def lookR (g : List Gsp.Edge) (m : MF) (fr to a x : Int) : Nat → List Gsp.Edge → Int → Fnd → Fnd
  | 0, _, _, b => b
  | n + 1, way, at_, b =>
    if cutR way (oddsR m way a x) b then b
    else if at_ = fr then if b.way = [] ∨ betterR (fndR way (oddsR m way a x)) b = true then fndR way (oddsR m way a x) else b
    else if way.length = 8 then b
    else (inG g at_).foldl (stepR (lookR g m fr to a x n) way to) b
def badR (g : List Gsp.Edge) (fr to a x : Int) : Bool := !rightG g || !inB fr 0 11 || !inB to 0 11 || decide (fr = to) || !inB a 1 1125899906842624 || !inB x 1 1048576
def bestR (g : List Gsp.Edge) (m : MF) (fr to a x : Int) : List Gsp.Edge × Fr × Int :=
  if badR g fr to a x = true then ([], ⟨0, 0⟩, 1)
  else if (lookR g m fr to a x 9 [] to noFnd).way = [] then ([], ⟨0, 0⟩, 19)
  else ((lookR g m fr to a x 9 [] to noFnd).way, (lookR g m fr to a x 9 [] to noFnd).odds, 0)
def passK (m : MF) (xs : List Gsp.Edge) (s : List Int) : Nat → MF
  | 0 => m
  | k + 1 => passM (passK m xs s k) (xs.getD k noEdge) (s.getD k 0)
def noteR (m : MF) (xs : List Gsp.Edge) (a x failed : Int) : MF × Int :=
  if (costG xs a x).2.2 ≠ 0 then (m, (costG xs a x).2.2)
  else if failed < -1 ∨ (xs.length : Int) ≤ failed then (m, 1)
  else if failed = -1 then (passK m xs (costG xs a x).1 xs.length, 0)
  else (failM (passK m xs (costG xs a x).1 failed.toNat) (xs.getD failed.toNat noEdge) ((costG xs a x).1.getD failed.toNat 0), 0)
theorem accO_ok (m : MF) (xs : List Gsp.Edge) (s : List Int) : ∀ k, okF (accO m xs s k)
  | 0 => okF_low (by decide)
  | k + 1 => okF_low (Nat.mul_pos (takF_ok _).1 (takF_ok _).1)
theorem oddsM_len {m : MF} (hm : GoodM m) (e : Gsp.Edge) (a : Int) : (digs (oddsM m e a).n).length ≤ 2 ∧ (digs (oddsM m e a).d).length ≤ 2 := by
  unfold oddsM
  split
  · rename_i h
    simp only [goesM, Bool.and_eq_true, decide_eq_true_eq] at h
    have hb := bndM_ok hm h.1.1
    have hr := mayM_T h.1.1
    have h1 : (oddN m e a).toNat < 18446744073709551616 := by unfold oddN; omega
    have h2 : (oddD m e).toNat < 18446744073709551616 := by unfold oddD; omega
    have l1 := lowF_le (oddN m e a).toNat (oddD m e).toNat
    exact ⟨Nat.le_trans (digs_len_mono l1.1) (digs_len_pow 2 h1), Nat.le_trans (digs_len_mono l1.2) (digs_len_pow 2 h2)⟩
  · simp only [digs_zero]
    exact ⟨Nat.zero_le _, Nat.zero_le _⟩
theorem accO_len {m : MF} (hm : GoodM m) (xs : List Gsp.Edge) (s : List Int) : ∀ k, (digs (accO m xs s k).n).length ≤ 4 * k + 1 ∧ (digs (accO m xs s k).d).length ≤ 4 * k + 1
  | 0 => ⟨Nat.le_trans (digs_len_mono (lowF_le 1 1).1) (digs_len_one (by decide)), Nat.le_trans (digs_len_mono (lowF_le 1 1).2) (digs_len_one (by decide))⟩
  | k + 1 => by
    have h0 := accO_len hm xs s k
    have h1 := takF_len (oddsM m (xs.getD k noEdge) (s.getD k 0))
    have h2 := oddsM_len hm (xs.getD k noEdge) (s.getD k 0)
    have h3 := takF_id (accO_ok m xs s k)
    have h4 : accO m xs s (k + 1) = lowF ((accO m xs s k).n * (takF (oddsM m (xs.getD k noEdge) (s.getD k 0))).n) ((accO m xs s k).d * (takF (oddsM m (xs.getD k noEdge) (s.getD k 0))).d) := by show mulF _ _ = _; rw [h3]; rfl
    have h5 := digs_mul_len (accO m xs s k).n (takF (oddsM m (xs.getD k noEdge) (s.getD k 0))).n
    have h6 := digs_mul_len (accO m xs s k).d (takF (oddsM m (xs.getD k noEdge) (s.getD k 0))).d
    have h7 := lowF_le ((accO m xs s k).n * (takF (oddsM m (xs.getD k noEdge) (s.getD k 0))).n) ((accO m xs s k).d * (takF (oddsM m (xs.getD k noEdge) (s.getD k 0))).d)
    rw [h4]
    have h8 := digs_len_mono h7.1
    have h9 := digs_len_mono h7.2
    omega
theorem oddsR_len {m : MF} (hm : GoodM m) (xs : List Gsp.Edge) (a x : Int) : (digs (oddsR m xs a x).1.n).length ≤ 100 ∧ (digs (oddsR m xs a x).1.d).length ≤ 100 := by
  unfold oddsR
  split
  · rename_i h
    have hw := (costG_inv h).1
    have := wayG_len hw
    have := accO_len hm xs (costG xs a x).1 xs.length
    simp only
    omega
  · simp only [digs_zero]
    exact ⟨Nat.zero_le _, Nat.zero_le _⟩
end Go.Rtp

namespace Go.Proofs.YtmkdeemjkcigkaaGreatDoor
open Go Go.Sx Go.Num Go.Gsp Go.Nsp Go.Msp Go.Rtp
set_option maxRecDepth 20000
theorem rodds_ok {base gp : Nat} {F : Nat → Prop} {m : MF} (a x : Int) {A : Option Addr} {n c : Nat} {xs : List Gsp.Edge} (w : World) (hP : MPool w base gp F m) (hV : Vec w edgeV 9 A n xs) (hn : n ≤ 1000000) : Calls Tryz.prog 14 #[.pointer (some ⟨gp, 0, none⟩), .slice A n c, .int .i64 (a), .int .i64 (x)] w fun r w' => ∃ A1 c1 A2 c2, r = .returned (.tuple #[.agg #[.slice A1 (digs (oddsR m xs a x).1.n).length c1, .slice A2 (digs (oddsR m xs a x).1.d).length c2], .int .i64 (oddsR m xs a x).2.1, .int .i64 (oddsR m xs a x).2.2]) ∧ OVec w' w.heap.size 122 dv 1 A1 (digs (oddsR m xs a x).1.n).length c1 (digs (oddsR m xs a x).1.n) ∧ OVec w' w.heap.size 122 dv 1 A2 (digs (oddsR m xs a x).1.d).length c2 (digs (oddsR m xs a x).1.d) ∧ Le w w' := by
 have hl := hV.1
 have hgm := hP.good
 refine enter Tryz.func14 rfl rfl ?_
 have L0 := Le.refl w
 refine WC.sr (W.ef rfl rfl rfl ?_)
 refine Ef.allocA z33 ?_
 intro g0_0 w0_0 hg0_0 b0_0 h0_0
 have L1 := L0.trans h0_0
 have b0_0 : Blk w0_0 g0_0 33 #[.slice none 0 0, .slice none 0 0] := b0_0
 refine W.run 2 rfl (W.nx (WC.sr (W.run 3 rfl ?_)))
 refine W.cl go44 rfl rfl (cost_ok a x w0_0 (hV.le L1) (by omega)) ?_
 rintro _ w1_3 ⟨Aa1_3, ca1_3, Ab1_3, cb1_3, rfl, oa1_3, ob1_3, h1_3⟩
 have L2 := L1.trans h1_3
 refine W.run 7 rfl (W.nx (WC.seq (WC.sr (W.run 2 rfl (W.nx ?_)))))
 by_cases c0 : ((costG xs a x).2.2) ≠ 0
 ·refine WC.condY rfl (decide_eq_true c0) ?_
  refine WC.sr ?_
  refine W.a (.buildP [.slice none 0 0, .slice none 0 0] pl33 z33 rfl rfl) ?_
  refine W.run 1 rfl ?_
  have f3 := (b0_0.le h1_3)
  refine W.ef0 rfl rfl ?_
  refine Ef.storeAll sz33 (by rfl) rfl rfl f3 (by rfl) (by simp [Value.oneCell']) ?_
  intro w3_2 b3_2 h3_2
  have b3_2 : Blk w3_2 g0_0 33 #[.slice none 0 0, .slice none 0 0] := b3_2
  have L4 := L2.then_ h3_2 (fun q hq => by cases hq; exact Nat.le_trans L0.size hg0_0)
  refine W.run 2 rfl (W.nx (WC.ret (E.thenR ?_)))
  refine E.retG3 rfl (resA rfl b3_2 ag33 (by rfl)) rfl rfl ?_
  have hod : oddsR m xs a x = (⟨0, 0⟩, 0, (costG xs a x).2.2) := if_neg (by assumption)
  rw [hod]
  exact ⟨none, 0, none, 0, by simp only [digs_zero]; rfl, by simp only [digs_zero]; exact OVec.nil _ _ _ _ _ _, by simp only [digs_zero]; exact OVec.nil _ _ _ _ _ _, L4⟩
 refine WC.condN rfl (decide_eq_false c0) ?_
 have hcl := costG_lens (Decidable.not_not.1 (by assumption) : (costG xs a x).2.2 = 0)
 have hwl := wayG_len (costG_inv (Decidable.not_not.1 (by assumption) : (costG xs a x).2.2 = 0)).1
 refine WC.sn (WC.sr ?_)
 refine W.cl go23 rfl rfl (fof_ok 1 1 w1_3 (by omega) (by omega) (by omega)) ?_
 rintro _ w4_0 ⟨An4_0, cn4_0, Ad4_0, cd4_0, rfl, on4_0, od4_0, h4_0⟩
 have L5 := L2.trans h4_0
 refine W.run 1 rfl ?_
 refine W.a (.extract (v := .agg #[.slice An4_0 ((digs ((lowF 1 1).n)).length) cn4_0, .slice Ad4_0 ((digs ((lowF 1 1).d)).length) cd4_0]) rfl rfl) ?_
 refine W.run 1 rfl (W.ef rfl rfl rfl ?_)
 refine Ef.allocA z33 ?_
 intro g4_4 w4_4 hg4_4 b4_4 h4_4
 have L6 := L5.trans h4_4
 have b4_4 : Blk w4_4 g4_4 33 #[.slice none 0 0, .slice none 0 0] := b4_4
 refine W.ef0 rfl rfl ?_
 refine Ef.storeAll sz33 (by rfl) rfl rfl b4_4 (by rfl) (by simp [Value.oneCell']) ?_
 intro w4_5 b4_5 h4_5
 have b4_5 : Blk w4_5 g4_4 33 #[.slice An4_0 ((digs ((lowF 1 1).n)).length) cn4_0, .slice Ad4_0 ((digs ((lowF 1 1).d)).length) cd4_0] := b4_5
 have L7 := L6.then_ h4_5 (fun q hq => by cases hq; exact Nat.le_trans L5.size hg4_4)
 refine W.run 1 rfl (W.nx (WC.seq (WC.sr (W.run 1 rfl ?_))))
 refine W.r (.len Tryz.underlying22 rfl) ?_
 refine W.run 1 rfl (W.nx (WC.block ?_))
 have f8 := ((on4_0.le h4_4).ch h4_5 (fun q hq => by cases hq; exact (fun he => by have := (on4_0.row he).2; omega)))
 have f9 := ((od4_0.le h4_4).ch h4_5 (fun q hq => by cases hq; exact (fun he => by have := (od4_0.row he).2; omega)))
 have f10 := ((hP.le (h0_0.trans (h1_3.trans (h4_0.trans h4_4)))).ch h4_5 (fun q hqq hF => by cases hqq; have := hP.lt hF; have := h0_0.size; have := h1_3.size; have := h4_0.size; have := hg4_4; omega))
 have f11 := ((b0_0.le (h1_3.trans (h4_0.trans h4_4))).ch h4_5 (fun h => (show g4_4 ≠ g0_0 from by have := b0_0.lt; have := h1_3.size; have := h4_0.size; omega) (Option.some.inj h)))
 have f12 := ((oa1_3.le (h4_0.trans h4_4)).ch h4_5 (fun q hq => by cases hq; exact (fun he => by have := (oa1_3.row he).2; have := h4_0.size; omega)))
 refine WC.loop (ι := Nat × ((Option Addr)) × Nat × ((Option Addr)) × Nat) (fun ⟨k, Ax, cx, Ay, cy⟩ => [(0, .pointer (some ⟨gp, 0, none⟩)), (8, .pointer (some ⟨g0_0, 0, none⟩)), (11, .slice Aa1_3 ((costG xs a x).1.length) ca1_3), (14, .pointer (some ⟨g4_4, 0, none⟩)), (36, .slice A n c), (37, .int .i64 (((n : Nat) : Int))), (38, .int .i64 (((k : Nat) : Int)))]) (fun ⟨k, Ax, cx, Ay, cy⟩ wl0 => (k ≤ n) ∧ Le w wl0 ∧ w4_5.heap.size ≤ wl0.heap.size ∧ MPool wl0 base gp F m ∧ Blk wl0 g0_0 33 #[.slice none 0 0, .slice none 0 0] ∧ OVec wl0 w0_0.heap.size 3 iv 1 Aa1_3 ((costG xs a x).1.length) ca1_3 ((costG xs a x).1) ∧ Blk wl0 g4_4 33 #[.slice Ax ((digs (accO m xs (costG xs a x).1 k).n).length) cx, .slice Ay ((digs (accO m xs (costG xs a x).1 k).d).length) cy] ∧ OVec wl0 w1_3.heap.size 122 dv 1 Ax ((digs (accO m xs (costG xs a x).1 k).n).length) cx (digs (accO m xs (costG xs a x).1 k).n) ∧ OVec wl0 w1_3.heap.size 122 dv 1 Ay ((digs (accO m xs (costG xs a x).1 k).d).length) cy (digs (accO m xs (costG xs a x).1 k).d)) (fun ⟨k, Ax, cx, Ay, cy⟩ => n - k) (0, An4_0, cn4_0, Ad4_0, cd4_0) ?_ ?_ ?_
 ·exact .cons rfl (.cons rfl (.cons rfl (.cons rfl (.cons rfl (.cons rfl (.cons rfl (.nil _)))))))
 ·exact ⟨Nat.zero_le _, L7, Nat.le_refl _, f10, f11, f12, b4_5, f8, f9⟩
 rintro ⟨k, Ax, cx, Ay, cy⟩ wl0 ⟨hk, Ll0, zl0, f0_0, f0_1, f0_2, f0_3, f0_4, f0_5⟩
 have lb0_4 : w0_0.heap.size ≤ wl0.heap.size := by have := h1_3.size; have := h4_0.size; have := h4_4.size; have := h4_5.size; omega
 have lb0_6 : w1_3.heap.size ≤ wl0.heap.size := by have := h4_0.size; have := h4_4.size; have := h4_5.size; omega
 have lb0_7 : w1_3.heap.size ≤ wl0.heap.size := by have := h4_0.size; have := h4_4.size; have := h4_5.size; omega
 have hal := accO_len hgm xs (costG xs a x).1 k
 have hol := oddsM_len hgm (xs.getD k noEdge) ((costG xs a x).1.getD k 0)
 refine WC.sr (W.run 1 rfl (W.nx (WC.seq ?_)))
 by_cases c1 : ((k : Nat) : Int) < ((n : Nat) : Int)
 ·refine WC.condY rfl (decide_eq_true c1) ?_
  refine WC.sn (WC.seq (WC.block (WC.sr (W.run 1 rfl ?_))))
  refine W.a (.idxS (k) Tryz.underlying22 sz51 rfl rfl (hV.isSome edgeV_row (by omega)) (rfl) (by omega)) ?_
  refine W.r (.vload ag51 rfl (hV.le Ll0) edgeV_row (getS xs noEdge (by omega))) ?_
  refine W.ef rfl rfl rfl ?_
  refine Ef.allocA z51 ?_
  intro g7_3 w7_3 hg7_3 b7_3 h7_3
  have L13 := Ll0.trans h7_3
  have b7_3 : Blk w7_3 g7_3 51 (edgeV noEdge).toArray := b7_3
  refine W.run 1 rfl ?_
  refine W.ef0 rfl rfl ?_
  refine Ef.storeAll sz51 (by rfl) rfl rfl b7_3 (by simp only [List.size_toArray, edgeV_row.len]) (edgeV_row.one (xs.getD k noEdge)) ?_
  intro w7_5 b7_5 h7_5
  have b7_5 : Blk w7_5 g7_3 51 (edgeV (xs.getD k noEdge)).toArray := b7_5
  have L14 := L13.then_ h7_5 (fun q hq => by cases hq; exact Nat.le_trans Ll0.size hg7_3)
  refine W.nx (WC.seq ?_)
  refine WC.drawT (fun o => (app o [0, 1, 2, 3, 4, 5] (.br (app o [6, 7, 8, 9, 10, 11, 12] .nil) (app o [10, 6, 7, 8, 9, 11, 12] .nil)))) mixed (by kernel_rfl) ?_
  intro w8 d8
  have L15 := L14.trans d8
  refine GT.app ?_
  refine G.run 1 rfl ?_
  have f16 := (b7_5.le d8)
  refine G.r rfl (.loadAll ag51 (by rfl) rfl f16) ?_
  refine G.run 2 rfl ?_
  refine G.a rfl (.idxS (k) Tryz.underlying24 sz3 rfl rfl (oa1_3.vec.isSome iv_row (by omega)) (rfl) (by omega)) ?_
  have f17 := (((f0_2.le h7_3).ch h7_5 (fun q hq => by cases hq; exact (fun he => by have := (f0_2.row he).2; omega))).le d8)
  refine G.r rfl (.vone (v := .int .i64 ((((costG xs a x).1).getD k 0))) na3 rfl f17.vec iv_row (getS ((costG xs a x).1) 0 (by first | omega | (simp only [List.length_cons, List.length_nil]; omega))) rfl) ?_
  refine G.nil ?_
  refine GT.br ?_ ?_
  ·refine GT.last ?_
   have f18 := (((f0_0.le h7_3).ch h7_5 (fun q hqq hF => by cases hqq; have := f0_0.lt hF;  have := hg7_3; omega)).le d8)
   refine G.ef rfl rfl rfl rfl rfl ?_
   refine Ef.call go45 rfl rfl (odds_mind (xs.getD k noEdge) (((costG xs a x).1).getD k 0) f18) ?_
   rintro _ w8_6 ⟨An8_6, cn8_6, Ad8_6, cd8_6, rfl, on8_6, od8_6, h8_6⟩
   refine ⟨_, rfl, ?_⟩
   refine ⟨fun _ => h8_6, ?_⟩
   have L19 := L15.trans h8_6
   refine G.run 1 rfl ?_
   refine G.a rfl (.extract (v := .agg #[.slice An8_6 ((digs ((oddsM m (xs.getD k noEdge) (((costG xs a x).1).getD k 0)).n)).length) cn8_6, .slice Ad8_6 ((digs ((oddsM m (xs.getD k noEdge) (((costG xs a x).1).getD k 0)).d)).length) cd8_6]) rfl rfl) ?_
   refine G.run 1 rfl ?_
   refine G.ef rfl rfl rfl rfl rfl ?_
   refine Ef.allocA z33 ?_
   intro g8_10 w8_10 hg8_10 b8_10 h8_10
   refine ⟨fun _ => h8_10, ?_⟩
   have L20 := L19.trans h8_10
   have b8_10 : Blk w8_10 g8_10 33 #[.slice none 0 0, .slice none 0 0] := b8_10
   refine G.ef0 rfl rfl rfl rfl ?_
   refine Ef.storeAll sz33 (by rfl) rfl rfl b8_10 (by rfl) (by simp [Value.oneCell']) ?_
   intro w8_11 b8_11 h8_11
   refine ⟨fun h => absurd h (ne_true_of_eq_false (by kernel_rfl)), ?_⟩
   have b8_11 : Blk w8_11 g8_10 33 #[.slice An8_6 ((digs ((oddsM m (xs.getD k noEdge) (((costG xs a x).1).getD k 0)).n)).length) cn8_6, .slice Ad8_6 ((digs ((oddsM m (xs.getD k noEdge) (((costG xs a x).1).getD k 0)).d)).length) cd8_6] := b8_11
   have L21 := L20.then_ h8_11 (fun q hq => by cases hq; exact Nat.le_trans L19.size hg8_10)
   refine G.run 1 rfl (G.nil (E.thenN (WC.region ?_)))
   have f22 := ((((f0_3.le h7_3).ch h7_5 (fun h => (show g7_3 ≠ g4_4 from by have := f0_3.lt; omega) (Option.some.inj h))).le (d8.trans (h8_6.trans h8_10))).ch h8_11 (fun h => (show g8_10 ≠ g4_4 from by have := f0_3.lt; have := h7_3.size; have := h7_5.size; have := d8.size; have := h8_6.size; omega) (Option.some.inj h)))
   refine W.r (.loadAll ag33 (by rfl) rfl f22) ?_
   refine W.r (.loadAll ag33 (by rfl) rfl b8_11) ?_
   have f23 := ((((f0_4.le h7_3).ch h7_5 (fun q hq => by cases hq; exact (fun he => by have := (f0_4.row he).2; omega))).le (d8.trans (h8_6.trans h8_10))).ch h8_11 (fun q hq => by cases hq; exact (fun he => by have := (f0_4.row he).2; have := h7_3.size; have := h7_5.size; have := d8.size; have := h8_6.size; omega)))
   have f24 := ((((f0_5.le h7_3).ch h7_5 (fun q hq => by cases hq; exact (fun he => by have := (f0_5.row he).2; omega))).le (d8.trans (h8_6.trans h8_10))).ch h8_11 (fun q hq => by cases hq; exact (fun he => by have := (f0_5.row he).2; have := h7_3.size; have := h7_5.size; have := d8.size; have := h8_6.size; omega)))
   have f25 := ((on8_6.le h8_10).ch h8_11 (fun q hq => by cases hq; exact (fun he => by have := (on8_6.row he).2; omega)))
   have f26 := ((od8_6.le h8_10).ch h8_11 (fun q hq => by cases hq; exact (fun he => by have := (od8_6.row he).2; omega)))
   refine W.cl go46 rfl rfl (fmul_ok w8_11 f23.vec f24.vec (by omega) (by omega) f25.vec f26.vec (by omega) (by omega)) ?_
   rintro _ w9_2 ⟨An9_2, cn9_2, Ad9_2, cd9_2, rfl, on9_2, od9_2, h9_2⟩
   have L27 := L21.trans h9_2
   have f28 := (f22.le h9_2)
   refine W.ef0 rfl rfl ?_
   refine Ef.storeAll sz33 (by rfl) rfl rfl f28 (by rfl) (by simp [Value.oneCell']) ?_
   intro w9_3 b9_3 h9_3
   have b9_3 : Blk w9_3 g4_4 33 #[.slice An9_2 ((digs ((mulF (takF (⟨((accO m xs (costG xs a x).1 k).n), ((accO m xs (costG xs a x).1 k).d)⟩ : Fr)) (takF (⟨((oddsM m (xs.getD k noEdge) (((costG xs a x).1).getD k 0)).n), ((oddsM m (xs.getD k noEdge) (((costG xs a x).1).getD k 0)).d)⟩ : Fr))).n)).length) cn9_2, .slice Ad9_2 ((digs ((mulF (takF (⟨((accO m xs (costG xs a x).1 k).n), ((accO m xs (costG xs a x).1 k).d)⟩ : Fr)) (takF (⟨((oddsM m (xs.getD k noEdge) (((costG xs a x).1).getD k 0)).n), ((oddsM m (xs.getD k noEdge) (((costG xs a x).1).getD k 0)).d)⟩ : Fr))).d)).length) cd9_2] := b9_3
   have L29 := L27.then_ h9_3 (fun q hq => by cases hq; exact Nat.le_trans L5.size hg4_4)
   refine W.nil (E.blkN (E.thenN (WC.region ?_)))
   refine W.a (.add rfl rfl (by omega)) ?_
   refine W.run 1 rfl (W.nil ?_)
   have f30 := ((((f18.le (h8_6.trans h8_10)).ch h8_11 (fun q hqq hF => by cases hqq; have := f18.lt hF; have := h8_6.size; have := hg8_10; omega)).le h9_2).ch h9_3 (fun q hqq hF => by cases hqq; have := hP.lt hF; have := h0_0.size; have := h1_3.size; have := h4_0.size; have := hg4_4; omega))
   have f31 := ((((((f0_1.le h7_3).ch h7_5 (fun h => (show g7_3 ≠ g0_0 from by have := f0_1.lt; omega) (Option.some.inj h))).le (d8.trans (h8_6.trans h8_10))).ch h8_11 (fun h => (show g8_10 ≠ g0_0 from by have := f0_1.lt; have := h7_3.size; have := h7_5.size; have := d8.size; have := h8_6.size; omega) (Option.some.inj h))).le h9_2).ch h9_3 (fun h => (show g4_4 ≠ g0_0 from by have := b0_0.lt; have := h1_3.size; have := h4_0.size; omega) (Option.some.inj h)))
   have f32 := ((((f17.le (h8_6.trans h8_10)).ch h8_11 (fun q hq => by cases hq; exact (fun he => by have := (f17.row he).2; have := h8_6.size; omega))).le h9_2).ch h9_3 (fun q hq => by cases hq; exact (fun he => by have := (oa1_3.row he).2; have := h4_0.size; omega)))
   have f33 := (on9_2.ch h9_3 (fun q hq => by cases hq; exact (fun he => by have := (on9_2.row he).1; have := f22.lt; omega)))
   have f34 := (od9_2.ch h9_3 (fun q hq => by cases hq; exact (fun he => by have := (od9_2.row he).1; have := f22.lt; omega)))
   refine E.again (k + 1, An9_2, cn9_2, Ad9_2, cd9_2) (.cons rfl (.cons rfl (.cons rfl (.cons rfl (.cons rfl (.cons rfl (.cons rfl (.nil _)))))))) ?_ ?_
   ·exact ⟨by omega, L29, by have := zl0; have := h7_3.size; have := h7_5.size; have := d8.size; have := h8_6.size; have := h8_10.size; have := h8_11.size; have := h9_2.size; have := h9_3.size; omega, f30, f31, f32, b9_3, (f33.mono (by have := h7_3.size; have := h7_5.size; have := d8.size; have := h8_6.size; have := h8_10.size; have := h8_11.size; omega)), (f34.mono (by have := h7_3.size; have := h7_5.size; have := d8.size; have := h8_6.size; have := h8_10.size; have := h8_11.size; omega))⟩
   first | omega | (simp only []; omega)
  refine GT.last ?_
  refine G.ef rfl rfl rfl rfl rfl ?_
  refine Ef.allocA z33 ?_
  intro g8_10_1 w8_10_1 hg8_10_1 b8_10_1 h8_10_1
  refine ⟨fun _ => h8_10_1, ?_⟩
  have L35 := L15.trans h8_10_1
  have b8_10_1 : Blk w8_10_1 g8_10_1 33 #[.slice none 0 0, .slice none 0 0] := b8_10_1
  have f36 := (((f0_0.le h7_3).ch h7_5 (fun q hqq hF => by cases hqq; have := f0_0.lt hF;  have := hg7_3; omega)).le (d8.trans h8_10_1))
  refine G.ef rfl rfl rfl rfl rfl ?_
  refine Ef.call go45 rfl rfl (odds_mind (xs.getD k noEdge) (((costG xs a x).1).getD k 0) f36) ?_
  rintro _ w8_6_1 ⟨An8_6_1, cn8_6_1, Ad8_6_1, cd8_6_1, rfl, on8_6_1, od8_6_1, h8_6_1⟩
  refine ⟨_, rfl, ?_⟩
  refine ⟨fun _ => h8_6_1, ?_⟩
  have L37 := L35.trans h8_6_1
  refine G.run 1 rfl ?_
  refine G.a rfl (.extract (v := .agg #[.slice An8_6_1 ((digs ((oddsM m (xs.getD k noEdge) (((costG xs a x).1).getD k 0)).n)).length) cn8_6_1, .slice Ad8_6_1 ((digs ((oddsM m (xs.getD k noEdge) (((costG xs a x).1).getD k 0)).d)).length) cd8_6_1]) rfl rfl) ?_
  refine G.run 1 rfl ?_
  have f38 := (b8_10_1.le h8_6_1)
  refine G.ef0 rfl rfl rfl rfl ?_
  refine Ef.storeAll sz33 (by rfl) rfl rfl f38 (by rfl) (by simp [Value.oneCell']) ?_
  intro w8_11_1 b8_11_1 h8_11_1
  refine ⟨fun h => absurd h (ne_true_of_eq_false (by kernel_rfl)), ?_⟩
  have b8_11_1 : Blk w8_11_1 g8_10_1 33 #[.slice An8_6_1 ((digs ((oddsM m (xs.getD k noEdge) (((costG xs a x).1).getD k 0)).n)).length) cn8_6_1, .slice Ad8_6_1 ((digs ((oddsM m (xs.getD k noEdge) (((costG xs a x).1).getD k 0)).d)).length) cd8_6_1] := b8_11_1
  have L39 := L37.then_ h8_11_1 (fun q hq => by cases hq; exact Nat.le_trans L15.size hg8_10_1)
  refine G.run 1 rfl (G.nil (E.thenN (WC.region ?_)))
  have f40 := ((((f0_3.le h7_3).ch h7_5 (fun h => (show g7_3 ≠ g4_4 from by have := f0_3.lt; omega) (Option.some.inj h))).le (d8.trans (h8_10_1.trans h8_6_1))).ch h8_11_1 (fun h => (show g8_10_1 ≠ g4_4 from by have := f0_3.lt; have := h7_3.size; have := h7_5.size; have := d8.size; omega) (Option.some.inj h)))
  refine W.r (.loadAll ag33 (by rfl) rfl f40) ?_
  refine W.r (.loadAll ag33 (by rfl) rfl b8_11_1) ?_
  have f41 := ((((f0_4.le h7_3).ch h7_5 (fun q hq => by cases hq; exact (fun he => by have := (f0_4.row he).2; omega))).le (d8.trans (h8_10_1.trans h8_6_1))).ch h8_11_1 (fun q hq => by cases hq; exact (fun he => by have := (f0_4.row he).2; have := h7_3.size; have := h7_5.size; have := d8.size; omega)))
  have f42 := ((((f0_5.le h7_3).ch h7_5 (fun q hq => by cases hq; exact (fun he => by have := (f0_5.row he).2; omega))).le (d8.trans (h8_10_1.trans h8_6_1))).ch h8_11_1 (fun q hq => by cases hq; exact (fun he => by have := (f0_5.row he).2; have := h7_3.size; have := h7_5.size; have := d8.size; omega)))
  have f43 := (on8_6_1.ch h8_11_1 (fun q hq => by cases hq; exact (fun he => by have := (on8_6_1.row he).1; have := b8_10_1.lt; omega)))
  have f44 := (od8_6_1.ch h8_11_1 (fun q hq => by cases hq; exact (fun he => by have := (od8_6_1.row he).1; have := b8_10_1.lt; omega)))
  refine W.cl go46 rfl rfl (fmul_ok w8_11_1 f41.vec f42.vec (by omega) (by omega) f43.vec f44.vec (by omega) (by omega)) ?_
  rintro _ w9_2_1 ⟨An9_2_1, cn9_2_1, Ad9_2_1, cd9_2_1, rfl, on9_2_1, od9_2_1, h9_2_1⟩
  have L45 := L39.trans h9_2_1
  have f46 := (f40.le h9_2_1)
  refine W.ef0 rfl rfl ?_
  refine Ef.storeAll sz33 (by rfl) rfl rfl f46 (by rfl) (by simp [Value.oneCell']) ?_
  intro w9_3_1 b9_3_1 h9_3_1
  have b9_3_1 : Blk w9_3_1 g4_4 33 #[.slice An9_2_1 ((digs ((mulF (takF (⟨((accO m xs (costG xs a x).1 k).n), ((accO m xs (costG xs a x).1 k).d)⟩ : Fr)) (takF (⟨((oddsM m (xs.getD k noEdge) (((costG xs a x).1).getD k 0)).n), ((oddsM m (xs.getD k noEdge) (((costG xs a x).1).getD k 0)).d)⟩ : Fr))).n)).length) cn9_2_1, .slice Ad9_2_1 ((digs ((mulF (takF (⟨((accO m xs (costG xs a x).1 k).n), ((accO m xs (costG xs a x).1 k).d)⟩ : Fr)) (takF (⟨((oddsM m (xs.getD k noEdge) (((costG xs a x).1).getD k 0)).n), ((oddsM m (xs.getD k noEdge) (((costG xs a x).1).getD k 0)).d)⟩ : Fr))).d)).length) cd9_2_1] := b9_3_1
  have L47 := L45.then_ h9_3_1 (fun q hq => by cases hq; exact Nat.le_trans L5.size hg4_4)
  refine W.nil (E.blkN (E.thenN (WC.region ?_)))
  refine W.a (.add rfl rfl (by omega)) ?_
  refine W.run 1 rfl (W.nil ?_)
  have f48 := ((((f36.le h8_6_1).ch h8_11_1 (fun q hqq hF => by cases hqq; have := f0_0.lt hF; have := h7_3.size; have := h7_5.size; have := d8.size; have := hg8_10_1; omega)).le h9_2_1).ch h9_3_1 (fun q hqq hF => by cases hqq; have := hP.lt hF; have := h0_0.size; have := h1_3.size; have := h4_0.size; have := hg4_4; omega))
  have f49 := ((((((f0_1.le h7_3).ch h7_5 (fun h => (show g7_3 ≠ g0_0 from by have := f0_1.lt; omega) (Option.some.inj h))).le (d8.trans (h8_10_1.trans h8_6_1))).ch h8_11_1 (fun h => (show g8_10_1 ≠ g0_0 from by have := f0_1.lt; have := h7_3.size; have := h7_5.size; have := d8.size; omega) (Option.some.inj h))).le h9_2_1).ch h9_3_1 (fun h => (show g4_4 ≠ g0_0 from by have := b0_0.lt; have := h1_3.size; have := h4_0.size; omega) (Option.some.inj h)))
  have f50 := ((((f17.le (h8_10_1.trans h8_6_1)).ch h8_11_1 (fun q hq => by cases hq; exact (fun he => by have := (f17.row he).2; omega))).le h9_2_1).ch h9_3_1 (fun q hq => by cases hq; exact (fun he => by have := (oa1_3.row he).2; have := h4_0.size; omega)))
  have f51 := (on9_2_1.ch h9_3_1 (fun q hq => by cases hq; exact (fun he => by have := (on9_2_1.row he).1; have := f40.lt; omega)))
  have f52 := (od9_2_1.ch h9_3_1 (fun q hq => by cases hq; exact (fun he => by have := (od9_2_1.row he).1; have := f40.lt; omega)))
  refine E.again (k + 1, An9_2_1, cn9_2_1, Ad9_2_1, cd9_2_1) (.cons rfl (.cons rfl (.cons rfl (.cons rfl (.cons rfl (.cons rfl (.cons rfl (.nil _)))))))) ?_ ?_
  ·exact ⟨by omega, L47, by have := zl0; have := h7_3.size; have := h7_5.size; have := d8.size; have := h8_10_1.size; have := h8_6_1.size; have := h8_11_1.size; have := h9_2_1.size; have := h9_3_1.size; omega, f48, f49, f50, b9_3_1, (f51.mono (by have := h7_3.size; have := h7_5.size; have := d8.size; have := h8_10_1.size; have := h8_6_1.size; have := h8_11_1.size; omega)), (f52.mono (by have := h7_3.size; have := h7_5.size; have := d8.size; have := h8_10_1.size; have := h8_6_1.size; have := h8_11_1.size; omega))⟩
  first | omega | (simp only []; omega)
 refine WC.condN rfl (decide_eq_false c1) ?_
 refine WC.exit (E.thenX (E.thenX (E.blkH (E.thenN (WC.seq ?_)))))
 refine WC.drawS (fun w11 w' => Le w w' ∧ Blk w' g4_4 33 #[.slice Ax ((digs (accO m xs (costG xs a x).1 k).n).length) cx, .slice Ay ((digs (accO m xs (costG xs a x).1 k).d).length) cy] ∧ OVec w' w1_3.heap.size 122 dv 1 Ax ((digs (accO m xs (costG xs a x).1 k).n).length) cx (digs (accO m xs (costG xs a x).1 k).n) ∧ OVec w' w1_3.heap.size 122 dv 1 Ay ((digs (accO m xs (costG xs a x).1 k).d).length) cy (digs (accO m xs (costG xs a x).1 k).d) ∧ OVec w' w0_0.heap.size 3 iv 1 Aa1_3 ((costG xs a x).1.length) ca1_3 ((costG xs a x).1)) [0, 1, 2, 3, 4, 5, 6] mixed (by kernel_rfl) ?_
 intro w11 d11
 have L53 := Ll0.trans d11
 have f54 := (f0_3.le d11)
 have f55 := (f0_4.le d11)
 have f56 := (f0_5.le d11)
 have f57 := (f0_2.le d11)
 refine ⟨⟨L53, f54, f55, f56, f57⟩, ?_⟩
 refine GS.rd rfl rfl (fun w' hs => .loadAll ag33 (by rfl) rfl hs.2.1) rfl rfl rfl ?_
 refine GS.any rfl rfl (.move rfl) rfl rfl rfl ?_
 refine GS.any rfl rfl (.idxS (0) Tryz.underlying24 sz3 rfl rfl (oa1_3.vec.isSome iv_row (by omega)) (rfl) (by omega)) rfl rfl rfl ?_
 refine GS.rd rfl rfl (fun w' hs => .vone (v := .int .i64 ((((costG xs a x).1).getD 0 0))) na3 rfl hs.2.2.2.2.vec iv_row (getS ((costG xs a x).1) 0 (by first | omega | (simp only [List.length_cons, List.length_nil]; omega))) rfl) rfl rfl rfl ?_
 have f58 := (f0_1.le d11)
 refine GS.ef0 rfl rfl rfl rfl ?_
 refine Ef.storeAll sz33 (by rfl) rfl rfl f58 (by rfl) (by simp [Value.oneCell']) ?_
 intro w11_4 b11_4 h11_4
 have b11_4 : Blk w11_4 g0_0 33 #[.slice Ax ((digs (accO m xs (costG xs a x).1 k).n).length) cx, .slice Ay ((digs (accO m xs (costG xs a x).1 k).d).length) cy] := b11_4
 have L59 := L53.then_ h11_4 (fun q hq => by cases hq; exact Nat.le_trans L0.size hg0_0)
 have f60 := (f54.ch h11_4 (fun h => (show g0_0 ≠ g4_4 from by have := b0_0.lt; have := h1_3.size; have := h4_0.size; omega) (Option.some.inj h)))
 have f61 := (f55.ch h11_4 (fun q hq => by cases hq; exact (fun he => by have := (f55.row he).1; have := b0_0.lt; have := h1_3.size; omega)))
 have f62 := (f56.ch h11_4 (fun q hq => by cases hq; exact (fun he => by have := (f56.row he).1; have := b0_0.lt; have := h1_3.size; omega)))
 have f63 := (f57.ch h11_4 (fun q hq => by cases hq; exact (fun he => by have := (f57.row he).1; have := b0_0.lt; omega)))
 refine ⟨⟨L59, f60, f61, f62, f63⟩, ?_⟩
 refine GS.any rfl rfl (.assign rfl) rfl rfl rfl ?_
 refine GS.any rfl rfl (.assign rfl) rfl rfl rfl ?_
 refine GS.nil ?_
 refine E.thenN (WC.ret ?_)
 refine E.retG3 rfl (resA rfl b11_4 ag33 (by rfl)) rfl rfl ?_
 have hkn : k = n := (by omega)
 subst hkn
 have hod : oddsR m xs a x = (accO m xs (costG xs a x).1 xs.length, (costG xs a x).1.getD 0 0, 0) := if_pos (Decidable.not_not.1 (by assumption))
 rw [hod, hl]
 exact ⟨_, _, _, _, rfl, (f61.mono L2.size), (f62.mono L2.size), L59⟩

theorem rnote_ok {base gp : Nat} {F : Nat → Prop} {m : MF} (a x failed : Int) {A : Option Addr} {n c : Nat} {xs : List Gsp.Edge} (w : World) (hP : MPool w base gp F m) (hV : Vec w edgeV 9 A n xs) (hn : n ≤ 1000000) (hVa : ∀ q, blkOf A = some q → 0 < n → q < w.heap.size → ¬ F q) : Calls Tryz.prog 18 #[.pointer (some ⟨gp, 0, none⟩), .slice A n c, .int .i64 (a), .int .i64 (x), .int .i64 (failed)] w fun r w' => r = .returned (.int .i64 (noteR m xs a x failed).2) ∧ MPool w' base gp F (noteR m xs a x failed).1 ∧ GrownM w F F ∧ ChP w w' F := by
 have hl := hV.1
 refine enter Tryz.func18 rfl rfl ?_
 have L0 := ChP.refl w (F)
 refine WC.sr (W.run 1 rfl (W.nx (WC.sr (W.run 3 rfl ?_))))
 refine W.cl go44 rfl rfl (cost_ok a x w (hV.chP L0 hVa) (by omega)) ?_
 rintro _ w1_3 ⟨Aa1_3, ca1_3, Ab1_3, cb1_3, rfl, oa1_3, ob1_3, h1_3⟩
 have L1 := L0.le h1_3
 refine W.run 7 rfl (W.nx (WC.seq (WC.block (WC.sr (W.run 3 rfl (W.nx ?_))))))
 by_cases c0 : ((costG xs a x).2.2) ≠ 0
 ·refine WC.condY rfl (decide_eq_true c0) ?_
  refine WC.sr (W.run 2 rfl (W.nx (WC.ret (E.blkR (E.thenR ?_)))))
  have f2 := (hP.le h1_3)
  refine E.retG1 rfl rfl ?_
  have hn : (noteR m xs a x failed) = (m, (costG xs a x).2.2) := (by unfold noteR; rw [if_pos (by assumption)])
  rw [hn]
  exact ⟨rfl, f2, fun k hk => .inl hk, L1⟩
 refine WC.condN rfl (decide_eq_false c0) ?_
 have hc0 : (costG xs a x).2.2 = 0 := Decidable.not_not.1 (by assumption)
 have hcl := costG_lens hc0
 have hwl := wayG_len (costG_inv hc0).1
 refine WC.sr (W.run 2 rfl ?_)
 by_cases q4_2 : failed < (-1)
 ·refine W.dt q4_2 rfl rfl (W.run 6 rfl (W.nx (WC.condT rfl (WC.sr (W.run 1 rfl (W.nx (WC.ret (E.blkR (E.thenR ?_)))))))))
  have f3 := (hP.le h1_3)
  refine E.retG1 rfl rfl ?_
  have hn : (noteR m xs a x failed) = (m, 1) := (by unfold noteR; rw [if_neg (not_not_intro hc0), if_pos (by omega)])
  rw [hn]
  exact ⟨rfl, f3, fun k hk => .inl hk, L1⟩
 refine W.df q4_2 rfl rfl (W.run 2 rfl ?_)
 refine W.g (.len Tryz.underlying22 rfl) ?_
 refine W.run 3 rfl (W.nx ?_)
 by_cases c1 : ((n : Nat) : Int) ≤ failed
 ·refine WC.condY rfl (decide_eq_true c1) ?_
  refine WC.sr (W.run 1 rfl (W.nx (WC.ret (E.blkR (E.thenR ?_)))))
  have f4 := (hP.le h1_3)
  refine E.retG1 rfl rfl ?_
  have hn : (noteR m xs a x failed) = (m, 1) := (by unfold noteR; rw [if_neg (not_not_intro hc0), if_pos (by omega)])
  rw [hn]
  exact ⟨rfl, f4, fun k hk => .inl hk, L1⟩
 refine WC.condN rfl (decide_eq_false c1) ?_
 refine WC.skip (E.blkN (E.thenN (WC.seq (WC.sr (W.run 1 rfl ?_)))))
 refine W.r (.len Tryz.underlying22 rfl) ?_
 refine W.run 1 rfl (W.nx (WC.block ?_))
 have f5 := (hP.le h1_3)
 refine WC.loop (ι := Nat) (fun k => [(0, .pointer (some ⟨gp, 0, none⟩)), (4, .int .i64 (failed)), (11, .slice Aa1_3 ((costG xs a x).1.length) ca1_3), (37, .slice A n c), (38, .int .i64 (((n : Nat) : Int))), (39, .int .i64 (((k : Nat) : Int)))]) (fun k wl0 => (k ≤ n) ∧ (∀ i : Nat, i < k → (i : Int) ≠ failed) ∧ ChP w wl0 (F) ∧ w1_3.heap.size ≤ wl0.heap.size ∧ MPool wl0 base gp F (passK m xs (costG xs a x).1 k) ∧ OVec wl0 w.heap.size 3 iv 1 Aa1_3 ((costG xs a x).1.length) ca1_3 ((costG xs a x).1)) (fun k => n - k) 0 ?_ ?_ ?_
 ·exact .cons rfl (.cons rfl (.cons rfl (.cons rfl (.cons rfl (.cons rfl (.nil _))))))
 ·exact ⟨Nat.zero_le _, fun i hi => absurd hi (Nat.not_lt_zero _), L1, Nat.le_refl _, f5, oa1_3⟩
 rintro k wl0 ⟨hk, hnf0, Ll0, zl0, f0_0, f0_1⟩
 have lb0_3 : w.heap.size ≤ wl0.heap.size := by have := h1_3.size; omega
 refine WC.sr (W.run 1 rfl (W.nx (WC.seq ?_)))
 by_cases c2 : ((k : Nat) : Int) < ((n : Nat) : Int)
 ·refine WC.condY rfl (decide_eq_true c2) ?_
  refine WC.sn (WC.seq (WC.block (WC.sr (W.run 1 rfl ?_))))
  refine W.a (.idxS (k) Tryz.underlying22 sz51 rfl rfl (hV.isSome edgeV_row (by omega)) (rfl) (by omega)) ?_
  refine W.r (.vload ag51 rfl (hV.chP Ll0 hVa) edgeV_row (getS xs noEdge (by omega))) ?_
  refine W.ef rfl rfl rfl ?_
  refine Ef.allocA z51 ?_
  intro g8_3 w8_3 hg8_3 b8_3 h8_3
  have L6 := Ll0.le h8_3
  have b8_3 : Blk w8_3 g8_3 51 (edgeV noEdge).toArray := b8_3
  refine W.run 1 rfl ?_
  refine W.ef0 rfl rfl ?_
  refine Ef.storeAll sz51 (by rfl) rfl rfl b8_3 (by simp only [List.size_toArray, edgeV_row.len]) (edgeV_row.one (xs.getD k noEdge)) ?_
  intro w8_5 b8_5 h8_5
  have b8_5 : Blk w8_5 g8_3 51 (edgeV (xs.getD k noEdge)).toArray := b8_5
  have L7 : ChP w w8_5 (F) := L6.ch h8_5 (fun i hi hlt => by cases hi; exact absurd hlt (by have := Ll0.size; have := hg8_3; omega))
  refine W.nx (WC.seq (WC.sr (W.run 3 rfl (W.nx ?_))))
  by_cases c3 : ((k : Nat) : Int) = failed
  ·refine WC.condY rfl (decide_eq_true c3) ?_
   refine WC.seq ?_
   refine WC.draw [0, 1, 2, 3, 4, 5, 6] mixed (by kernel_rfl) ?_
   intro w10 d10
   have L8 := L7.le d10
   refine G.run 1 rfl ?_
   have f9 := (b8_5.le d10)
   refine G.r rfl (.loadAll ag51 (by rfl) rfl f9) ?_
   refine G.run 2 rfl ?_
   refine G.a rfl (.idxS (k) Tryz.underlying24 sz3 rfl rfl (oa1_3.vec.isSome iv_row (by omega)) (rfl) (by omega)) ?_
   have f10 := (((f0_1.le h8_3).ch h8_5 (fun q hq => by cases hq; exact (fun he => by have := (f0_1.row he).2; omega))).le d10)
   refine G.r rfl (.vone (v := .int .i64 ((((costG xs a x).1).getD k 0))) na3 rfl f10.vec iv_row (getS ((costG xs a x).1) 0 (by first | omega | (simp only [List.length_cons, List.length_nil]; omega))) rfl) ?_
   have f11 := (((f0_0.le h8_3).ch h8_5 (fun q hqq hF => by cases hqq; have := f0_0.lt hF;  have := hg8_3; omega)).le d10)
   refine G.ef rfl rfl rfl rfl rfl ?_
   refine Ef.call go31 rfl rfl (fail_mind (xs.getD k noEdge) (((costG xs a x).1).getD k 0) f11) ?_
   rintro _ w10_6 ⟨rfl, p10_6, g10_6, h10_6⟩
   refine ⟨_, rfl, ?_⟩
   refine ⟨fun h => absurd h (ne_true_of_eq_false (by kernel_rfl)), ?_⟩
   have L12 := L8.sub h10_6 (fun i hi hlt => hi)
   refine G.nil (E.thenN (WC.exit (E.thenX (E.blkX rfl (E.thenX (E.thenX (E.blkH (E.thenN (WC.sr (W.run 1 rfl (W.nx (WC.ret ?_))))))))))))
   refine E.retG1 rfl rfl ?_
   have hk9 : k = failed.toNat := (by omega)
   have hn : (noteR m xs a x failed) = (failM (passK m xs (costG xs a x).1 failed.toNat) (xs.getD failed.toNat noEdge) ((costG xs a x).1.getD failed.toNat 0), 0) := (by unfold noteR; rw [if_neg (not_not_intro hc0), if_neg (by omega), if_neg (by omega)])
   rw [hn]
   subst hk9
   exact ⟨rfl, p10_6, fun k hk => .inl hk, L12⟩
  refine WC.condN rfl (decide_eq_false c3) ?_
  refine WC.sn ?_
  refine WC.draw [0, 1, 2, 3, 4, 5, 6] mixed (by kernel_rfl) ?_
  intro w11 d11
  have L15 := L7.le d11
  refine G.run 1 rfl ?_
  have f16 := (b8_5.le d11)
  refine G.r rfl (.loadAll ag51 (by rfl) rfl f16) ?_
  refine G.run 2 rfl ?_
  refine G.a rfl (.idxS (k) Tryz.underlying24 sz3 rfl rfl (oa1_3.vec.isSome iv_row (by omega)) (rfl) (by omega)) ?_
  have f17 := (((f0_1.le h8_3).ch h8_5 (fun q hq => by cases hq; exact (fun he => by have := (f0_1.row he).2; omega))).le d11)
  refine G.r rfl (.vone (v := .int .i64 ((((costG xs a x).1).getD k 0))) na3 rfl f17.vec iv_row (getS ((costG xs a x).1) 0 (by first | omega | (simp only [List.length_cons, List.length_nil]; omega))) rfl) ?_
  have f18 := (((f0_0.le h8_3).ch h8_5 (fun q hqq hF => by cases hqq; have := f0_0.lt hF;  have := hg8_3; omega)).le d11)
  refine G.ef rfl rfl rfl rfl rfl ?_
  refine Ef.call go32 rfl rfl (pass_mind (xs.getD k noEdge) (((costG xs a x).1).getD k 0) f18) ?_
  rintro _ w11_6 ⟨rfl, p11_6, g11_6, h11_6⟩
  refine ⟨_, rfl, ?_⟩
  refine ⟨fun h => absurd h (ne_true_of_eq_false (by kernel_rfl)), ?_⟩
  have L19 := L15.sub h11_6 (fun i hi hlt => hi)
  have zq20n := (show ∀ g, rowOf Aa1_3 ca1_3 = some g → ¬ F g from (fun g hg hF => by have := hP.lt hF;  have := (f17.row hg).1; omega))
  have zq20 := f17.chP h11_6 zq20n
  refine G.nil (E.blkN (E.thenN (WC.region ?_)))
  refine W.a (.add rfl rfl (by omega)) ?_
  refine W.run 1 rfl (W.nil ?_)
  refine E.again (k + 1) (.cons rfl (.cons rfl (.cons rfl (.cons rfl (.cons rfl (.cons rfl (.nil _))))))) ?_ ?_
  ·exact ⟨by omega, fun i hi => (Nat.lt_succ_iff_lt_or_eq.1 hi).elim (hnf0 i) (fun hh => by subst hh; assumption), L19, by have := zl0; have := h8_3.size; have := h8_5.size; have := d11.size; have := h11_6.size; omega, p11_6, zq20⟩
  first | omega | (simp only []; omega)
 refine WC.condN rfl (decide_eq_false c2) ?_
 have hnf : ¬ (0 ≤ failed ∧ failed < n) := fun hh => hnf0 failed.toNat (by omega) (by omega)
 refine WC.exit (E.thenX (E.thenX (E.blkH (E.thenN (WC.sr (W.run 1 rfl (W.nx (WC.ret ?_))))))))
 refine E.retG1 rfl rfl ?_
 have hk9 : k = xs.length := (by omega)
 have hn : (noteR m xs a x failed) = (passK m xs (costG xs a x).1 xs.length, 0) := (by unfold noteR; rw [if_neg (not_not_intro hc0), if_neg (by omega), if_pos (by have := hnf; omega)])
 rw [hn]
 subst hk9
 exact ⟨rfl, f0_0, fun k hk => .inl hk, Ll0⟩
end Go.Proofs.YtmkdeemjkcigkaaGreatDoor

namespace Go.Proofs.YtmkdeemjkcigkaaGreatDoor
open Go Go.Sx Go.Num Go.Gsp Go.Nsp Go.Msp Go.Rtp
set_option maxRecDepth 20000
theorem rowsC_at {xs ys : List Gsp.Edge} {k : Nat} (h1 : k < xs.length) (h2 : k < ys.length) : rowsC (xs.drop k) (ys.drop k) = if cmpI (xs.getD k noEdge).c (ys.getD k noEdge).c ≠ 0 then cmpI (xs.getD k noEdge).c (ys.getD k noEdge).c else rowsC (xs.drop (k + 1)) (ys.drop (k + 1)) := by
  rw [List.drop_eq_getElem_cons h1, List.drop_eq_getElem_cons h2, rowsC]
  simp [List.getD, h1, h2]
theorem rowsC_long {xs ys : List Gsp.Edge} {k : Nat} (h1 : k < xs.length) (h2 : ys.length ≤ k) : rowsC (xs.drop k) (ys.drop k) = 1 := by
  rw [List.drop_eq_getElem_cons h1, List.drop_of_length_le h2, rowsC]
theorem rowsC_short {xs ys : List Gsp.Edge} {k : Nat} (h1 : xs.length ≤ k) (h2 : k < ys.length) : rowsC (xs.drop k) (ys.drop k) = -1 := by
  rw [List.drop_eq_getElem_cons h2, List.drop_of_length_le h1, rowsC]
theorem rowsC_even {xs ys : List Gsp.Edge} {k : Nat} (h1 : xs.length ≤ k) (h2 : ys.length ≤ k) : rowsC (xs.drop k) (ys.drop k) = 0 := by
  rw [List.drop_of_length_le h2, List.drop_of_length_le h1, rowsC]
theorem betc_ok (x y : Gsp.Edge) (w : World) : Calls Tryz.prog 75 #[.agg (edgeV x).toArray, .agg (edgeV y).toArray] w fun r w' => r = .returned (.int .i64 (cmpI x.c y.c)) ∧ Le w w' := by
 refine enter Tryz.func75 rfl rfl ?_
 have L0 := Le.refl w
 refine WC.sr (W.ef rfl rfl rfl ?_)
 refine Ef.boxA rfl ?_
 intro g0_0 w0_0 hg0_0 b0_0 h0_0
 have L1 := L0.trans h0_0
 have b0_0 : Blk w0_0 g0_0 51 (edgeV x).toArray := b0_0
 refine W.ef rfl rfl rfl ?_
 refine Ef.boxA rfl ?_
 intro g0_1 w0_1 hg0_1 b0_1 h0_1
 have L2 := L1.trans h0_1
 have b0_1 : Blk w0_1 g0_1 51 (edgeV y).toArray := b0_1
 refine W.run 1 rfl (W.nx (WC.sr ?_))
 refine W.a (.field0 fa51_2 rfl) ?_
 have f3 := (b0_0.le h0_1)
 refine W.r (.loadB (v := .int .i64 (x.c)) na3 rfl f3 rfl) ?_
 refine W.a (.field0 fa51_2 rfl) ?_
 refine W.r (.loadB (v := .int .i64 (y.c)) na3 rfl b0_1 rfl) ?_
 refine W.cl go76 rfl rfl (comparei_ok x.c y.c w0_1) ?_
 rintro _ w1_4 ⟨rfl, h1_4⟩
 have L4 := L2.trans h1_4
 refine W.run 1 rfl (W.nx (WC.ret ?_))
 refine E.retG1 rfl rfl ?_
 exact ⟨rfl, L4⟩

theorem within_ok (n lo hi : Int) (w : World) : Calls Tryz.prog 36 #[.int .i64 (n), .int .i64 (lo), .int .i64 (hi)] w fun r w' => r = .returned (.bool (inB n lo hi)) ∧ Le w w' := by
 refine enter Tryz.func36 rfl rfl ?_
 have L0 := Le.refl w
 refine WC.sr (W.run 1 rfl (W.nx (WC.sr (W.run 3 rfl ?_))))
 by_cases q1_3 : lo ≤ n
 ·refine W.dt q1_3 rfl rfl (W.run 5 rfl (W.nx (WC.ret ?_)))
  refine E.retG1 rfl rfl ?_
  exact ⟨rB (by simp [inB, q1_3]), L0⟩
 refine W.df q1_3 rfl rfl (W.run 5 rfl (W.nx (WC.ret ?_)))
 refine E.retG1 rfl rfl ?_
 exact ⟨rB (by simp [inB, q1_3]), L0⟩

theorem cmprows_ok {A A2 : Option Addr} {n c n2 c2 : Nat} {xs ys : List Gsp.Edge} (w : World) (hV : Vec w edgeV 9 A n xs) (hW : Vec w edgeV 9 A2 n2 ys) (hn : n ≤ 1000000) (hn2 : n2 ≤ 1000000) : Calls Tryz.prog 74 #[.slice A n c, .slice A2 n2 c2, .func (.func 75) #[] #[]] w fun r w' => r = .returned (.int .i64 (rowsC xs ys)) ∧ Le w w' := by
 have hl := hV.1; have hl2 := hW.1
 refine enter Tryz.func74 rfl rfl ?_
 have L0 := Le.refl w
 refine WC.sr (W.run 1 rfl (W.nx (WC.seq (WC.sr (W.run 1 rfl ?_)))))
 refine W.r (.len Tryz.underlying22 rfl) ?_
 refine W.run 1 rfl (W.nx (WC.block ?_))
 refine WC.loop (ι := Nat) (fun k => [(0, .slice A n c), (1, .slice A2 n2 c2), (2, .func (.func 75) #[] #[]), (11, .slice A n c), (12, .int .i64 (((n : Nat) : Int))), (13, .int .i64 (((k : Nat) : Int)))]) (fun k wl0 => (k ≤ n) ∧ (k ≤ n2 ∨ k ≤ n) ∧ (rowsC xs ys = rowsC (xs.drop k) (ys.drop k)) ∧ Le w wl0 ∧ w.heap.size ≤ wl0.heap.size) (fun k => n - k) 0 ?_ ?_ ?_
 ·exact .cons rfl (.cons rfl (.cons rfl (.cons rfl (.cons rfl (.cons rfl (.nil _))))))
 ·exact ⟨Nat.zero_le _, Or.inl (Nat.zero_le _), rfl, L0, Nat.le_refl _⟩
 rintro k wl0 ⟨hk, hk2, hrc, Ll0, zl0⟩
 refine WC.sr (W.run 1 rfl (W.nx (WC.seq ?_)))
 by_cases c0 : ((k : Nat) : Int) < ((n : Nat) : Int)
 ·refine WC.condY rfl (decide_eq_true c0) ?_
  refine WC.sn (WC.seq (WC.block (WC.sr (W.run 1 rfl ?_))))
  refine W.a (.idxS (k) Tryz.underlying22 sz51 rfl rfl (hV.isSome edgeV_row (by omega)) (rfl) (by omega)) ?_
  refine W.r (.vload ag51 rfl (hV.le Ll0) edgeV_row (getS xs noEdge (by omega))) ?_
  refine W.ef rfl rfl rfl ?_
  refine Ef.allocA z51 ?_
  intro g3_3 w3_3 hg3_3 b3_3 h3_3
  have L1 := Ll0.trans h3_3
  have b3_3 : Blk w3_3 g3_3 51 (edgeV noEdge).toArray := b3_3
  refine W.run 1 rfl ?_
  refine W.ef0 rfl rfl ?_
  refine Ef.storeAll sz51 (by rfl) rfl rfl b3_3 (by simp only [List.size_toArray, edgeV_row.len]) (edgeV_row.one (xs.getD k noEdge)) ?_
  intro w3_5 b3_5 h3_5
  have b3_5 : Blk w3_5 g3_3 51 (edgeV (xs.getD k noEdge)).toArray := b3_5
  have L2 := L1.then_ h3_5 (fun q hq => by cases hq; exact Nat.le_trans Ll0.size hg3_3)
  refine W.nx (WC.seq (WC.sr (W.run 2 rfl ?_)))
  refine W.r (.len Tryz.underlying22 rfl) ?_
  refine W.run 1 rfl (W.nx ?_)
  by_cases c1 : ((n2 : Nat) : Int) ≤ ((k : Nat) : Int)
  ·refine WC.condY rfl (decide_eq_true c1) ?_
   refine WC.sr (W.run 1 rfl (W.nx (WC.ret (E.thenR (E.blkR (E.thenR (E.thenR (E.blkR (E.thenR ?_)))))))))
   refine E.retG1 rfl rfl ?_
   exact ⟨congrArg (fun v => Ending.returned (Value.int .i64 v)) (hrc.trans (rowsC_long (by omega) (by omega))).symm, L2⟩
  refine WC.condN rfl (decide_eq_false c1) ?_
  refine WC.sn (WC.sr (W.run 2 rfl ?_))
  refine W.a (.idxS (k) Tryz.underlying22 sz51 rfl rfl (hW.isSome edgeV_row (by omega)) (rfl) (by omega)) ?_
  refine W.r (.vload ag51 rfl (hW.le L2) edgeV_row (getS ys noEdge (by omega))) ?_
  refine W.ef rfl rfl rfl ?_
  refine Ef.allocA z51 ?_
  intro g6_4 w6_4 hg6_4 b6_4 h6_4
  have L3 := L2.trans h6_4
  have b6_4 : Blk w6_4 g6_4 51 (edgeV noEdge).toArray := b6_4
  refine W.ef0 rfl rfl ?_
  refine Ef.storeAll sz51 (by rfl) rfl rfl b6_4 (by simp only [List.size_toArray, edgeV_row.len]) (edgeV_row.one (ys.getD k noEdge)) ?_
  intro w6_5 b6_5 h6_5
  have b6_5 : Blk w6_5 g6_4 51 (edgeV (ys.getD k noEdge)).toArray := b6_5
  have L4 := L3.then_ h6_5 (fun q hq => by cases hq; exact Nat.le_trans L2.size hg6_4)
  refine W.nx (WC.sr (W.run 1 rfl ?_))
  have f5 := ((b3_5.le h6_4).ch h6_5 (fun h => (show g6_4 ≠ g3_3 from by have := b3_5.lt; omega) (Option.some.inj h)))
  refine W.r (.loadAll ag51 (by rfl) rfl f5) ?_
  refine W.r (.loadAll ag51 (by rfl) rfl b6_5) ?_
  refine W.cl go75 rfl rfl (betc_ok (xs.getD k noEdge) (ys.getD k noEdge) w6_5) ?_
  rintro _ w7_3 ⟨rfl, h7_3⟩
  have L6 := L4.trans h7_3
  refine W.run 1 rfl (W.nx (WC.sr (W.run 2 rfl (W.nx ?_))))
  by_cases c2 : (cmpI (xs.getD k noEdge).c (ys.getD k noEdge).c) ≠ 0
  ·refine WC.condY rfl (decide_eq_true c2) ?_
   refine WC.sr (W.run 2 rfl (W.nx (WC.ret (E.blkR (E.thenR (E.thenR (E.blkR (E.thenR ?_))))))))
   refine E.retG1 rfl rfl ?_
   exact ⟨congrArg (fun v => Ending.returned (Value.int .i64 v)) (hrc.trans (by rw [rowsC_at (by omega) (by omega), if_pos (by assumption)])).symm, L6⟩
  refine WC.condN rfl (decide_eq_false c2) ?_
  refine WC.skip (E.blkN (E.thenN (WC.region ?_)))
  refine W.a (.add rfl rfl (by omega)) ?_
  refine W.run 1 rfl (W.nil ?_)
  refine E.again (k + 1) (.cons rfl (.cons rfl (.cons rfl (.cons rfl (.cons rfl (.cons rfl (.nil _))))))) ?_ ?_
  ·exact ⟨by omega, by omega, by rw [hrc, rowsC_at (by omega) (by omega), if_neg (by assumption)], L6, by have := zl0; have := h3_3.size; have := h3_5.size; have := h6_4.size; have := h6_5.size; have := h7_3.size; omega⟩
  first | omega | (simp only []; omega)
 refine WC.condN rfl (decide_eq_false c0) ?_
 refine WC.exit (E.thenX (E.thenX (E.blkH (E.thenN (WC.seq (WC.sr (W.run 1 rfl ?_)))))))
 refine W.r (.len Tryz.underlying22 rfl) ?_
 refine W.run 1 rfl ?_
 refine W.r (.len Tryz.underlying22 rfl) ?_
 refine W.run 1 rfl (W.nx ?_)
 by_cases c3 : ((n : Nat) : Int) < ((n2 : Nat) : Int)
 ·refine WC.condY rfl (decide_eq_true c3) ?_
  refine WC.sr (W.run 1 rfl (W.nx (WC.ret (E.thenR ?_))))
  refine E.retG1 rfl rfl ?_
  exact ⟨congrArg (fun v => Ending.returned (Value.int .i64 v)) (hrc.trans (rowsC_short (by omega) (by omega))).symm, Ll0⟩
 refine WC.condN rfl (decide_eq_false c3) ?_
 refine WC.sn (WC.sr (W.run 1 rfl (W.nx (WC.ret ?_))))
 refine E.retG1 rfl rfl ?_
 exact ⟨congrArg (fun v => Ending.returned (Value.int .i64 v)) (hrc.trans (rowsC_even (by omega) (by omega))).symm, Ll0⟩

theorem better_ok {Aw1 An1 Ad1 : Option Addr} {nw1 cw1 nn1 cn1 nd1 cd1 p1 q1 : Nat} {ws1 : List Gsp.Edge} {s1 : Int} {Aw2 An2 Ad2 : Option Addr} {nw2 cw2 nn2 cn2 nd2 cd2 p2 q2 : Nat} {ws2 : List Gsp.Edge} {s2 : Int} (w : World) (hw1 : Vec w edgeV 9 Aw1 nw1 ws1) (hn1 : Vec w dv 1 An1 nn1 (digs p1)) (hd1 : Vec w dv 1 Ad1 nd1 (digs q1)) (bw1 : nw1 ≤ 10000) (bn1 : nn1 ≤ 10000) (bd1 : nd1 ≤ 10000) (hw2 : Vec w edgeV 9 Aw2 nw2 ws2) (hn2 : Vec w dv 1 An2 nn2 (digs p2)) (hd2 : Vec w dv 1 Ad2 nd2 (digs q2)) (bw2 : nw2 ≤ 10000) (bn2 : nn2 ≤ 10000) (bd2 : nd2 ≤ 10000) : Calls Tryz.prog 38 #[.agg #[.slice Aw1 nw1 cw1, .slice An1 nn1 cn1, .slice Ad1 nd1 cd1, .int .i64 (s1)], .agg #[.slice Aw2 nw2 cw2, .slice An2 nn2 cn2, .slice Ad2 nd2 cd2, .int .i64 (s2)]] w fun r w' => r = .returned (.bool (betterR (⟨ws1, ⟨p1, q1⟩, s1⟩ : Fnd) (⟨ws2, ⟨p2, q2⟩, s2⟩ : Fnd))) ∧ Le w w' := by
 have hlw1 := hw1.1; have hln1 := hn1.1; have hld1 := hd1.1
 have hlw2 := hw2.1; have hln2 := hn2.1; have hld2 := hd2.1
 refine enter Tryz.func38 rfl rfl ?_
 have L0 := Le.refl w
 refine WC.sr (W.ef rfl rfl rfl ?_)
 refine Ef.boxA rfl ?_
 intro g0_0 w0_0 hg0_0 b0_0 h0_0
 have L1 := L0.trans h0_0
 have b0_0 : Blk w0_0 g0_0 71 #[.slice Aw1 nw1 cw1, .slice An1 nn1 cn1, .slice Ad1 nd1 cd1, .int .i64 (s1)] := b0_0
 refine W.ef rfl rfl rfl ?_
 refine Ef.boxA rfl ?_
 intro g0_1 w0_1 hg0_1 b0_1 h0_1
 have L2 := L1.trans h0_1
 have b0_1 : Blk w0_1 g0_1 71 #[.slice Aw2 nw2 cw2, .slice An2 nn2 cn2, .slice Ad2 nd2 cd2, .int .i64 (s2)] := b0_1
 refine W.run 1 rfl (W.nx (WC.sr ?_))
 refine W.a (.field0 fa71_0 rfl) ?_
 have f3 := (b0_0.le h0_1)
 refine W.r (.loadB (v := .slice Aw1 nw1 cw1) na22 rfl f3 rfl) ?_
 refine W.a (.field0 fa71_0 rfl) ?_
 refine W.r (.loadB (v := .slice Aw2 nw2 cw2) na22 rfl b0_1 rfl) ?_
 refine W.cl go74 rfl rfl (cmprows_ok w0_1 (hw1.le L2) (hw2.le L2) (by omega) (by omega)) ?_
 rintro _ w1_4 ⟨rfl, h1_4⟩
 have L4 := L2.trans h1_4
 refine W.run 1 rfl (W.nx (WC.seq ?_))
 refine WC.draw [0, 1, 2, 3, 5, 6, 7, 8, 10, 4, 9, 11, 12, 13, 14] mixed (by kernel_rfl) ?_
 intro w2 d2
 have L5 := L4.trans d2
 refine G.a rfl (.field0 fa71_1 rfl) ?_
 have f6 := (b0_1.le (h1_4.trans d2))
 refine G.r rfl (.bpart [.slice An2 nn2 cn2, .slice Ad2 nd2 cd2] ag33 rfl (by decide) rfl f6 rfl) ?_
 refine G.a rfl (.field0 fa71_1 rfl) ?_
 have f7 := (f3.le (h1_4.trans d2))
 refine G.r rfl (.bpart [.slice An1 nn1 cn1, .slice Ad1 nd1 cd1] ag33 rfl (by decide) rfl f7 rfl) ?_
 refine G.a rfl (.field0 fa71_2 rfl) ?_
 refine G.r rfl (.loadB (v := .int .i64 (s1)) na3 rfl f7 rfl) ?_
 refine G.a rfl (.field0 fa71_2 rfl) ?_
 refine G.r rfl (.loadB (v := .int .i64 (s2)) na3 rfl f6 rfl) ?_
 refine G.run 1 rfl ?_
 refine G.ef rfl rfl rfl rfl rfl ?_
 refine Ef.call go22 rfl rfl (fcmp_ok w2 (hn2.le L5) (hd2.le L5) (by omega) (by omega) (hn1.le L5) (hd1.le L5) (by omega) (by omega)) ?_
 rintro _ w2_4 ⟨rfl, h2_4⟩
 refine ⟨_, rfl, ?_⟩
 refine ⟨fun _ => h2_4, ?_⟩
 have L8 := L5.trans h2_4
 refine G.ef rfl rfl rfl rfl rfl ?_
 refine Ef.call go76 rfl rfl (comparei_ok s1 s2 w2_4) ?_
 rintro _ w2_9 ⟨rfl, h2_9⟩
 refine ⟨_, rfl, ?_⟩
 refine ⟨fun _ => h2_9, ?_⟩
 have L9 := L8.trans h2_9
 refine G.ef rfl rfl rfl rfl rfl ?_
 refine Ef.buildSliceV (len := 3) [_, _, _] Tryz.underlying24 el3 rfl (by simp [Value.cells]) rfl (by decide) (by decide) ?_
 intro g2_11 w2_11 hg2_11 b2_11 h2_11
 refine ⟨fun _ => h2_11, ?_⟩
 have L10 := L9.trans h2_11
 have b2_11 : Blk w2_11 g2_11 3 (([(cmpF (takF (⟨p2, q2⟩ : Fr)) (takF (⟨p1, q1⟩ : Fr))), (cmpZ s1 s2), (rowsC ws1 ws2)]).map iv).flatten.toArray := b2_11
 have o2_11 : OVec w2_11 w2_9.heap.size 3 iv 1 (some ⟨g2_11, 0, none⟩) 3 3 ([(cmpF (takF (⟨p2, q2⟩ : Fr)) (takF (⟨p1, q1⟩ : Fr))), (cmpZ s1 s2), (rowsC ws1 ws2)]) := b2_11.ovec hg2_11 iv_row rfl rfl (by decide)
 refine G.ef rfl rfl rfl rfl rfl ?_
 refine Ef.call go77 rfl rfl (or2_ok w2_11 o2_11.vec (by decide)) ?_
 rintro _ w2_12 ⟨rfl, h2_12⟩
 refine ⟨_, rfl, ?_⟩
 refine ⟨fun _ => h2_12, ?_⟩
 have L11 := L10.trans h2_12
 refine G.run 2 rfl (G.nil (E.thenN (WC.ret ?_)))
 refine E.retG1 rfl rfl ?_
 exact ⟨rfl, L11⟩
end Go.Proofs.YtmkdeemjkcigkaaGreatDoor

namespace Go.Rtp
open Go.Gsp Go.Nsp Go.Msp Go.Proofs.YtmkdeemjkcigkaaGreatDoor
structure TP {α : Type} (c : α → α → Int) : Prop where
  anti : ∀ x y, c y x = -(c x y)
  trans : ∀ x y z, c x y ≤ 0 → c y z ≤ 0 → c x z ≤ 0
theorem TP.refl {α : Type} {c : α → α → Int} (h : TP c) (x : α) : c x x = 0 := by have := h.anti x x; omega
theorem TP.lex {α : Type} {c d : α → α → Int} (h : TP c) (k : TP d) : TP (fun x y => if c x y ≠ 0 then c x y else d x y) := by
  refine ⟨fun x y => ?_, fun x y z h1 h2 => ?_⟩
  · have := h.anti x y
    have := k.anti x y
    split <;> split <;> omega
  · have a1 := h.trans x y z
    have a2 := h.trans y z x
    have a3 := h.trans z x y
    have b1 := h.anti x y
    have b2 := h.anti y z
    have b3 := h.anti x z
    have := k.trans x y z
    split at h1 <;> split at h2 <;> split <;> omega
theorem TP.comap {α β : Type} {c : β → β → Int} (h : TP c) (f : α → β) : TP (fun x y => c (f x) (f y)) := ⟨fun _ _ => h.anti _ _, fun _ _ _ => h.trans _ _ _⟩
theorem TP.flip {α : Type} {c : α → α → Int} (h : TP c) : TP (fun x y => c y x) := ⟨fun _ _ => h.anti _ _, fun x y z h1 h2 => h.trans z y x h2 h1⟩
theorem TP.cmpI : TP cmpI := ⟨fun x y => by unfold Gsp.cmpI; repeat' split
                                            all_goals omega, fun x y z => by unfold Gsp.cmpI; repeat' split
                                                                             all_goals omega⟩
theorem cmpF_anti (a b : Fr) : cmpF b a = -(cmpF a b) := by
  unfold cmpF cmpN
  repeat' split
  all_goals omega
theorem cmpF_le {a b : Fr} : cmpF a b ≤ 0 ↔ leF a b := by
  have h1 := cmpF_pos (a := a) (b := b)
  have h2 := ltF_not (a := b) (b := a)
  constructor
  · intro h; exact Decidable.not_not.1 (fun hh => by have := h1.2 (h2.2 hh); omega)
  · intro h; exact Int.not_lt.1 (fun hh => h2.1 (h1.1 hh) h)
theorem TP.cmpF : TP (fun x y : Fr => cmpF (takF x) (takF y)) :=
  ⟨fun x y => cmpF_anti _ _, fun x y z h1 h2 => cmpF_le.2 (leF_trans (takF_ok y).1 (cmpF_le.1 h1) (cmpF_le.1 h2))⟩
theorem rowsC_anti : ∀ xs ys : List Gsp.Edge, rowsC ys xs = -(rowsC xs ys)
  | [], [] => rfl
  | [], _ :: _ => rfl
  | _ :: _, [] => rfl
  | x :: xs, y :: ys => by
    have h1 := TP.cmpI.anti x.c y.c
    have h2 := rowsC_anti xs ys
    unfold rowsC
    split <;> split <;> omega
theorem rowsC_trans : ∀ xs ys zs : List Gsp.Edge, rowsC xs ys ≤ 0 → rowsC ys zs ≤ 0 → rowsC xs zs ≤ 0
  | [], _, [], _, _ => Int.le_refl _
  | [], _, _ :: _, _, _ => (by decide : (-1 : Int) ≤ 0)
  | x :: xs, [], _, h, _ => absurd h (by show ¬ (1 : Int) ≤ 0; decide)
  | x :: xs, y :: ys, [], _, h => absurd h (by show ¬ (1 : Int) ≤ 0; decide)
  | x :: xs, y :: ys, z :: zs, h, k => by
    unfold rowsC at h k ⊢
    have a1 := TP.cmpI.trans x.c y.c z.c
    have a2 := TP.cmpI.trans y.c z.c x.c
    have a3 := TP.cmpI.trans z.c x.c y.c
    have b1 := TP.cmpI.anti x.c y.c
    have b2 := TP.cmpI.anti y.c z.c
    have b3 := TP.cmpI.anti x.c z.c
    have := rowsC_trans xs ys zs
    split at h <;> split at k <;> split <;> omega
theorem TP.rowsC : TP rowsC := ⟨rowsC_anti, rowsC_trans⟩
def ordB (u v : Fnd) : Int := orL [cmpF (takF v.odds) (takF u.odds), cmpI u.sent v.sent, rowsC u.way v.way]
theorem TP.ordB : TP ordB := by
  have h := (TP.cmpF.flip.comap Fnd.odds).lex ((TP.cmpI.comap Fnd.sent).lex (TP.rowsC.comap Fnd.way))
  refine ⟨fun x y => ?_, fun x y z h1 h2 => ?_⟩
  · have := h.anti x y
    unfold Rtp.ordB
    simp only [orL]
    repeat' split
    all_goals (repeat' split at this)
    all_goals omega
  · have := h.trans x y z
    unfold Rtp.ordB at *
    simp only [orL] at *
    have e : ∀ a b c : Int, (if a ≠ 0 then a else if b ≠ 0 then b else if c ≠ 0 then c else 0) = (if a ≠ 0 then a else if b ≠ 0 then b else c) := by
      intro a b c; repeat' split
      all_goals omega
    rw [e] at *
    exact this h1 h2
theorem better_iff {u v : Fnd} : betterR u v = true ↔ ordB u v < 0 := decide_eq_true_iff
def aN (m : MF) (xs : List Gsp.Edge) (s : List Int) : Nat → Nat
  | 0 => 1
  | k + 1 => aN m xs s k * (takF (oddsM m (xs.getD k noEdge) (s.getD k 0))).n
def aD (m : MF) (xs : List Gsp.Edge) (s : List Int) : Nat → Nat
  | 0 => 1
  | k + 1 => aD m xs s k * (takF (oddsM m (xs.getD k noEdge) (s.getD k 0))).d
theorem aD_pos (m : MF) (xs : List Gsp.Edge) (s : List Int) : ∀ k, 0 < aD m xs s k
  | 0 => Nat.one_pos
  | k + 1 => Nat.mul_pos (aD_pos m xs s k) (takF_ok _).1
theorem mul_low {a b : Nat} {o : Fr} (hb : 0 < b) (ho : okF o) : mulF (lowF a b) o = lowF (a * o.n) (b * o.d) := by
  have h1 := mul_eq (lowF a b) o
  have h2 := low_eq (n := a) (d := b)
  have hx := okF_low (n := a) hb
  have hM := okF_mul hx ho
  refine eq_of_cross hM (okF_low (Nat.mul_pos hb ho.1)) (cross_trans (n := a * o.n) (d := b * o.d) (Nat.mul_pos hb ho.1) ?_ low_eq)
  generalize mulF (lowF a b) o = M at *
  generalize lowF a b = x at *
  refine Nat.eq_of_mul_eq_mul_right hx.1 ?_
  calc M.n * (b * o.d) * x.d = M.n * (x.d * o.d) * b := by simp only [Nat.mul_assoc, Nat.mul_comm, Nat.mul_left_comm]
    _ = x.n * o.n * M.d * b := by rw [h1]
    _ = x.n * b * (o.n * M.d) := by simp only [Nat.mul_assoc, Nat.mul_comm, Nat.mul_left_comm]
    _ = a * x.d * (o.n * M.d) := by rw [h2]
    _ = a * o.n * M.d * x.d := by simp only [Nat.mul_assoc, Nat.mul_comm, Nat.mul_left_comm]
theorem accO_pr (m : MF) (xs : List Gsp.Edge) (s : List Int) : ∀ k, accO m xs s k = lowF (aN m xs s k) (aD m xs s k)
  | 0 => rfl
  | k + 1 => by
    show mulF (takF (accO m xs s k)) _ = _
    rw [takF_id (accO_ok m xs s k), accO_pr m xs s k, mul_low (aD_pos m xs s k) (takF_ok _)]
    rfl
theorem le_low {a b c d : Nat} (hb : 0 < b) (hd : 0 < d) : leF (lowF a b) (lowF c d) ↔ a * d ≤ c * b := by
  have h1 := low_eq (n := a) (d := b)
  have h2 := low_eq (n := c) (d := d)
  have p1 := (okF_low (n := a) hb).1
  have p2 := (okF_low (n := c) hd).1
  unfold leF
  generalize lowF a b = x at *
  generalize lowF c d = y at *
  have e1 : x.n * y.d * (b * d) = a * d * (x.d * y.d) := by
    calc x.n * y.d * (b * d) = x.n * b * (d * y.d) := by simp only [Nat.mul_assoc, Nat.mul_comm, Nat.mul_left_comm]
      _ = a * x.d * (d * y.d) := by rw [h1]
      _ = a * d * (x.d * y.d) := by simp only [Nat.mul_assoc, Nat.mul_comm, Nat.mul_left_comm]
  have e2 : y.n * x.d * (b * d) = c * b * (x.d * y.d) := by
    calc y.n * x.d * (b * d) = y.n * d * (b * x.d) := by simp only [Nat.mul_assoc, Nat.mul_comm, Nat.mul_left_comm]
      _ = c * y.d * (b * x.d) := by rw [h2]
      _ = c * b * (x.d * y.d) := by simp only [Nat.mul_assoc, Nat.mul_comm, Nat.mul_left_comm]
  constructor
  · intro h
    refine Nat.le_of_mul_le_mul_right (c := x.d * y.d) ?_ (Nat.mul_pos p1 p2)
    rw [← e1, ← e2]
    exact Nat.mul_le_mul_right _ h
  · intro h
    refine Nat.le_of_mul_le_mul_right (c := b * d) ?_ (Nat.mul_pos hb hd)
    rw [e1, e2]
    exact Nat.mul_le_mul_right _ h
theorem getDI_drop (s : List Int) (k i : Nat) : (s.drop k).getD i 0 = s.getD (k + i) 0 := by simp [List.getD, List.getElem?_drop]
theorem aN_drop (m : MF) (xs : List Gsp.Edge) (s : List Int) (j : Nat) : ∀ k, aN m xs s (j + k) = aN m xs s j * aN m (xs.drop j) (s.drop j) k
  | 0 => by show _ = _ * 1; rw [Nat.mul_one]; rfl
  | k + 1 => by
    show aN m xs s (j + k) * _ = _ * (aN m (xs.drop j) (s.drop j) k * _)
    rw [aN_drop m xs s j k, getD_drop', getDI_drop, Nat.mul_assoc]
    rfl
theorem aD_drop (m : MF) (xs : List Gsp.Edge) (s : List Int) (j : Nat) : ∀ k, aD m xs s (j + k) = aD m xs s j * aD m (xs.drop j) (s.drop j) k
  | 0 => by show _ = _ * 1; rw [Nat.mul_one]; rfl
  | k + 1 => by
    show aD m xs s (j + k) * _ = _ * (aD m (xs.drop j) (s.drop j) k * _)
    rw [aD_drop m xs s j k, getD_drop', getDI_drop, Nat.mul_assoc]
    rfl
theorem lowF_unit {n d : Nat} (h : n ≤ d) : (lowF n d).n ≤ (lowF n d).d := Nat.div_le_div_right h
theorem odds_unit {m : MF} (hm : GoodM m) (e : Gsp.Edge) (a : Int) : (takF (oddsM m e a)).n ≤ (takF (oddsM m e a)).d := by
  unfold takF
  split
  · unfold oddsM
    split
    · rename_i h
      simp only [goesM, Bool.and_eq_true, decide_eq_true_eq] at h
      have hb := bndM_ok hm h.1.1
      refine lowF_unit ?_
      unfold oddN oddD
      omega
    · exact Nat.le_refl _
  · exact Nat.zero_le _
theorem a_unit {m : MF} (hm : GoodM m) (xs : List Gsp.Edge) (s : List Int) : ∀ k, aN m xs s k ≤ aD m xs s k
  | 0 => Nat.le_refl _
  | k + 1 => Nat.mul_le_mul (a_unit hm xs s k) (odds_unit hm _ _)
theorem oddsR_eq {m : MF} {xs : List Gsp.Edge} {a x : Int} (h : (oddsR m xs a x).2.2 = 0) : (costG xs a x).2.2 = 0 ∧ oddsR m xs a x = (lowF (aN m xs (costG xs a x).1 xs.length) (aD m xs (costG xs a x).1 xs.length), (costG xs a x).1.getD 0 0, 0) := by
  by_cases hc : (costG xs a x).2.2 = 0
  · exact ⟨hc, by unfold oddsR; rw [if_pos hc, accO_pr]⟩
  · unfold oddsR at h
    rw [if_neg hc] at h
    exact absurd h hc
theorem oddsR_of {m : MF} {xs : List Gsp.Edge} {a x : Int} (h : (costG xs a x).2.2 = 0) : oddsR m xs a x = (lowF (aN m xs (costG xs a x).1 xs.length) (aD m xs (costG xs a x).1 xs.length), (costG xs a x).1.getD 0 0, 0) := by
  unfold oddsR; rw [if_pos h, accO_pr]
theorem oddsR_err {m : MF} {xs : List Gsp.Edge} {a x : Int} : (oddsR m xs a x).2.2 = (costG xs a x).2.2 := by
  unfold oddsR
  split
  · rename_i h; exact h.symm
  · rfl
theorem oddsR_ok {m : MF} {xs : List Gsp.Edge} {a x : Int} (h : (oddsR m xs a x).2.2 = 0) : okF (oddsR m xs a x).1 := by
  rw [(oddsR_eq h).2]; exact okF_low (aD_pos _ _ _ _)
theorem oddsR_drop {m : MF} (hm : GoodM m) {xs : List Gsp.Edge} {a x : Int} (h : (oddsR m xs a x).2.2 = 0) {j : Nat} (hj : j < xs.length) :
    (oddsR m (xs.drop j) a x).2.2 = 0 ∧ leF (oddsR m xs a x).1 (oddsR m (xs.drop j) a x).1 := by
  obtain ⟨hc, he⟩ := oddsR_eq h
  have hd := costG_drop hc hj
  have hd0 : (costG (xs.drop j) a x).2.2 = 0 := by rw [hd]
  refine ⟨by rw [oddsR_err, hd0], ?_⟩
  rw [he, oddsR_of hd0, hd]
  simp only
  rw [le_low (aD_pos _ _ _ _) (aD_pos _ _ _ _), List.length_drop]
  have e1 := aN_drop m xs (costG xs a x).1 j (xs.length - j)
  have e2 := aD_drop m xs (costG xs a x).1 j (xs.length - j)
  rw [show j + (xs.length - j) = xs.length by omega] at e1 e2
  rw [e1, e2]
  have hu := a_unit hm xs (costG xs a x).1 j
  generalize aN m (xs.drop j) _ _ = p
  generalize aD m (xs.drop j) _ _ = q
  calc aN m xs (costG xs a x).1 j * p * q = aN m xs (costG xs a x).1 j * (p * q) := Nat.mul_assoc _ _ _
    _ ≤ aD m xs (costG xs a x).1 j * (p * q) := Nat.mul_le_mul_right _ hu
    _ = p * (aD m xs (costG xs a x).1 j * q) := by simp only [Nat.mul_assoc, Nat.mul_comm, Nat.mul_left_comm]
theorem leF_pos {a b : Fr} (hb : okF b) (h : leF a b) (hn : a.n ≠ 0) : b.n ≠ 0 := by
  intro h0
  unfold leF at h
  rw [h0, Nat.zero_mul] at h
  rcases Nat.mul_eq_zero.1 (Nat.le_zero.1 h) with k | k
  · exact hn k
  · exact absurd k (Nat.pos_iff_ne_zero.1 hb.1)
structure Cand (g : List Gsp.Edge) (m : MF) (fr to a x : Int) (w : List Gsp.Edge) : Prop where
  ne : w ≠ []
  sub : ∀ e ∈ w, e ∈ g
  fst : (w.getD 0 noEdge).f = fr
  lst : (w.getD (w.length - 1) noEdge).t = to
  ok : (oddsR m w a x).2.2 = 0
  pos : (oddsR m w a x).1.n ≠ 0
def fo (m : MF) (a x : Int) (w : List Gsp.Edge) : Fnd := fndR w (oddsR m w a x)
variable {g : List Gsp.Edge} {m : MF} {fr to a x : Int}
def BG (g : List Gsp.Edge) (m : MF) (fr to a x : Int) (b : Fnd) : Prop := b.way = [] ∨ (Cand g m fr to a x b.way ∧ b = fo m a x b.way)
def Geq (b c : Fnd) : Prop := b.way ≠ [] ∧ ordB b c ≤ 0
theorem Geq.trans {b c d : Fnd} (h : Geq b c) (k : ordB c d ≤ 0) : Geq b d := ⟨h.1, TP.ordB.trans _ _ _ h.2 k⟩
structure Spec (g : List Gsp.Edge) (m : MF) (fr to a x : Int) (W : List Gsp.Edge → Prop) (b b' : Fnd) : Prop where
  good : BG g m fr to a x b'
  up : b.way ≠ [] → Geq b' b
  all : ∀ w, Cand g m fr to a x w → W w → Geq b' (fo m a x w)
theorem Spec.same {W : List Gsp.Edge → Prop} {b : Fnd} (hb : BG g m fr to a x b) (h : ∀ w, Cand g m fr to a x w → W w → Geq b (fo m a x w)) : Spec g m fr to a x W b b := ⟨hb, fun h => ⟨h, Int.le_of_eq (TP.ordB.refl b)⟩, h⟩
theorem Spec.fold {α : Type} {f : Fnd → α → Fnd} {W : α → List Gsp.Edge → Prop} : ∀ (l : List α), (∀ e ∈ l, ∀ b, BG g m fr to a x b → Spec g m fr to a x (W e) b (f b e)) → ∀ b, BG g m fr to a x b → Spec g m fr to a x (fun w => ∃ e ∈ l, W e w) b (l.foldl f b)
  | [], _, b, hb => Spec.same hb (fun w _ h => by obtain ⟨e, he, _⟩ := h; cases he)
  | e :: l, h, b, hb => by
    have h1 := h e (List.mem_cons_self ..) b hb
    have h2 := Spec.fold l (fun e' he' => h e' (List.mem_cons_of_mem _ he')) (f b e) h1.good
    refine ⟨h2.good, fun hn => ?_, fun w hw hW => ?_⟩
    · have k1 := h1.up hn
      exact (h2.up k1.1).trans k1.2
    · obtain ⟨e', he', hw'⟩ := hW
      rcases List.mem_cons.1 he' with rfl | he'
      · have k1 := h1.all w hw hw'
        exact (h2.up k1.1).trans k1.2
      · exact h2.all w hw ⟨e', he', hw'⟩
def At (g : List Gsp.Edge) (to : Int) (way : List Gsp.Edge) (at_ : Int) : Prop := (∀ e ∈ way, e ∈ g) ∧ (way = [] → at_ = to) ∧ (way ≠ [] → (way.getD 0 noEdge).f = at_ ∧ (way.getD (way.length - 1) noEdge).t = to)
theorem getD_app (p q : List Gsp.Edge) (i : Nat) : (p ++ q).getD (p.length + i) noEdge = q.getD i noEdge := by
  simp [List.getD, List.getElem?_append_right]
theorem takF_oddsR {xs : List Gsp.Edge} (h : (oddsR m xs a x).2.2 = 0) : takF (oddsR m xs a x).1 = (oddsR m xs a x).1 := takF_id (oddsR_ok h)
theorem ordB_lt {u v : Fnd} (h : cmpF (takF u.odds) (takF v.odds) < 0) : ordB v u < 0 := by
  unfold ordB orL
  rw [if_pos (by omega)]
  exact h
theorem look_spec (hm : GoodM m) (hft : fr ≠ to) : ∀ (k : Nat) (way : List Gsp.Edge) (at_ : Int) (b : Fnd), way.length + k = 9 → 1 ≤ k → At g to way at_ → BG g m fr to a x b →
    Spec g m fr to a x (fun w => ∃ p, w = p ++ way) b (lookR g m fr to a x k way at_ b)
  | 0, _, _, _, _, h, _, _ => absurd h (by decide)
  | k + 1, way, at_, b, hk, _, hA, hb => by
    rw [lookR]
    have suf : ∀ w, Cand g m fr to a x w → (∃ p, w = p ++ way) → way ≠ [] → (oddsR m way a x).2.2 = 0 ∧ leF (oddsR m w a x).1 (oddsR m way a x).1 ∧ (oddsR m way a x).1.n ≠ 0 := by
      rintro w hw ⟨p, rfl⟩ hne
      have hl : p.length < (p ++ way).length := by rw [List.length_append]; have := List.length_pos_iff.2 hne; omega
      have hd := oddsR_drop hm hw.ok hl
      rw [List.drop_left] at hd
      exact ⟨hd.1, hd.2, leF_pos (oddsR_ok hd.1) hd.2 hw.pos⟩
    split
    · rename_i hc
      refine Spec.same hb fun w hw hW => ?_
      obtain ⟨s1, s2, s3⟩ := suf w hw hW hc.1
      rcases hc.2 with h | h | h
      · exact absurd s1 h
      · exact absurd h s3
      · refine ⟨h.1, Int.le_of_lt (ordB_lt ?_)⟩
        show cmpF (takF (oddsR m w a x).1) (takF b.odds) < 0
        have h2 := h.2
        rw [takF_oddsR s1] at h2
        rw [takF_oddsR hw.ok]
        rw [cmpF_neg, ltF_not] at h2 ⊢
        exact fun hh => h2 (leF_trans (oddsR_ok hw.ok).1 hh s2)
    · rename_i hc
      split
      · rename_i hat
        have hne : way ≠ [] := fun h => hft (hat.symm.trans (hA.2.1 h))
        have hcd : Cand g m fr to a x way := by
          refine ⟨hne, hA.1, (hA.2.2 hne).1.trans hat, (hA.2.2 hne).2, ?_, ?_⟩
          · exact Decidable.not_not.1 fun h => hc ⟨hne, .inl h⟩
          · exact fun h => hc ⟨hne, .inr (.inl h)⟩
        have only : ∀ w, Cand g m fr to a x w → (∃ p, w = p ++ way) → w = way := by
          rintro w hw ⟨p, rfl⟩
          cases p with
          | nil => rfl
          | cons e p =>
            exfalso
            have hw8 := (costG_inv (oddsR_err.symm.trans hw.ok)).1
            have hf := hw.fst
            have h2 : ((e :: p ++ way).getD (p.length + 1) noEdge).f = fr := by
              have := getD_app (e :: p) way 0
              rw [List.length_cons, Nat.add_zero] at this
              rw [this, (hA.2.2 hne).1, hat]
            have h3 := (way_once hw8 (j := 0) (i := p.length + 1) (by omega) (by simp only [List.length_append, List.length_cons]; have := List.length_pos_iff.2 hne; omega)).1
            rw [hf, h2] at h3
            exact h3 rfl
        split
        · rename_i hbb
          refine ⟨.inr ⟨hcd, rfl⟩, fun hn => ⟨hne, ?_⟩, fun w hw hW => ?_⟩
          · rcases hbb with h | h
            · exact absurd h hn
            · exact Int.le_of_lt (better_iff.1 h)
          · rw [only w hw hW]
            exact ⟨hne, Int.le_of_eq (TP.ordB.refl _)⟩
        · rename_i hbb
          refine Spec.same hb fun w hw hW => ?_
          rw [only w hw hW]
          refine ⟨fun h => hbb (.inl h), ?_⟩
          have h1 : ¬ ordB (fo m a x way) b < 0 := fun h => hbb (.inr (better_iff.2 h))
          have h2 := TP.ordB.anti (fo m a x way) b
          omega
      · rename_i hat
        have key : ∀ w, Cand g m fr to a x w → (∃ p, w = p ++ way) → ∃ p e, w = p ++ e :: way ∧ e ∈ inG g at_ ∧ skipR way to e = false ∧ way.length < 8 := by
          rintro w hw ⟨p, rfl⟩
          rcases List.eq_nil_or_concat p with rfl | ⟨p, e, rfl⟩
          · exfalso
            have h1 := hw.fst
            rw [List.nil_append] at h1
            exact hat ((hA.2.2 hw.ne).1.symm.trans h1)
          · rw [List.concat_eq_append, List.append_assoc, List.singleton_append] at hw ⊢
            have hw8 := (costG_inv (oddsR_err.symm.trans hw.ok)).1
            have hl8 := (wayG_len hw8).2
            simp only [List.length_append, List.length_cons] at hl8
            have ge : (p ++ e :: way).getD p.length noEdge = e := by
              have := getD_app p (e :: way) 0
              exact this
            have gn : ∀ i, (p ++ e :: way).getD (p.length + 1 + i) noEdge = way.getD i noEdge := by
              intro i
              have := getD_app p (e :: way) (1 + i)
              rw [← Nat.add_assoc] at this
              rw [this, Nat.add_comm 1 i]
              rfl
            have he : e.t = at_ := by
              by_cases hne : way = []
              · subst hne
                have := hw.lst
                rw [show (p ++ [e]).length - 1 = p.length by simp] at this
                rw [ge] at this
                rw [this, hA.2.1 rfl]
              · have := (wayG_at hw8 (i := p.length + 1) (by simp only [List.length_append, List.length_cons]; have := List.length_pos_iff.2 hne; omega)).2.1 (by omega)
                rw [show p.length + 1 - 1 = p.length by omega, ge, gn 0, (hA.2.2 hne).1] at this
                exact this
            refine ⟨p, e, rfl, List.mem_filter.2 ⟨hw.sub e (by simp), decide_eq_true he⟩, ?_, by omega⟩
            unfold skipR
            rw [Bool.or_eq_false_iff]
            constructor
            · refine decide_eq_false fun hto => ?_
              have h1 := (wayG_at hw8 (i := (p ++ e :: way).length - 1) (by simp)).2.2 p.length (by simp)
              rw [ge, hw.lst] at h1
              exact h1 hto
            · rw [List.any_eq_false]
              intro y hy
              obtain ⟨i, hi, hyi⟩ := List.mem_iff_getElem.1 hy
              have h1 := (way_once hw8 (j := p.length) (i := p.length + 1 + i) (by omega) (by simp only [List.length_append, List.length_cons]; omega)).1
              rw [ge, gn i] at h1
              have h2 : way.getD i noEdge = y := by simp [List.getD, hi, hyi]
              rw [h2] at h1
              simpa using fun h => h1 h.symm
        split
        · rename_i h8
          refine Spec.same hb fun w hw hW => ?_
          obtain ⟨_, _, _, _, _, hlt⟩ := key w hw hW
          omega
        · rename_i h8
          have hfold := Spec.fold (g := g) (m := m) (fr := fr) (to := to) (a := a) (x := x) (f := stepR (lookR g m fr to a x k) way to) (W := fun e w => skipR way to e = false ∧ ∃ p, w = p ++ e :: way) (inG g at_) (fun e he b' hb' => by
            unfold stepR
            split
            · rename_i hsk
              exact Spec.same hb' fun w _ hW => by rw [hsk] at hW; exact absurd hW.1 (by decide)
            · rename_i hsk
              obtain ⟨he1, he2⟩ := List.mem_filter.1 he
              have het : e.t = at_ := of_decide_eq_true he2
              have hA' : At g to (e :: way) e.f := by
                refine ⟨fun y hy => ?_, fun h => by simp at h, fun _ => ⟨rfl, ?_⟩⟩
                · rcases List.mem_cons.1 hy with rfl | hy
                  · exact he1
                  · exact hA.1 y hy
                · by_cases hne : way = []
                  · subst hne
                    show e.t = to
                    rw [het, hA.2.1 rfl]
                  · have hl := List.length_pos_iff.2 hne
                    rw [List.length_cons, Nat.add_sub_cancel, show way.length = (way.length - 1) + 1 by omega]
                    exact (hA.2.2 hne).2
              have hr := look_spec hm hft k (e :: way) e.f b' (by rw [List.length_cons]; omega) (by omega) hA' hb'
              exact ⟨hr.good, hr.up, fun w hw hW => hr.all w hw hW.2⟩) b hb
          exact ⟨hfold.good, hfold.up, fun w hw hW => by
            obtain ⟨p, e, h1, h2, h3, _⟩ := key w hw hW
            exact hfold.all w hw ⟨e, h2, h3, p, h1⟩⟩
theorem bad_T (h : badR g fr to a x = false) : rightG g = true ∧ (0 ≤ fr ∧ fr ≤ 11) ∧ (0 ≤ to ∧ to ≤ 11) ∧ fr ≠ to ∧ (1 ≤ a ∧ a ≤ 1125899906842624) ∧ 1 ≤ x ∧ x ≤ 1048576 := by
  unfold badR at h
  simp only [Bool.or_eq_false_iff, Bool.not_eq_false', decide_eq_false_iff_not] at h
  obtain ⟨⟨⟨⟨⟨h1, h2⟩, h3⟩, h4⟩, h5⟩, h6⟩ := h
  exact ⟨h1, inB_T h2, inB_T h3, h4, inB_T h5, inB_T h6⟩
theorem best_spec (hm : GoodM m) (hft : fr ≠ to) : Spec g m fr to a x (fun _ => True) noFnd (lookR g m fr to a x 9 [] to noFnd) := by
  have h := look_spec (g := g) (a := a) (x := x) hm hft 9 [] to noFnd rfl (by decide) ⟨fun e he => (by cases he), fun _ => rfl, fun h => absurd rfl h⟩ (.inl rfl)
  exact ⟨h.good, h.up, fun w hw _ => h.all w hw ⟨w, (List.append_nil w).symm⟩⟩
theorem bestR_ok (hm : GoodM m) (h : (bestR g m fr to a x).2.2 = 0) : badR g fr to a x = false ∧ Cand g m fr to a x (bestR g m fr to a x).1 ∧ (bestR g m fr to a x).2.1 = (oddsR m (bestR g m fr to a x).1 a x).1 ∧
    ∀ w, Cand g m fr to a x w → ordB (fo m a x (bestR g m fr to a x).1) (fo m a x w) ≤ 0 := by
  have hb : badR g fr to a x = false := by
    cases hb : badR g fr to a x
    · rfl
    · unfold bestR at h; rw [if_pos hb] at h; exact absurd h (by decide)
  have hs := best_spec (g := g) (a := a) (x := x) hm (bad_T hb).2.2.2.1
  unfold bestR at h ⊢
  rw [if_neg (by rw [hb]; decide)] at h ⊢
  split at h
  · exact absurd h (by decide)
  · rename_i hne
    rw [if_neg hne]
    rcases hs.good with k | ⟨k1, k2⟩
    · exact absurd k hne
    · refine ⟨hb, k1, ?_, fun w hw => ?_⟩
      · show (lookR g m fr to a x 9 [] to noFnd).odds = _
        exact congrArg Fnd.odds k2
      · have := (hs.all w hw trivial).2
        rw [k2] at this
        exact this
theorem bestR_no (hm : GoodM m) (hb : badR g fr to a x = false) (h : (bestR g m fr to a x).2.2 ≠ 0) : bestR g m fr to a x = ([], ⟨0, 0⟩, 19) ∧ ∀ w, ¬ Cand g m fr to a x w := by
  have hs := best_spec (g := g) (a := a) (x := x) hm (bad_T hb).2.2.2.1
  unfold bestR at h ⊢
  rw [if_neg (by rw [hb]; decide)] at h ⊢
  split at h
  · rename_i hn
    rw [if_pos hn]
    exact ⟨rfl, fun w hw => (hs.all w hw trivial).1 hn⟩
  · exact absurd rfl h
theorem bestR_bad (hb : badR g fr to a x = true) : bestR g m fr to a x = ([], ⟨0, 0⟩, 1) := by unfold bestR; rw [if_pos hb]
end Go.Rtp

namespace Go.Rtp
open Go.Gsp Go.Nsp Go.Msp Go.Proofs.YtmkdeemjkcigkaaGreatDoor
def EdP (p q : Gsp.Edge) : Prop := (p.c < q.c ∨ (p.c = q.c ∧ p.f < q.f)) ∧ (p.c = q.c → p.f = q.t ∧ p.t = q.f ∧ p.r = q.r)
theorem ordE_lt {p q : Gsp.Edge} : ordE p q < 0 ↔ p.c < q.c ∨ (p.c = q.c ∧ p.f < q.f) := by
  unfold ordE cmpI
  repeat' split
  all_goals omega
theorem right_pw {l : List Gsp.Edge} (h : rightG l = true) : (∀ i, i < l.length → edgeOk (l.getD i noEdge) = true) ∧ ∀ i j, i < j → j < l.length → EdP (l.getD i noEdge) (l.getD j noEdge) := by
  have hp : RightP l := of_decide_eq_true h
  have ho : ∀ d i, i + d + 1 < l.length → (l.getD i noEdge).c < (l.getD (i + d + 1) noEdge).c ∨ ((l.getD i noEdge).c = (l.getD (i + d + 1) noEdge).c ∧ (l.getD i noEdge).f < (l.getD (i + d + 1) noEdge).f) := by
    intro d
    induction d with
    | zero => intro i hi; exact ordE_lt.1 ((hp (i + 1) hi).2.1 (by omega))
    | succ d ih =>
      intro i hi
      have h1 := ih i (by omega)
      have h2 := ordE_lt.1 ((hp (i + d + 1 + 1) hi).2.1 (by omega))
      rw [show i + d + 1 + 1 - 1 = i + d + 1 by omega] at h2
      rw [show i + (d + 1) + 1 = i + d + 1 + 1 by omega]
      omega
  have ho' : ∀ i j, i < j → j < l.length → (l.getD i noEdge).c < (l.getD j noEdge).c ∨ ((l.getD i noEdge).c = (l.getD j noEdge).c ∧ (l.getD i noEdge).f < (l.getD j noEdge).f) := by
    intro i j hij hj
    have := ho (j - i - 1) i (by omega)
    rwa [show i + (j - i - 1) + 1 = j by omega] at this
  refine ⟨fun i hi => (hp i hi).1, fun i j hij hj => ⟨ho' i j hij hj, fun hc => ?_⟩⟩
  have h3 := (hp j hj).2.2
  by_cases hn : j = i + 1
  · subst hn
    exact ⟨(h3 ⟨by omega, hc⟩).2.1, (h3 ⟨by omega, hc⟩).2.2.1, (h3 ⟨by omega, hc⟩).2.2.2⟩
  · exfalso
    have a1 := ho' i (j - 1) (by omega) (by omega)
    have a2 := ho' (j - 1) j (by omega) (by omega)
    have a3 : (l.getD i noEdge).c ≤ (l.getD (j - 2) noEdge).c := by
      by_cases h0 : i = j - 2
      · rw [h0]; exact Int.le_refl _
      · have := ho' i (j - 2) (by omega) (by omega); omega
    have a4 := ho' (j - 2) (j - 1) (by omega) (by omega)
    exact (h3 ⟨by omega, by omega⟩).1 ⟨by omega, by omega⟩
theorem right_of_pw {l : List Gsp.Edge} (h1 : ∀ i, i < l.length → edgeOk (l.getD i noEdge) = true) (h2 : ∀ i j, i < j → j < l.length → EdP (l.getD i noEdge) (l.getD j noEdge)) : rightG l = true := by
  refine decide_eq_true (fun i hi => ⟨h1 i hi, fun h0 => ordE_lt.2 (h2 (i - 1) i (by omega) hi).1, fun ⟨h0, hc⟩ => ⟨fun ⟨k1, k2⟩ => ?_, (h2 (i - 1) i (by omega) hi).2 hc⟩⟩)
  have g1 := h2 (i - 2) (i - 1) (by omega) (by omega)
  have g2 := (h2 (i - 1) i (by omega) hi).2 hc
  have g3 := (h2 (i - 2) i (by omega) hi).1
  have g4 := g1.2 (k2.trans hc.symm)
  clear h1 h2
  omega
def lessG (g : List Gsp.Edge) (k : Nat) : List Gsp.Edge := g.take k ++ g.drop (k + 1)
theorem lessG_sub {g : List Gsp.Edge} {k : Nat} {e : Gsp.Edge} (h : e ∈ lessG g k) : e ∈ g := by
  rcases List.mem_append.1 h with h | h
  · exact List.mem_of_mem_take h
  · exact List.mem_of_mem_drop h
theorem lessG_mem {g : List Gsp.Edge} {k : Nat} (hk : k < g.length) {e : Gsp.Edge} (h : e ∈ g) (hn : e ≠ g.getD k noEdge) : e ∈ lessG g k := by
  obtain ⟨i, hi, rfl⟩ := List.mem_iff_getElem.1 h
  rcases Nat.lt_trichotomy i k with h1 | h1 | h1
  · exact List.mem_append_left _ (List.mem_take_iff_getElem.2 ⟨i, by omega, rfl⟩)
  · subst h1; exact absurd (by simp [List.getD, hi]) hn
  · refine List.mem_append_right _ (List.mem_drop_iff_getElem.2 ⟨i - (k + 1), by omega, ?_⟩)
    congr 1; omega
theorem right_uniq {g : List Gsp.Edge} (h : rightG g = true) {p q : Gsp.Edge} (hp : p ∈ g) (hq : q ∈ g) (hc : p.c = q.c) (hf : p.f = q.f) : p = q := by
  obtain ⟨_, h2⟩ := right_pw h
  obtain ⟨i, hi, rfl⟩ := List.mem_iff_getElem.1 hp
  obtain ⟨j, hj, rfl⟩ := List.mem_iff_getElem.1 hq
  have e1 : g.getD i noEdge = g[i] := by simp [List.getD, hi]
  have e2 : g.getD j noEdge = g[j] := by simp [List.getD, hj]
  rcases Nat.lt_trichotomy i j with k | k | k
  · have := (h2 i j k hj).1; rw [e1, e2] at this; omega
  · subst k; rfl
  · have := (h2 j i k hi).1; rw [e1, e2] at this; omega
theorem rows_uniq {g : List Gsp.Edge} (h : rightG g = true) : ∀ u v : List Gsp.Edge, rowsC u v = 0 → (∀ e ∈ u, e ∈ g) → (∀ e ∈ v, e ∈ g) →
    (∀ i, i + 1 < u.length → (u.getD i noEdge).t = (u.getD (i + 1) noEdge).f) → (∀ i, i + 1 < v.length → (v.getD i noEdge).t = (v.getD (i + 1) noEdge).f) → (u ≠ [] → v ≠ [] → (u.getD 0 noEdge).f = (v.getD 0 noEdge).f) → u = v
  | [], [], _, _, _, _, _, _ => rfl
  | [], _ :: _, h0, _, _, _, _, _ => absurd h0 (by show ¬ (-1 : Int) = 0; decide)
  | _ :: _, [], h0, _, _, _, _, _ => absurd h0 (by show ¬ (1 : Int) = 0; decide)
  | p :: u, q :: v, h0, hu, hv, cu, cv, hf => by
    unfold rowsC at h0
    split at h0
    · rename_i hc; exact absurd h0 hc
    · rename_i hc
      have hcc : p.c = q.c := by
        have := Decidable.not_not.1 hc
        unfold cmpI at this
        split at this <;> (try split at this) <;> omega
      have hpq : p = q := right_uniq h (hu p (List.mem_cons_self ..)) (hv q (List.mem_cons_self ..)) hcc (hf (by simp) (by simp))
      subst hpq
      rw [rows_uniq h u v h0 (fun e he => hu e (List.mem_cons_of_mem _ he)) (fun e he => hv e (List.mem_cons_of_mem _ he)) (fun i hi => cu (i + 1) (by simp; omega)) (fun i hi => cv (i + 1) (by simp; omega)) (fun h1 h2 => by
        have k1 := cu 0 (by have := List.length_pos_iff.2 h1; simp; omega)
        have k2 := cv 0 (by have := List.length_pos_iff.2 h2; simp; omega)
        exact k1.symm.trans k2)]
theorem way_chain {w : List Gsp.Edge} (h : wayG w = true) (i : Nat) (hi : i + 1 < w.length) : (w.getD i noEdge).t = (w.getD (i + 1) noEdge).f := (wayG_at h hi).2.1 (by omega)
variable {g : List Gsp.Edge} {m : MF} {fr to a x : Int}
theorem Cand.way {w : List Gsp.Edge} (h : Cand g m fr to a x w) : wayG w = true := (costG_inv (oddsR_err.symm.trans h.ok)).1
theorem ordB_zero {u v : Fnd} (h : ordB u v = 0) : cmpF (takF v.odds) (takF u.odds) = 0 ∧ cmpI u.sent v.sent = 0 ∧ rowsC u.way v.way = 0 := by
  unfold ordB at h
  simp only [orL] at h
  split at h
  · contradiction
  · split at h
    · contradiction
    · split at h
      · contradiction
      · rename_i h1 h2 h3
        exact ⟨Decidable.not_not.1 h1, Decidable.not_not.1 h2, Decidable.not_not.1 h3⟩
theorem cand_uniq (hg : rightG g = true) {u v : List Gsp.Edge} (hu : Cand g m fr to a x u) (hv : Cand g m fr to a x v) (h1 : ordB (fo m a x u) (fo m a x v) ≤ 0) (h2 : ordB (fo m a x v) (fo m a x u) ≤ 0) : u = v := by
  have ha := TP.ordB.anti (fo m a x u) (fo m a x v)
  exact rows_uniq hg u v (ordB_zero (show ordB (fo m a x u) (fo m a x v) = 0 by omega)).2.2 hu.sub hv.sub (way_chain hu.way) (way_chain hv.way) (fun _ _ => hu.fst.trans hv.fst.symm)
theorem Cand.less {k : Nat} (hk : k < g.length) {w : List Gsp.Edge} (h : Cand (lessG g k) m fr to a x w) : Cand g m fr to a x w := ⟨h.ne, fun e he => lessG_sub (h.sub e he), h.fst, h.lst, h.ok, h.pos⟩
theorem Cand.more {k : Nat} (hk : k < g.length) {w : List Gsp.Edge} (h : Cand g m fr to a x w) (hn : ∀ e ∈ w, e ≠ g.getD k noEdge) : Cand (lessG g k) m fr to a x w := ⟨h.ne, fun e he => lessG_mem hk (h.sub e he) (hn e he), h.fst, h.lst, h.ok, h.pos⟩
theorem bestR_errs (hm : GoodM m) : (bestR g m fr to a x).2.2 = 0 ∨ bestR g m fr to a x = ([], ⟨0, 0⟩, 1) ∨ bestR g m fr to a x = ([], ⟨0, 0⟩, 19) := by
  by_cases h : (bestR g m fr to a x).2.2 = 0
  · exact .inl h
  · cases hb : badR g fr to a x
    · exact .inr (.inr (bestR_no hm hb h).1)
    · exact .inr (.inl (bestR_bad hb))
theorem Cand.some {w : List Gsp.Edge} (hc : (costG w a x).2.2 = 0) {i : Nat} (hi : i < w.length) : someM (w.getD i noEdge) ((costG w a x).1.getD i 0) = true := by
  have h := costs_of hc
  have h1 := h.ge (w.length - 1 - i) i (by omega)
  have h2 := h.room i hi
  have hok := edgeOk_T (wayG_at h.way hi).1
  have := h.amt
  simp only [someM, mayM, ptyB, Bool.and_eq_true, decide_eq_true_eq]
  omega
theorem lowF_zero {d : Nat} (h : 0 < d) : lowF 0 d = ⟨0, 1⟩ := by
  unfold lowF
  rw [Nat.gcd_zero_left, Nat.zero_div, Nat.div_self h]
structure Kn where
  p : Int
  d : Int
  a : Int
def noKn : Kn := ⟨0, 0, 0⟩
def mindS (g : List Gsp.Edge) (m : MF) (q : Kn) : MF :=
  if q.p < 0 ∨ (g.length : Int) ≤ q.p then m else if q.d % 2 = 0 then failM m (g.getD q.p.toNat noEdge) q.a else passM m (g.getD q.p.toNat noEdge) q.a
def mindG (g : List Gsp.Edge) (l : List Kn) : MF := l.foldl (mindS g) (fun _ => none)
theorem mindS_good (hm : GoodM m) (q : Kn) : GoodM (mindS g m q) := by
  unfold mindS
  split
  · exact hm
  · split
    · exact failM_good hm _ _
    · exact passM_good hm _ _
theorem none_good : GoodM (fun _ => none) := fun _ _ h => by cases h
theorem mindG_good (g : List Gsp.Edge) : ∀ (l : List Kn) (m : MF), GoodM m → GoodM (l.foldl (mindS g) m)
  | [], _, h => h
  | q :: l, m, h => mindG_good g l _ (mindS_good h q)
def rowG (g : List Gsp.Edge) (p : Int) : List Gsp.Edge := if 0 ≤ p ∧ p < g.length then [g.getD p.toNat noEdge] else []
def rowsG (g : List Gsp.Edge) (ps : List Int) : List Gsp.Edge := ps.flatMap (rowG g)
theorem rowsG_len {g : List Gsp.Edge} : ∀ ps : List Int, (rowsG g ps).length ≤ ps.length
  | [] => Nat.le_refl _
  | p :: ps => by
    have := rowsG_len (g := g) ps
    have h1 : (rowG g p).length ≤ 1 := by unfold rowG; split <;> simp
    show (rowG g p ++ rowsG g ps).length ≤ _
    rw [List.length_append, List.length_cons]
    omega
end Go.Rtp

namespace Go.Proofs.YtmkdeemjkcigkaaGreatDoor
open Go Go.Sx Go.Nsp
set_option maxRecDepth 20000
theorem digs_inj {a b : Nat} (h : digs a = digs b) : a = b := by
  have := congrArg val h
  rwa [val_digs, val_digs] at this
theorem nats_ok {A A2 : Option Addr} {n c n2 c2 p q : Nat} (w : World) (hV : Vec w dv 1 A n (digs p)) (hW : Vec w dv 1 A2 n2 (digs q)) (hn : n ≤ 1000000) : Calls Tryz.prog 51 #[.slice A n c, .slice A2 n2 c2] w fun r w' => r = .returned (.bool (decide (p = q))) ∧ Le w w' := by
 have hl := hV.1; have hl2 := hW.1
 refine enter Tryz.func51 rfl rfl ?_
 have L0 := Le.refl w
 refine WC.sr (W.run 1 rfl (W.nx (WC.seq (WC.sr (W.run 1 rfl ?_)))))
 refine W.r (.len Tryz.underlying31 rfl) ?_
 refine W.run 1 rfl ?_
 refine W.r (.len Tryz.underlying31 rfl) ?_
 refine W.run 1 rfl (W.nx ?_)
 by_cases c0 : ((n : Nat) : Int) ≠ ((n2 : Nat) : Int)
 ·refine WC.condY rfl (decide_eq_true c0) ?_
  refine WC.sr (W.run 1 rfl (W.nx (WC.ret (E.thenR ?_))))
  refine E.retG1 rfl rfl ?_
  exact ⟨rB (decide_eq_false (fun h => by subst h; omega)).symm, L0⟩
 refine WC.condN rfl (decide_eq_false c0) ?_
 refine WC.sn (WC.seq (WC.sr (W.run 1 rfl (W.nx (WC.block ?_)))))
 refine WC.loop (ι := Nat) (fun k => [(0, .slice A n c), (1, .slice A2 n2 c2), (5, .int .i64 (((k : Nat) : Int)))]) (fun k wl0 => (k ≤ n) ∧ (∀ j, j < k → (digs p).getD j 0 = (digs q).getD j 0) ∧ Le w wl0 ∧ w.heap.size ≤ wl0.heap.size) (fun k => n - k) 0 ?_ ?_ ?_
 ·exact .cons rfl (.cons rfl (.cons rfl (.nil _)))
 ·exact ⟨Nat.zero_le _, fun j hj => absurd hj (Nat.not_lt_zero _), L0, Nat.le_refl _⟩
 rintro k wl0 ⟨hk, hz, Ll0, zl0⟩
 refine WC.seq (WC.sr (W.run 2 rfl ?_))
 refine W.r (.len Tryz.underlying31 rfl) ?_
 refine W.run 1 rfl (W.nx ?_)
 by_cases c1 : ((k : Nat) : Int) < ((n : Nat) : Int)
 ·refine WC.condY rfl (decide_eq_true c1) ?_
  refine WC.sn (WC.seq (WC.block (WC.seq ?_)))
  refine WC.draw [0, 1, 2, 3, 4, 5, 6, 7, 8] mixed (by kernel_rfl) ?_
  intro w6 d6
  have L1 := Ll0.trans d6
  refine G.run 2 rfl ?_
  refine G.a rfl (.idxS (k) Tryz.underlying31 sz122 rfl rfl (hV.isSome dv_row (by omega)) (rfl) (by omega)) ?_
  refine G.r rfl (.vone (v := .int .u32 (((((digs p).getD k 0) : Nat) : Int))) na122 rfl (hV.le L1) dv_row (getS (digs p) 0 (by first | omega | (simp only [List.length_cons, List.length_nil]; omega))) rfl) ?_
  refine G.run 2 rfl ?_
  refine G.a rfl (.idxS (k) Tryz.underlying31 sz122 rfl rfl (hW.isSome dv_row (by omega)) (rfl) (by omega)) ?_
  refine G.r rfl (.vone (v := .int .u32 (((((digs q).getD k 0) : Nat) : Int))) na122 rfl (hW.le L1) dv_row (getS (digs q) 0 (by first | omega | (simp only [List.length_cons, List.length_nil]; omega))) rfl) ?_
  refine G.run 1 rfl (G.nil (E.thenN ?_))
  by_cases c2 : ((((digs p).getD k 0) : Nat) : Int) ≠ ((((digs q).getD k 0) : Nat) : Int)
  ·refine WC.condY rfl (decide_eq_true c2) ?_
   refine WC.sr (W.run 1 rfl (W.nx (WC.ret (E.blkR (E.thenR (E.thenR (E.blkR (E.thenR ?_))))))))
   refine E.retG1 rfl rfl ?_
   exact ⟨rB (decide_eq_false (fun h => by subst h; omega)).symm, L1⟩
  refine WC.condN rfl (decide_eq_false c2) ?_
  refine WC.skip (E.blkN (E.thenN (WC.region (W.run 1 rfl ?_))))
  refine W.a (.add rfl rfl (by omega)) ?_
  refine W.run 1 rfl (W.nil ?_)
  refine E.again (k + 1) (.cons rfl (.cons rfl (.cons rfl (.nil _)))) ?_ ?_
  ·exact ⟨by omega, fun j hj => by rcases Nat.lt_or_ge j k with h | h; exact hz j h; rw [show j = k by omega]; omega, L1, by have := zl0; have := d6.size; omega⟩
  first | omega | (simp only []; omega)
 refine WC.condN rfl (decide_eq_false c1) ?_
 refine WC.exit (E.thenX (E.thenX (E.blkH (E.thenN (WC.sr (W.run 1 rfl (W.nx (WC.ret ?_))))))))
 refine E.retG1 rfl rfl ?_
 exact ⟨rB (decide_eq_true (digs_inj (ext_getD (by omega) (fun j hj => hz j (by omega))))).symm, Ll0⟩

theorem samef_ok {An1 Ad1 : Option Addr} {nn1 cn1 nd1 cd1 p1 q1 : Nat} {An2 Ad2 : Option Addr} {nn2 cn2 nd2 cd2 p2 q2 : Nat} (w : World) (hn1 : Vec w dv 1 An1 nn1 (digs p1)) (hd1 : Vec w dv 1 Ad1 nd1 (digs q1)) (bn1 : nn1 ≤ 10000) (bd1 : nd1 ≤ 10000) (hn2 : Vec w dv 1 An2 nn2 (digs p2)) (hd2 : Vec w dv 1 Ad2 nd2 (digs q2)) (bn2 : nn2 ≤ 10000) (bd2 : nd2 ≤ 10000) : Calls Tryz.prog 17 #[.agg #[.slice An1 nn1 cn1, .slice Ad1 nd1 cd1], .agg #[.slice An2 nn2 cn2, .slice Ad2 nd2 cd2]] w fun r w' => r = .returned (.bool (decide ((⟨p1, q1⟩ : Fr) = ⟨p2, q2⟩))) ∧ Le w w' := by
 have hln1 := hn1.1; have hld1 := hd1.1
 have hln2 := hn2.1; have hld2 := hd2.1
 refine enter Tryz.func17 rfl rfl ?_
 have L0 := Le.refl w
 refine WC.sr (W.ef rfl rfl rfl ?_)
 refine Ef.boxA rfl ?_
 intro g0_0 w0_0 hg0_0 b0_0 h0_0
 have L1 := L0.trans h0_0
 have b0_0 : Blk w0_0 g0_0 33 #[.slice An1 nn1 cn1, .slice Ad1 nd1 cd1] := b0_0
 refine W.ef rfl rfl rfl ?_
 refine Ef.boxA rfl ?_
 intro g0_1 w0_1 hg0_1 b0_1 h0_1
 have L2 := L1.trans h0_1
 have b0_1 : Blk w0_1 g0_1 33 #[.slice An2 nn2 cn2, .slice Ad2 nd2 cd2] := b0_1
 refine W.run 1 rfl (W.nx (WC.sr ?_))
 refine W.a (.field0 fa33_0 rfl) ?_
 have f3 := (b0_0.le h0_1)
 refine W.r (.loadB (v := .slice An1 nn1 cn1) na31 rfl f3 rfl) ?_
 refine W.a (.field0 fa33_0 rfl) ?_
 refine W.r (.loadB (v := .slice An2 nn2 cn2) na31 rfl b0_1 rfl) ?_
 refine W.cl go51 rfl rfl (nats_ok w0_1 (hn1.le L2) (hn2.le L2) (by omega)) ?_
 rintro _ w1_4 ⟨rfl, h1_4⟩
 have L4 := L2.trans h1_4
 by_cases q1_5 : p1 = p2
 ·refine W.dt q1_5 rfl rfl ?_
  refine W.g (Any.rd (.field0 fa33_1 rfl) _) ?_
  have f5 := (f3.le h1_4)
  refine W.g (.loadB (v := .slice Ad1 nd1 cd1) na31 rfl f5 rfl) ?_
  refine W.g (Any.rd (.field0 fa33_1 rfl) _) ?_
  have f6 := (b0_1.le h1_4)
  refine W.g (.loadB (v := .slice Ad2 nd2 cd2) na31 rfl f6 rfl) ?_
  refine W.efg rfl rfl rfl (rfl) rfl rfl ?_
  refine Ef.call go51 rfl rfl (nats_ok w1_4 (hd1.le L4) (hd2.le L4) (by omega)) ?_
  rintro _ w1_10 ⟨rfl, h1_10⟩
  refine ⟨_, rfl, ?_⟩
  have L7 := L4.trans h1_10
  refine W.run 2 rfl (W.nx (WC.ret ?_))
  refine E.retG1 rfl rfl ?_
  exact ⟨rB (by simp [q1_5]), L7⟩
 refine W.df q1_5 rfl rfl (W.run 7 rfl (W.nx (WC.ret ?_)))
 refine E.retG1 rfl rfl ?_
 exact ⟨rB (by simp [q1_5]), L4⟩
end Go.Proofs.YtmkdeemjkcigkaaGreatDoor

