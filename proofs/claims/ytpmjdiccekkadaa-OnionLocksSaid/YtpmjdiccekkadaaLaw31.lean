/- The statements of layer 31: the small case, walked. -/
import Derived.Test.YtpmjdiccekkadaaLaw32f
import Derived.Test.YtpmjdiccekkadaaSeen
import Derived.Test.YtpmjdiccekkadaaOsp4
namespace Go.Proofs.Ytpmjdiccekkadaa
open Go Go.Sx Go.Hsp Go.Num Go.Osp
set_option maxRecDepth 20000
theorem kS9_len : (kS 9).length = 32 := rfl
theorem wrap_F (seed : List Byte) (hse : seed.length = 32) {A Ah : Option Addr} {n c nh ch : Nat} {ks : List Nat} {hs : List Hop} (w : World) (hK : Sl w 1 A n (ks.map pv)) (hks : ∀ k ∈ ks, k < 18446744073709551616) (hn : n ≤ 1000000) (hH : Rws w 6 Ah nh (hs.map hopV)) (hhs : ∀ h ∈ hs, HopOk h) (hnh : nh ≤ 1000000) (hok : (keysOk ks && hopsOk ks hs) = false) :
    Calls Try.prog 27 #[.slice A n c, .slice Ah nh ch, .agg (seed.map u8v).toArray] w fun e w' => e = .returned (.tuple #[.slice none 0 0, .int .i64 1]) ∧ Le w w' :=
  (wrap_ok seed hse w hK hks hn hH hhs hnh).mono fun e w' ⟨hl, h⟩ => by
    rcases h with ⟨h, _⟩ | ⟨_, rfl⟩
    · rw [hok] at h; cases h
    · exact ⟨rfl, hl⟩
theorem notNil {P : Program} {env : Env} {n : Nat} {d : Option Nat} {T : TypeId} {p : String} {af : Array Edge} {g : Option (Nat × Bool)} {t e ty : TypeId} {x : Operand} {ad : Addr} (ht : P.underlying t = some (.pointer e)) (hx : ev env x = some (.pointer (some ad))) :
    Any P env n ⟨d, .binOp .eql t x (.const (.pointer none)) ty, T, p, af, g⟩ (.bool false) :=
  .bin hx rfl (fun _ => rfl) fun w => by
    have h : (Op.equalIn (9999 + 1) t (.pointer (some ad)) (.pointer none)).run P w = .ok false w := by
      rw [Op.equalIn]
      simp [run_underlying ht]
    have e : (binOp .eql t (.pointer (some ad)) (.pointer none)).run P w = ((Op.equalIn 10000 t (.pointer (some ad)) (.pointer none)).run P w).andThen fun b w' => .ok (.bool b) w' := by
      simp only [binOp]
      simp [Op.equal, Op.maxDepth]
    rw [e, h]
    rfl
theorem rows_two {w : World} {gb : Nat} {t : TypeId} (a b : Hop) (h : Blk w gb t (flatV [.agg (hopV a).toArray, .agg (hopV b).toArray]).toArray) : Rws w 6 (some ⟨gb, 0, none⟩) 2 ([a, b].map hopV) :=
  ⟨rfl, fun r hr => by simp at hr; rcases hr with rfl | rfl <;> rfl, by have := h.sl (s := 6) (n := 2) rfl; simpa [flatV, Value.cells] using this⟩

theorem hop_okb (nx : Int) (m b : Nat) (hm : m ≤ 100) (hb : base m = b) (w : World) : Calls Try.prog 58 #[.int .i64 nx, .int .i64 (m : Int)] w fun e w' => e = .returned (.agg (hopV (nx, (m : Int), 1000 + (m : Int), 50 + (m : Int), b, m)).toArray) ∧ Le w w' := by
  refine enter Try.func58 rfl rfl ?_
  have L0 := Le.refl w
  refine WC.seq ?_
  refine WC.region ?_
  refine W.ef rfl rfl rfl ?_
  refine Ef.allocA z51 ?_
  intro g0_0 w0_0 hg0_0 b0_0 h0_0
  have L0_0 := L0.trans h0_0
  refine W.nil ?_
  refine E.thenN ?_
  refine WC.seq ?_
  refine WC.region ?_
  refine W.any (.move rfl) rfl rfl rfl ?_
  refine W.any (.move rfl) rfl rfl rfl ?_
  refine W.any (.move rfl) rfl rfl rfl ?_
  refine W.any (.add rfl rfl (by omega)) rfl rfl rfl ?_
  refine W.any (.move rfl) rfl rfl rfl ?_
  refine W.any (.add rfl rfl (by omega)) rfl rfl rfl ?_
  refine W.any (.move rfl) rfl rfl rfl ?_
  refine W.rd (.idI (isS Try.underlying3) Try.underlying48 rfl (IntWalk.u64_in _ (by omega))) rfl rfl rfl ?_
  refine W.ef rfl rfl rfl ?_
  refine Ef.call go33 rfl rfl (base_ok m w0_0) ?_
  rintro _ w1_8 ⟨e, h1_8⟩
  rw [hb] at e; subst e
  refine ⟨_, rfl, ?_⟩
  have L1_8 := L0_0.trans h1_8
  refine W.any (.move rfl) rfl rfl rfl ?_
  refine W.rd (.idI (isS Try.underlying3) Try.underlying48 rfl (IntWalk.u64_in _ (by omega))) rfl rfl rfl ?_
  refine W.any (.as (Any.buildAll (hopV (nx, (m : Int), 1000 + (m : Int), 50 + (m : Int), b, m)) pl51 z51 rfl ⟨rfl, rfl, rfl, rfl, rfl, rfl, trivial⟩ rfl) (by rw [flatV_one _ (hopV_one _)])) rfl rfl rfl ?_
  refine W.ef0 rfl rfl ?_
  refine Ef.storeAll sz51 (by rfl) rfl rfl (b0_0.le h1_8) (by rfl) (hopV_one _) ?_
  intro w1_12 b1_12 h1_12
  have L1_12 : Le w w1_12 := L1_8.then_ h1_12 (fun q hq => by cases hq; exact hg0_0)
  refine W.nil ?_
  refine E.thenN ?_
  refine WC.ret ?_
  refine E.retC rfl rfl b1_12 ag51 (by rfl) ?_
  exact ⟨rfl, L1_12⟩

theorem hop_ok (nx : Int) (m : Nat) (hm : m ≤ 100) (w : World) : Calls Try.prog 58 #[.int .i64 nx, .int .i64 (m : Int)] w fun e w' => e = .returned (.agg (hopV (hopL nx m)).toArray) ∧ Le w w' := hop_okb nx m (base m) hm rfl w

theorem xor_one_ne (x : Byte) : ¬ (x ^^^ 1#8 = x) := fun h => by
  have := congrArg (fun y => x ^^^ y) h
  simp only [← BitVec.xor_assoc, BitVec.xor_self, BitVec.zero_xor] at this
  exact absurd this (by decide)

set_option maxHeartbeats 4000000 in
theorem small31_ok (w : World) : Calls Try.prog 26 #[] w fun e w' => e = .returned (.bool true) ∧ Le w w' := by
  refine enter Try.func26 rfl rfl ?_
  have L0 := Le.refl w
  refine WC.seq ?_
  refine WC.region ?_
  refine W.any (.assign rfl) rfl rfl rfl ?_
  refine W.nil ?_
  refine E.thenN ?_
  refine WC.seq ?_
  refine WC.region ?_
  refine W.ef rfl rfl rfl ?_
  refine Ef.call go33 rfl rfl (base_ok 5 w) ?_
  rintro _ w1_0 ⟨rfl, h1_0⟩
  refine ⟨_, rfl, ?_⟩
  have L1_0 := L0.trans h1_0
  refine W.ef rfl rfl rfl ?_
  refine Ef.call go33 rfl rfl (base_ok 7 w1_0) ?_
  rintro _ w1_1 ⟨rfl, h1_1⟩
  refine ⟨_, rfl, ?_⟩
  have L1_1 := L1_0.trans h1_1
  refine W.ef rfl rfl rfl ?_
  refine Ef.buildSliceN [_, _] Try.underlying41 el49 rfl (by intro v hv; simp at hv; rcases hv with rfl | rfl <;> rfl) rfl (by decide) (by decide) ?_
  intro g1_2 w1_2 hg1_2 b1_2 h1_2
  have L1_2 := L1_1.trans h1_2
  have hkp : Sl w1_2 1 (some ⟨g1_2, 0, none⟩) 2 (([5, 7].map base).map pv) := b1_2.sl (s := 1) (n := 2) rfl
  refine W.any (.assign rfl) rfl rfl rfl ?_
  refine W.nil ?_
  refine E.thenN ?_
  refine WC.seq ?_
  refine WC.region ?_
  refine W.ef rfl rfl rfl ?_
  refine Ef.call go58 rfl rfl (hop_ok 3 4 (by decide) w1_2) ?_
  rintro _ w2_0 ⟨rfl, h2_0⟩
  refine ⟨_, rfl, ?_⟩
  have L2_0 := L1_2.trans h2_0
  refine W.ef rfl rfl rfl ?_
  refine Ef.call go58 rfl rfl (hop_ok (-1) 6 (by decide) w2_0) ?_
  rintro _ w2_1 ⟨rfl, h2_1⟩
  refine ⟨_, rfl, ?_⟩
  have L2_1 := L2_0.trans h2_1
  refine W.ef rfl rfl rfl ?_
  refine Ef.buildSliceV [_, _] Try.underlying42 el51 rfl (fun v hv => by simp at hv; rcases hv with rfl | rfl <;> rfl) rfl (by decide) (by decide) ?_
  intro g2_2 w2_2 hg2_2 b2_2 h2_2
  have L2_2 := L2_1.trans h2_2
  have hR : Rws w2_2 6 (some ⟨g2_2, 0, none⟩) 2 (hsS.map hopV) := rows_two _ _ b2_2
  have hkp := hkp.le (h2_0.trans (h2_1.trans h2_2))
  have LA := Le.refl w2_2
  have hLA := L2_2
  have hok1 := keysOk_base [5, 7] ownS (by decide) (by decide)
  have hpk := fun i hi => peel_at [5, 7] hsS (kS 9) ownS hopsS_ok hopsS_wf (by decide) i hi
  have hp0 := pkt_zero ([5, 7].map base) hsS (kS 9) (by decide)
  have hplen := pkt_length ([5, 7].map base) hsS (kS 9) rfl (by decide) 0 (by decide)
  have hplen1 := pkt_length ([5, 7].map base) hsS (kS 9) rfl (by decide) 1 (by decide)
  have hpe := pkt_end ([5, 7].map base) hsS (kS 9) 2 (by decide)
  have hP0 : peelB 5 (pkt ([5, 7].map base) hsS (kS 9) 0) = (hopL 3 4, pkt ([5, 7].map base) hsS (kS 9) 1, ((wayB (startX (kS 9)) ([5, 7].map base)).getD 0 (0, [])).2, 0) := hpk 0 (by decide)
  have hP1 : peelB 7 (pkt ([5, 7].map base) hsS (kS 9) 1) = (hopL (-1) 6, pkt ([5, 7].map base) hsS (kS 9) 2, ((wayB (startX (kS 9)) ([5, 7].map base)).getD 1 (0, [])).2, 0) := hpk 1 (by decide)
  rw [hpe] at hP1
  have hdum := trivial
  refine W.any (.assign rfl) rfl rfl rfl ?_
  refine W.nil ?_
  refine E.thenN ?_
  refine WC.seq ?_
  refine WC.region ?_
  refine W.any (.move rfl) rfl rfl rfl ?_
  refine W.any (.move rfl) rfl rfl rfl ?_
  refine W.any (.buildA (cells := ((kS 9).map u8v).toArray) Try.underlying23 sz5 z23 rfl (by kernel_rfl)) rfl rfl rfl ?_
  refine W.ef rfl rfl rfl ?_
  refine Ef.call go27 rfl rfl (wrap_T (kS 9) kS9_len w2_2 hkp (fun k hk => by simp at hk; rcases hk with rfl | rfl <;> exact base_lt _) (by decide) hR hopsS_wf (by decide) (by rw [hok1, hopsS_ok]; rfl)) ?_
  rintro _ w3_3 ⟨Ap, cp, rfl, op, h3_3⟩
  refine ⟨_, rfl, ?_⟩
  have L3_3 := LA.trans h3_3
  rw [← hp0] at op
  have hcp := op.cap.1
  refine W.any (.move rfl) rfl rfl rfl ?_
  refine W.any (.extract rfl rfl) rfl rfl rfl ?_
  refine W.any (.extract rfl rfl) rfl rfl rfl ?_
  refine W.any (.assign rfl) rfl rfl rfl ?_
  refine W.any (.assign rfl) rfl rfl rfl ?_
  refine W.nil ?_
  refine E.thenN ?_
  refine WC.seq ?_
  refine WC.region ?_
  refine W.any (.move rfl) rfl rfl rfl ?_
  refine W.ef rfl rfl rfl ?_
  refine Ef.call go58 rfl rfl (hop_ok 3 4 (by decide) w3_3) ?_
  rintro _ w4_1 ⟨rfl, h4_1⟩
  refine ⟨_, rfl, ?_⟩
  have L4_1 := L3_3.trans h4_1
  refine W.ef rfl rfl rfl ?_
  refine Ef.call go58 rfl rfl (hop_ok 3 6 (by decide) w4_1) ?_
  rintro _ w4_2 ⟨rfl, h4_2⟩
  refine ⟨_, rfl, ?_⟩
  have L4_2 := L4_1.trans h4_2
  refine W.ef rfl rfl rfl ?_
  refine Ef.buildSliceV [_, _] Try.underlying42 el51 rfl (fun v hv => by simp at hv; rcases hv with rfl | rfl <;> rfl) rfl (by decide) (by decide) ?_
  intro g4_3 w4_3 hg4_3 b4_3 h4_3
  have L4_3 := L4_2.trans h4_3
  have hR4 : Rws w4_3 6 (some ⟨g4_3, 0, none⟩) 2 ([hopL 3 4, hopL 3 6].map hopV) := rows_two _ _ b4_3
  refine W.any (.buildA (cells := ((kS 9).map u8v).toArray) Try.underlying23 sz5 z23 rfl (by kernel_rfl)) rfl rfl rfl ?_
  refine W.ef rfl rfl rfl ?_
  refine Ef.call go27 rfl rfl (wrap_F (kS 9) kS9_len w4_3 (hkp.le L4_3) (fun k hk => by simp at hk; rcases hk with rfl | rfl <;> exact base_lt _) (by decide) hR4 (fun h hh => by simp at hh; rcases hh with rfl | rfl; exact hopL_ok 3 4 (by decide) (by decide); exact hopL_ok 3 6 (by decide) (by decide)) (by decide) (by rw [hopsS_bad, Bool.and_false])) ?_
  rintro _ w4_5 ⟨rfl, h4_5⟩
  refine ⟨_, rfl, ?_⟩
  have L4_5 := L4_3.trans h4_5
  refine W.any (.move rfl) rfl rfl rfl ?_
  refine W.any (.extract rfl rfl) rfl rfl rfl ?_
  refine W.any (.extract rfl rfl) rfl rfl rfl ?_
  refine W.any (.assign rfl) rfl rfl rfl ?_
  refine W.any (.assign rfl) rfl rfl rfl ?_
  refine W.nil ?_
  refine E.thenN ?_
  refine WC.seq ?_
  refine WC.region ?_
  refine W.any (.move rfl) rfl rfl rfl ?_
  refine W.any (.cutH (1) Try.underlying41 sz49 rfl rfl (rfl) (by decide)) rfl rfl rfl ?_
  refine W.any (.move rfl) rfl rfl rfl ?_
  refine W.any (.buildA (cells := ((kS 9).map u8v).toArray) Try.underlying23 sz5 z23 rfl (by kernel_rfl)) rfl rfl rfl ?_
  refine W.ef rfl rfl rfl ?_
  refine Ef.call go27 rfl rfl (wrap_F (kS 9) kS9_len w4_5 (show Sl _ 1 _ 1 ([base 5].map pv) from ⟨rfl, fun j u hu => (hkp.le L4_5).2 j u (by cases j with | zero => exact hu | succ j => simp at hu)⟩) (fun k hk => by simp at hk; subst hk; exact base_lt _) (by decide) (hR.le L4_5) hopsS_wf (by decide) (by rw [hopsS_short, Bool.and_false])) ?_
  rintro _ w5_4 ⟨rfl, h5_4⟩
  refine ⟨_, rfl, ?_⟩
  have L5_4 := L4_5.trans h5_4
  refine W.any (.move rfl) rfl rfl rfl ?_
  refine W.any (.extract rfl rfl) rfl rfl rfl ?_
  refine W.any (.extract rfl rfl) rfl rfl rfl ?_
  refine W.any (.assign rfl) rfl rfl rfl ?_
  refine W.any (.assign rfl) rfl rfl rfl ?_
  refine W.nil ?_
  refine E.thenN ?_
  refine WC.seq ?_
  refine WC.region ?_
  refine W.any (.move rfl) rfl rfl rfl ?_
  refine W.any (.buildA (cells := ((kS 9).map u8v).toArray) Try.underlying23 sz5 z23 rfl (by kernel_rfl)) rfl rfl rfl ?_
  refine W.ef rfl rfl rfl ?_
  refine Ef.call go29 rfl rfl (shared_T (kS 9) kS9_len w5_4 (hkp.le L5_4) (fun k hk => by simp at hk; rcases hk with rfl | rfl <;> exact base_lt _) (by decide) hok1) ?_
  rintro _ w6_2 ⟨As, cs, rfl, osh, h6_2⟩
  refine ⟨_, rfl, ?_⟩
  have L6_2 := L5_4.trans h6_2
  obtain ⟨sums, hsums⟩ : ∃ sums, sums = (wayB (startX (kS 9)) ([5, 7].map base)).map Prod.snd := ⟨_, rfl⟩
  rw [← hsums] at osh
  have hsl : sums.length = 2 := by rw [hsums, List.length_map, wayB_length]; rfl
  have hs32 : ∀ q ∈ sums, q.length = 32 := fun q hq => by rw [hsums] at hq; obtain ⟨s, hs, rfl⟩ := List.mem_map.1 hq; exact wayB_sum _ _ s hs
  have hKs := ks_own osh hsl hs32
  have hsat : ∀ i, i < 2 → sums[i]? = some (((wayB (startX (kS 9)) ([5, 7].map base)).getD i (0, [])).2) := fun i hi => by rw [hsums, List.getElem?_map, getst _ (by rw [wayB_length]; exact hi)]; rfl
  have hs0 := hsat 0 (by decide)
  have hs1 := hsat 1 (by decide)
  have hq0 := hs32 _ (List.mem_of_getElem? hs0)
  have hq1 := hs32 _ (List.mem_of_getElem? hs1)
  generalize ((wayB (startX (kS 9)) ([5, 7].map base)).getD 0 (0, [])).2 = q0 at *
  generalize ((wayB (startX (kS 9)) ([5, 7].map base)).getD 1 (0, [])).2 = q1 at *
  generalize pkt ([5, 7].map base) hsS (kS 9) 0 = p0 at *
  generalize pkt ([5, 7].map base) hsS (kS 9) 1 = p1 at *
  have op6 := op.le (h4_1.trans (h4_2.trans (h4_3.trans (h4_5.trans (h5_4.trans h6_2)))))
  have LB := Le.refl w6_2
  have hLB := hLA.trans L6_2
  have hR6 := hR.le L6_2
  refine W.any (.move rfl) rfl rfl rfl ?_
  refine W.any (.extract rfl rfl) rfl rfl rfl ?_
  refine W.any (.extract rfl rfl) rfl rfl rfl ?_
  refine W.any (.assign rfl) rfl rfl rfl ?_
  refine W.any (.assign rfl) rfl rfl rfl ?_
  refine W.nil ?_
  refine E.thenN ?_
  refine WC.seq ?_
  refine WC.seq ?_
  refine WC.region ?_
  refine W.any (.move rfl) rfl rfl rfl ?_
  refine W.any (.dec (.neq rfl rfl) (decide_eq_false (by decide))) rfl rfl rfl ?_
  refine W.any (.move rfl) rfl rfl rfl ?_
  refine W.rdg (Any.rd (.move rfl) _) rfl rfl rfl (rfl) rfl rfl ?_
  refine W.rdg (Any.rd (.dec (.neq rfl rfl) (decide_eq_false (by decide))) _) rfl rfl rfl (rfl) rfl rfl ?_
  refine W.any (.pickF rfl rfl rfl) rfl rfl rfl ?_
  refine W.any (.move rfl) rfl rfl rfl ?_
  refine W.rdg (Any.rd (.move rfl) _) rfl rfl rfl (rfl) rfl rfl ?_
  refine W.rdg (.len Try.underlying24 rfl) rfl rfl rfl (rfl) rfl rfl ?_
  refine W.rdg (Any.rd (.dec (.neq rfl rfl) (decide_eq_false (by decide))) _) rfl rfl rfl (rfl) rfl rfl ?_
  refine W.any (.pickF rfl rfl rfl) rfl rfl rfl ?_
  refine W.any (.move rfl) rfl rfl rfl ?_
  refine W.any (.pickF rfl rfl rfl) rfl rfl rfl ?_
  refine W.any (.move rfl) rfl rfl rfl ?_
  refine W.rdg (Any.rd (.move rfl) _) rfl rfl rfl (rfl) rfl rfl ?_
  refine W.rdg (.len Try.underlying25 rfl) rfl rfl rfl (rfl) rfl rfl ?_
  refine W.rdg (Any.rd (.dec (.neq rfl rfl) (decide_eq_false (by decide))) _) rfl rfl rfl (rfl) rfl rfl ?_
  refine W.any (.pickF rfl rfl rfl) rfl rfl rfl ?_
  refine W.nil ?_
  refine E.thenN ?_
  refine WC.condF rfl ?_
  refine WC.skip ?_
  refine E.thenN ?_
  refine WC.seq ?_
  refine WC.region ?_
  refine W.any (.move rfl) rfl rfl rfl ?_
  refine W.ef rfl rfl rfl ?_
  refine Ef.call go31 rfl rfl (peel_ok 5 (by decide) w6_2 op6.sb hcp) ?_
  rintro _ w9_1 ⟨A9, m9, c9, e, s9, h9_1⟩
  rw [hP0] at e s9; subst e
  refine ⟨_, rfl, ?_⟩
  have L9_1 := LB.trans h9_1
  refine W.any (.move rfl) rfl rfl rfl ?_
  refine W.any (.extract rfl rfl) rfl rfl rfl ?_
  refine W.any (.extract rfl rfl) rfl rfl rfl ?_
  refine W.any (.extract rfl rfl) rfl rfl rfl ?_
  refine W.any (.extract rfl rfl) rfl rfl rfl ?_
  refine W.ef rfl rfl rfl ?_
  refine Ef.allocA z51 ?_
  intro g9_7 w9_7 hg9_7 b9_7 h9_7
  have L9_7 := L9_1.trans h9_7
  refine W.ef rfl rfl rfl ?_
  refine Ef.allocA z23 ?_
  intro g9_8 w9_8 hg9_8 b9_8 h9_8
  have L9_8 := L9_7.trans h9_8
  refine W.ef0 rfl rfl ?_
  refine Ef.storeAll sz51 (by rfl) rfl rfl (b9_7.le h9_8) (by rfl) (hopV_one _) ?_
  intro w9_9 b9_9 h9_9
  have L9_9 : Le w6_2 w9_9 := L9_8.then_ h9_9 (fun q hq => by cases hq; exact Nat.le_trans L9_1.size hg9_7)
  refine W.any (.assign rfl) rfl rfl rfl ?_
  refine W.ef0 rfl rfl ?_
  refine Ef.storeAll sz23 (by simp [hq0]) rfl rfl (b9_8.ch h9_9 (by simp; have := b9_7.lt; omega)) (by simp [hq0]) (all_u8v _) ?_
  intro w9_11 b9_11 h9_11
  have L9_11 : Le w6_2 w9_11 := L9_9.then_ h9_11 (fun q hq => by cases hq; exact Nat.le_trans L9_7.size hg9_8)
  have bh9 := b9_9.ch h9_11 (by simp; have := b9_7.lt; omega)
  have LP9 : Le w9_1 w9_11 := ((h9_7.trans h9_8).then_ h9_9 (fun q hq => by cases hq; exact hg9_7)).then_ h9_11 (fun q hq => by cases hq; exact Nat.le_trans h9_7.size hg9_8)
  refine W.any (.assign rfl) rfl rfl rfl ?_
  refine W.nil ?_
  refine E.thenN ?_
  refine WC.seq ?_
  refine WC.region ?_
  refine W.any (.move rfl) rfl rfl rfl ?_
  refine W.ef rfl rfl rfl ?_
  refine Ef.call go31 rfl rfl (peel_ok 7 (by decide) w9_11 (s9.le LP9).sb s9.cap.1) ?_
  rintro _ w10_1 ⟨A10, m10, c10, e, s10, h10_1⟩
  rw [hP1] at e s10; subst e
  refine ⟨_, rfl, ?_⟩
  have L10_1 := L9_11.trans h10_1
  refine W.any (.move rfl) rfl rfl rfl ?_
  refine W.any (.extract rfl rfl) rfl rfl rfl ?_
  refine W.any (.extract rfl rfl) rfl rfl rfl ?_
  refine W.any (.extract rfl rfl) rfl rfl rfl ?_
  refine W.any (.extract rfl rfl) rfl rfl rfl ?_
  refine W.ef rfl rfl rfl ?_
  refine Ef.allocA z51 ?_
  intro g10_7 w10_7 hg10_7 b10_7 h10_7
  have L10_7 := L10_1.trans h10_7
  refine W.ef rfl rfl rfl ?_
  refine Ef.allocA z23 ?_
  intro g10_8 w10_8 hg10_8 b10_8 h10_8
  have L10_8 := L10_7.trans h10_8
  refine W.ef0 rfl rfl ?_
  refine Ef.storeAll sz51 (by rfl) rfl rfl (b10_7.le h10_8) (by rfl) (hopV_one _) ?_
  intro w10_9 b10_9 h10_9
  have L10_9 : Le w6_2 w10_9 := L10_8.then_ h10_9 (fun q hq => by cases hq; exact Nat.le_trans L10_1.size hg10_7)
  refine W.any (.assign rfl) rfl rfl rfl ?_
  refine W.ef0 rfl rfl ?_
  refine Ef.storeAll sz23 (by simp [hq1]) rfl rfl (b10_8.ch h10_9 (by simp; have := b10_7.lt; omega)) (by simp [hq1]) (all_u8v _) ?_
  intro w10_11 b10_11 h10_11
  have L10_11 : Le w6_2 w10_11 := L10_9.then_ h10_11 (fun q hq => by cases hq; exact Nat.le_trans L10_7.size hg10_8)
  have bh10 := b10_9.ch h10_11 (by simp; have := b10_7.lt; omega)
  have LP10 : Le w10_1 w10_11 := ((h10_7.trans h10_8).then_ h10_9 (fun q hq => by cases hq; exact hg10_7)).then_ h10_11 (fun q hq => by cases hq; exact Nat.le_trans h10_7.size hg10_8)
  refine W.any (.assign rfl) rfl rfl rfl ?_
  refine W.nil ?_
  refine E.thenN ?_
  refine WC.seq ?_
  refine WC.region ?_
  refine W.any (.move rfl) rfl rfl rfl ?_
  refine W.ef rfl rfl rfl ?_
  refine Ef.call go31 rfl rfl (peel_ok 0 (by decide) w10_11 (op6.le L10_11).sb hcp) ?_
  rintro _ w11_1 ⟨A11, m11, c11, e, s11, h11_1⟩
  obtain ⟨z1, z2, z3⟩ := peel_err _ _ (show (peelB 0 p0).2.2.2 ≠ 0 by rw [peel_none 0 p0 (.inl rfl)]; decide)
  rw [z1, z3, peel_none 0 p0 (.inl rfl)] at e; rw [z2] at s11; subst e
  refine ⟨_, rfl, ?_⟩
  have L11_1 := L10_11.trans h11_1
  refine W.any (.move rfl) rfl rfl rfl ?_
  refine W.any (.extract rfl rfl) rfl rfl rfl ?_
  refine W.any (.extract rfl rfl) rfl rfl rfl ?_
  refine W.any (.extract rfl rfl) rfl rfl rfl ?_
  refine W.any (.extract rfl rfl) rfl rfl rfl ?_
  refine W.ef rfl rfl rfl ?_
  refine Ef.allocA z51 ?_
  intro g11_7 w11_7 hg11_7 b11_7 h11_7
  have L11_7 := L11_1.trans h11_7
  refine W.ef rfl rfl rfl ?_
  refine Ef.allocA z23 ?_
  intro g11_8 w11_8 hg11_8 b11_8 h11_8
  have L11_8 := L11_7.trans h11_8
  refine W.ef0 rfl rfl ?_
  refine Ef.storeAll sz51 (by rfl) rfl rfl (b11_7.le h11_8) (by rfl) (hopV_one _) ?_
  intro w11_9 b11_9 h11_9
  have L11_9 : Le w6_2 w11_9 := L11_8.then_ h11_9 (fun q hq => by cases hq; exact Nat.le_trans L11_1.size hg11_7)
  refine W.any (.assign rfl) rfl rfl rfl ?_
  refine W.ef0 rfl rfl ?_
  refine Ef.storeAll sz23 (by simp [zeros]) rfl rfl (b11_8.ch h11_9 (by simp; have := b11_7.lt; omega)) (by simp [zeros]) (all_u8v _) ?_
  intro w11_11 b11_11 h11_11
  have L11_11 : Le w6_2 w11_11 := L11_9.then_ h11_11 (fun q hq => by cases hq; exact Nat.le_trans L11_7.size hg11_8)
  have bh11 := b11_9.ch h11_11 (by simp; have := b11_7.lt; omega)
  have LP11 : Le w11_1 w11_11 := ((h11_7.trans h11_8).then_ h11_9 (fun q hq => by cases hq; exact hg11_7)).then_ h11_11 (fun q hq => by cases hq; exact Nat.le_trans h11_7.size hg11_8)
  refine W.any (.assign rfl) rfl rfl rfl ?_
  refine W.nil ?_
  refine E.thenN ?_
  refine WC.seq ?_
  refine WC.region ?_
  refine W.any (.move rfl) rfl rfl rfl ?_
  refine W.any (.cutL (1) Try.underlying24 sz5 rfl rfl (rfl) (by decide) (hcp)) rfl rfl rfl ?_
  refine W.ef rfl rfl rfl ?_
  refine Ef.call go31 rfl rfl (peel_ok 5 (by decide) w11_11 ((op6.le L11_11).sb.cutL cp 1 (by decide) hcp) (by omega)) ?_
  rintro _ w12_2 ⟨A12, m12, c12, e, s12, h12_2⟩
  obtain ⟨z1, z2, z3⟩ := peel_err _ _ (show (peelB 5 (p0.drop 1)).2.2.2 ≠ 0 by rw [peel_form 5 (p0.drop 1) (by decide) (by decide) (by rw [List.length_drop, hplen]; decide)]; decide)
  rw [z1, z3, peel_form 5 (p0.drop 1) (by decide) (by decide) (by rw [List.length_drop, hplen]; decide)] at e; rw [z2] at s12; subst e
  refine ⟨_, rfl, ?_⟩
  have L12_2 := L11_11.trans h12_2
  refine W.any (.move rfl) rfl rfl rfl ?_
  refine W.any (.extract rfl rfl) rfl rfl rfl ?_
  refine W.any (.extract rfl rfl) rfl rfl rfl ?_
  refine W.any (.extract rfl rfl) rfl rfl rfl ?_
  refine W.any (.extract rfl rfl) rfl rfl rfl ?_
  refine W.ef rfl rfl rfl ?_
  refine Ef.allocA z51 ?_
  intro g12_8 w12_8 hg12_8 b12_8 h12_8
  have L12_8 := L12_2.trans h12_8
  refine W.ef rfl rfl rfl ?_
  refine Ef.allocA z23 ?_
  intro g12_9 w12_9 hg12_9 b12_9 h12_9
  have L12_9 := L12_8.trans h12_9
  refine W.ef0 rfl rfl ?_
  refine Ef.storeAll sz51 (by rfl) rfl rfl (b12_8.le h12_9) (by rfl) (hopV_one _) ?_
  intro w12_10 b12_10 h12_10
  have L12_10 : Le w6_2 w12_10 := L12_9.then_ h12_10 (fun q hq => by cases hq; exact Nat.le_trans L12_2.size hg12_8)
  refine W.any (.assign rfl) rfl rfl rfl ?_
  refine W.ef0 rfl rfl ?_
  refine Ef.storeAll sz23 (by simp [zeros]) rfl rfl (b12_9.ch h12_10 (by simp; have := b12_8.lt; omega)) (by simp [zeros]) (all_u8v _) ?_
  intro w12_12 b12_12 h12_12
  have L12_12 : Le w6_2 w12_12 := L12_10.then_ h12_12 (fun q hq => by cases hq; exact Nat.le_trans L12_8.size hg12_9)
  have bh12 := b12_10.ch h12_12 (by simp; have := b12_8.lt; omega)
  have LP12 : Le w12_2 w12_12 := ((h12_8.trans h12_9).then_ h12_10 (fun q hq => by cases hq; exact hg12_8)).then_ h12_12 (fun q hq => by cases hq; exact Nat.le_trans h12_8.size hg12_9)
  refine W.any (.assign rfl) rfl rfl rfl ?_
  refine W.nil ?_
  refine E.thenN ?_
  refine WC.seq ?_
  refine WC.region ?_
  refine W.ef rfl rfl rfl ?_
  refine Ef.buildSlice0 Try.underlying24 el5 ?_
  intro g13_0 w13_0 hg13_0 b13_0 h13_0
  have L13_0 := L12_12.trans h13_0
  refine W.any (.move rfl) rfl rfl rfl ?_
  refine W.ef rfl rfl rfl ?_
  refine Ef.append Try.underlying24 el5 rfl ((b13_0.own_ (n := 0) (c := 0) (s := 1) hg13_0 (Nat.le_refl _) rfl (by decide)).cast rfl rfl) rfl ((op6.le L13_0).sb.src Try.underlying24 _) (by omega) (by unfold maxLen; omega) (h13_0.size) ?_
  intro A13_2 c13_2 w13_2 o13_2 h13_2 at13_2
  have L13_2 : Le w6_2 w13_2 := L13_0.then_ h13_2 (fun q hq => by simp [rowOf_zero] at hq)
  have ow1 := o13_2.mono (Nat.le_refl _)
  have ow : Sx.Own w13_2 w12_12.heap.size 5 1 A13_2 680 c13_2 (p0.map u8v) := o13_2.cast (by decide) (by simp)
  obtain ⟨gw, rfl, hgw12, hgw2, hgwr⟩ := ow.lit (by decide)
  have hgw := Nat.le_trans L12_12.size hgw12
  refine W.any (.assign rfl) rfl rfl rfl ?_
  refine W.nil ?_
  refine E.thenN ?_
  refine WC.seq ?_
  refine WC.region ?_
  refine W.any (.move rfl) rfl rfl rfl ?_
  refine W.any (.move rfl) rfl rfl rfl ?_
  refine W.any (.idxB1 679 Try.underlying24 sz5 rfl rfl rfl (by decide)) rfl rfl rfl ?_
  refine W.rd (.load na5 rfl ((ow.sl.2 679 _ (getb p0 (by rw [hplen]; decide))).elim fun ad h => by obtain ⟨h1, h2⟩ := h; injection h1 with h1; subst h1; rw [add_lit, Nat.zero_add] at h2; exact h2)) rfl rfl rfl ?_
  refine W.any (.xor8 (b := 1#8) rfl rfl) rfl rfl rfl ?_
  refine W.any (.idxB1 679 Try.underlying24 sz5 rfl rfl rfl (by decide)) rfl rfl rfl ?_
  refine W.ef0 rfl rfl ?_
  refine Ef.storeO sz5 rfl rfl (ow) (by decide) (rfl) ?_
  intro w14_6 o14_6 h14_6
  have L14_6 : Le w6_2 w14_6 := L13_2.then_ h14_6 (fun q hq => by cases hq; exact hgw)
  have ow2 : Sx.Own w14_6 w12_12.heap.size 5 1 (some ⟨gw, 0, none⟩) 680 c13_2 ((p0.set 679 (p0.getD 679 0 ^^^ 1#8)).map u8v) := o14_6.cast rfl (by rw [List.map_set])
  have hw18 : (peelB 5 (p0.set 679 (p0.getD 679 0 ^^^ 1#8))).2.2.2 = 18 := peel_mac 5 p0 _ (by rw [hP0]) (by rw [List.length_set, hplen]) (by rw [List.take_set_of_le (by decide)]) (fun he => by
    have h1 := congrArg (fun x : List Byte => x[31]?) he
    simp only [List.getElem?_drop] at h1
    rw [List.getElem?_set_self (by rw [hplen]; decide), List.getElem?_eq_getElem (by rw [hplen]; decide)] at h1
    rw [List.getD_eq_getElem?_getD, List.getElem?_eq_getElem (by rw [hplen]; decide)] at h1
    exact xor_one_ne _ (Option.some.inj h1))
  have Lwr : Le w12_12 w14_6 := (h13_0.then_ h13_2 (fun q hq => by simp [rowOf_zero] at hq)).then_ h14_6 (fun q hq => by cases hq; exact hgw12)
  refine W.nil ?_
  refine E.thenN ?_
  refine WC.seq ?_
  refine WC.region ?_
  refine W.any (.move rfl) rfl rfl rfl ?_
  refine W.ef rfl rfl rfl ?_
  refine Ef.call go31 rfl rfl (peel_ok 5 (by decide) w14_6 ow2.sb ow2.cap.1) ?_
  rintro _ w15_1 ⟨A15, m15, c15, e, s15, h15_1⟩
  obtain ⟨z1, z2, z3⟩ := peel_err _ _ (show (peelB 5 (p0.set 679 (p0.getD 679 0 ^^^ 1#8))).2.2.2 ≠ 0 by rw [hw18]; decide)
  rw [z1, z3, hw18] at e; rw [z2] at s15; subst e
  refine ⟨_, rfl, ?_⟩
  have L15_1 := L14_6.trans h15_1
  refine W.any (.move rfl) rfl rfl rfl ?_
  refine W.any (.extract rfl rfl) rfl rfl rfl ?_
  refine W.any (.extract rfl rfl) rfl rfl rfl ?_
  refine W.any (.extract rfl rfl) rfl rfl rfl ?_
  refine W.any (.extract rfl rfl) rfl rfl rfl ?_
  refine W.ef rfl rfl rfl ?_
  refine Ef.allocA z51 ?_
  intro g15_7 w15_7 hg15_7 b15_7 h15_7
  have L15_7 := L15_1.trans h15_7
  refine W.ef rfl rfl rfl ?_
  refine Ef.allocA z23 ?_
  intro g15_8 w15_8 hg15_8 b15_8 h15_8
  have L15_8 := L15_7.trans h15_8
  refine W.ef0 rfl rfl ?_
  refine Ef.storeAll sz51 (by rfl) rfl rfl (b15_7.le h15_8) (by rfl) (hopV_one _) ?_
  intro w15_9 b15_9 h15_9
  have L15_9 : Le w6_2 w15_9 := L15_8.then_ h15_9 (fun q hq => by cases hq; exact Nat.le_trans L15_1.size hg15_7)
  refine W.any (.assign rfl) rfl rfl rfl ?_
  refine W.ef0 rfl rfl ?_
  refine Ef.storeAll sz23 (by simp [zeros]) rfl rfl (b15_8.ch h15_9 (by simp; have := b15_7.lt; omega)) (by simp [zeros]) (all_u8v _) ?_
  intro w15_11 b15_11 h15_11
  have L15_11 : Le w6_2 w15_11 := L15_9.then_ h15_11 (fun q hq => by cases hq; exact Nat.le_trans L15_7.size hg15_8)
  have bh15 := b15_9.ch h15_11 (by simp; have := b15_7.lt; omega)
  have LP15 : Le w15_1 w15_11 := ((h15_7.trans h15_8).then_ h15_9 (fun q hq => by cases hq; exact hg15_7)).then_ h15_11 (fun q hq => by cases hq; exact Nat.le_trans h15_7.size hg15_8)
  have L10z : Le w10_11 w15_11 := (h11_1.trans LP11).trans ((h12_2.trans LP12).trans (Lwr.trans (h15_1.trans LP15)))
  have L9z : Le w9_11 w15_11 := (h10_1.trans LP10).trans L10z
  have b9_11' := b9_11.le L9z
  have hg9 := b9_11'.lt
  refine W.any (.assign rfl) rfl rfl rfl ?_
  refine W.nil ?_
  refine E.thenN ?_
  refine WC.seq ?_
  refine WC.region ?_
  refine W.ef rfl rfl rfl ?_
  refine Ef.call go34 rfl rfl (new_ok w15_11) ?_
  rintro _ w16_0 ⟨gp, g, rfl, hg, hgp, bQ, mQ, h16_0⟩
  refine ⟨_, rfl, ?_⟩
  have L16_0 := L15_11.trans h16_0
  have b9_11' := b9_11'.le h16_0
  refine W.any (.assign rfl) rfl rfl rfl ?_
  refine W.nil ?_
  refine E.thenN ?_
  refine WC.seq ?_
  refine WC.seq ?_
  refine WC.region ?_
  refine W.any (.move rfl) rfl rfl rfl ?_
  refine W.any (notNil Try.underlying60 rfl) rfl rfl rfl ?_
  refine W.nil ?_
  refine E.thenN ?_
  refine WC.condF rfl ?_
  refine WC.skip ?_
  refine E.thenN ?_
  refine WC.seq ?_
  refine WC.region ?_
  refine W.any (.move rfl) rfl rfl rfl ?_
  refine W.rd (.loadAll ag23 (by simp [hq0]) rfl (b9_11')) rfl rfl rfl ?_
  refine W.ef rfl rfl rfl ?_
  refine Ef.call go38 rfl rfl (once_new q0 hq0 9 w16_0 bQ mQ rfl) ?_
  rintro _ w19_2 ⟨rfl, mQ2, h19_2⟩
  refine ⟨_, rfl, ?_⟩
  have L19_2 : Le w6_2 w19_2 := L16_0.then_ h19_2 (fun q hq => by cases hq; exact Nat.le_trans L15_11.size hg)
  have bQ2 := bQ.ch h19_2 (by simp; omega)
  have b92 := b9_11'.ch h19_2 (by simp; omega)
  refine W.any (.assign rfl) rfl rfl rfl ?_
  refine W.nil ?_
  refine E.thenN ?_
  refine WC.seq ?_
  refine WC.region ?_
  refine W.any (.move rfl) rfl rfl rfl ?_
  refine W.rd (.loadAll ag23 (by simp [hq0]) rfl (b92)) rfl rfl rfl ?_
  refine W.ef rfl rfl rfl ?_
  refine Ef.call go38 rfl rfl (once_old q0 hq0 9 w19_2 bQ2 mQ2 (j := 0) (v := 9) (by simp [find31])) ?_
  rintro _ w20_2 ⟨rfl, h20_2⟩
  refine ⟨_, rfl, ?_⟩
  have L20_2 := L19_2.trans h20_2
  refine W.any (.assign rfl) rfl rfl rfl ?_
  refine W.nil ?_
  refine E.thenN ?_
  refine WC.seq ?_
  refine WC.region ?_
  refine W.any (.move rfl) rfl rfl rfl ?_
  refine W.ef rfl rfl rfl ?_
  refine Ef.call go36 rfl rfl (forget_ok 9 w20_2 (bQ2.le h20_2) (by omega) (mQ2.le h20_2) (by simp)) ?_
  rintro _ w21_1 ⟨rfl, mQ3, h21_1⟩
  refine ⟨_, rfl, ?_⟩
  have L21_1 : Le w6_2 w21_1 := L20_2.then_ h21_1 (fun q hq => by cases hq; exact Nat.le_trans L15_11.size hg)
  have bQ3 := (bQ2.le h20_2).ch h21_1 (by simp; omega)
  refine W.any (.assign rfl) rfl rfl rfl ?_
  refine W.nil ?_
  refine E.thenN ?_
  refine WC.seq ?_
  refine WC.region ?_
  refine W.any (.move rfl) rfl rfl rfl ?_
  refine W.ef rfl rfl rfl ?_
  refine Ef.call go36 rfl rfl (forget_ok 10 w21_1 bQ3 (by omega) mQ3 (by simp)) ?_
  rintro _ w22_1 ⟨rfl, mQ4, h22_1⟩
  refine ⟨_, rfl, ?_⟩
  have L22_1 : Le w6_2 w22_1 := L21_1.then_ h22_1 (fun q hq => by cases hq; exact Nat.le_trans L15_11.size hg)
  have bQ4 := bQ3.ch h22_1 (by simp; omega)
  have LZ : Le w15_11 w22_1 := ((h16_0.then_ h19_2 (fun q hq => by cases hq; exact hg)).trans h20_2 |>.then_ h21_1 (fun q hq => by cases hq; exact hg)).then_ h22_1 (fun q hq => by cases hq; exact hg)
  refine W.any (.assign rfl) rfl rfl rfl ?_
  refine W.nil ?_
  refine E.thenN ?_
  refine WC.seq ?_
  refine WC.draw [0, 1, 2, 3, 4, 5, 6, 7, 8, 9, 10, 11, 12, 13, 14, 15, 16, 17, 18, 19, 20, 21, 22, 23, 24, 25, 26, 27, 28, 29, 30, 31, 32, 33, 34, 35, 36, 37, 38, 39, 40, 41, 42, 43, 44, 45, 46, 47, 48, 49, 50, 51, 52, 53, 54, 55, 56, 57, 58, 59, 60, 61, 62, 63, 64, 65, 66, 67, 68, 69, 70, 71, 72, 73, 74, 75, 76, 77, 78, 79, 80, 81, 82, 83, 84, 85, 86] mixed (by kernel_rfl) ?_
  intro w23 d23
  have L23 := L22_1.trans d23
  have bz9h := ((bh9.le L9z).le LZ).le d23
  have bz9 := ((b9_11.le L9z).le LZ).le d23
  have bz10h := ((bh10.le L10z).le LZ).le d23
  have bz10 := ((b10_11.le L10z).le LZ).le d23
  have hR23 := hR6.le L23
  have mQ5 := mQ4.le d23
  have bQ5 := bQ4.le d23
  refine G.any rfl rfl (.move rfl) rfl rfl rfl ?_
  refine G.any rfl rfl (.dec (.eql rfl rfl) (decide_eq_true (by decide))) rfl rfl rfl ?_
  refine G.any rfl rfl (.move rfl) rfl rfl rfl ?_
  refine G.anyg rfl rfl (.move rfl) rfl rfl rfl (rfl) rfl rfl ?_
  refine G.anyg rfl rfl (.dec (.eql rfl rfl) (decide_eq_true (by decide))) rfl rfl rfl (rfl) rfl rfl ?_
  refine G.any rfl rfl (.pickT rfl rfl rfl) rfl rfl rfl ?_
  refine G.any rfl rfl (.move rfl) rfl rfl rfl ?_
  refine G.anyg rfl rfl (.move rfl) rfl rfl rfl (rfl) rfl rfl ?_
  refine G.anyg rfl rfl (.dec (.eql rfl rfl) (decide_eq_true rfl)) rfl rfl rfl (rfl) rfl rfl ?_
  refine G.any rfl rfl (.pickT rfl rfl rfl) rfl rfl rfl ?_
  refine G.any rfl rfl (.move rfl) rfl rfl rfl ?_
  refine G.rdg rfl rfl (.loadAll ag51 (by rfl) rfl (bz9h)) rfl rfl rfl (rfl) rfl rfl ?_
  refine G.anyg rfl rfl (.move rfl) rfl rfl rfl (rfl) rfl rfl ?_
  refine G.anyg rfl rfl (.idxS (0) Try.underlying42 sz51 rfl rfl (rfl) (rfl) (by decide)) rfl rfl rfl (rfl) rfl rfl ?_
  refine G.rdg rfl rfl (.loadR ag51 rfl hR23 (show (hsS.map hopV)[0]? = some _ from rfl) (by decide)) rfl rfl rfl (rfl) rfl rfl ?_
  refine G.anyg rfl rfl (.dec (.eqA eg51 rfl rfl (eqv_hop (d := 9998) _ _)) (decide_eq_true rfl)) rfl rfl rfl (rfl) rfl rfl ?_
  refine G.any rfl rfl (.pickT rfl rfl rfl) rfl rfl rfl ?_
  refine G.any rfl rfl (.move rfl) rfl rfl rfl ?_
  refine G.rdg rfl rfl (.loadAll ag23 (by simp [hq0]) rfl (bz9)) rfl rfl rfl (rfl) rfl rfl ?_
  refine G.anyg rfl rfl (.move rfl) rfl rfl rfl (rfl) rfl rfl ?_
  refine G.anyg rfl rfl (.idxS (0) Try.underlying25 sz23 rfl rfl (hKs.2.2.isSome (j := 0) (by decide) (by decide)) (rfl) (by decide)) rfl rfl rfl (rfl) rfl rfl ?_
  refine G.rdg rfl rfl (.loadK ag23 rfl (hKs.le L23) hs0 (by decide)) rfl rfl rfl (rfl) rfl rfl ?_
  refine G.anyg rfl rfl (.dec (.eqA eg23 rfl rfl (Eqv.bytes (d := 9998) _ _ Try.underlying23 sz5 Try.underlying5 hq0 hq0)) (decide_eq_true rfl)) rfl rfl rfl (rfl) rfl rfl ?_
  refine G.any rfl rfl (.pickT rfl rfl rfl) rfl rfl rfl ?_
  refine G.any rfl rfl (.move rfl) rfl rfl rfl ?_
  refine G.anyg rfl rfl (.move rfl) rfl rfl rfl (rfl) rfl rfl ?_
  refine G.rdg rfl rfl (.len Try.underlying24 rfl) rfl rfl rfl (rfl) rfl rfl ?_
  refine G.anyg rfl rfl (.dec (.eql rfl rfl) (decide_eq_true (by have := s9.1; rw [List.length_map, hplen1] at this; omega))) rfl rfl rfl (rfl) rfl rfl ?_
  refine G.any rfl rfl (.pickT rfl rfl rfl) rfl rfl rfl ?_
  refine G.any rfl rfl (.move rfl) rfl rfl rfl ?_
  refine G.anyg rfl rfl (.move rfl) rfl rfl rfl (rfl) rfl rfl ?_
  refine G.anyg rfl rfl (.dec (.eql rfl rfl) (decide_eq_true rfl)) rfl rfl rfl (rfl) rfl rfl ?_
  refine G.any rfl rfl (.pickT rfl rfl rfl) rfl rfl rfl ?_
  refine G.any rfl rfl (.move rfl) rfl rfl rfl ?_
  refine G.rdg rfl rfl (.loadAll ag51 (by rfl) rfl (bz10h)) rfl rfl rfl (rfl) rfl rfl ?_
  refine G.anyg rfl rfl (.move rfl) rfl rfl rfl (rfl) rfl rfl ?_
  refine G.anyg rfl rfl (.idxS (1) Try.underlying42 sz51 rfl rfl (rfl) (rfl) (by decide)) rfl rfl rfl (rfl) rfl rfl ?_
  refine G.rdg rfl rfl (.loadR ag51 rfl hR23 (show (hsS.map hopV)[1]? = some _ from rfl) (by decide)) rfl rfl rfl (rfl) rfl rfl ?_
  refine G.anyg rfl rfl (.dec (.eqA eg51 rfl rfl (eqv_hop (d := 9998) _ _)) (decide_eq_true rfl)) rfl rfl rfl (rfl) rfl rfl ?_
  refine G.any rfl rfl (.pickT rfl rfl rfl) rfl rfl rfl ?_
  refine G.any rfl rfl (.move rfl) rfl rfl rfl ?_
  refine G.rdg rfl rfl (.loadAll ag23 (by simp [hq1]) rfl (bz10)) rfl rfl rfl (rfl) rfl rfl ?_
  refine G.anyg rfl rfl (.move rfl) rfl rfl rfl (rfl) rfl rfl ?_
  refine G.anyg rfl rfl (.idxS (1) Try.underlying25 sz23 rfl rfl (hKs.2.2.isSome (j := 1) (by decide) (by decide)) (rfl) (by decide)) rfl rfl rfl (rfl) rfl rfl ?_
  refine G.rdg rfl rfl (.loadK ag23 rfl (hKs.le L23) hs1 (by decide)) rfl rfl rfl (rfl) rfl rfl ?_
  refine G.anyg rfl rfl (.dec (.eqA eg23 rfl rfl (Eqv.bytes (d := 9998) _ _ Try.underlying23 sz5 Try.underlying5 hq1 hq1)) (decide_eq_true rfl)) rfl rfl rfl (rfl) rfl rfl ?_
  refine G.any rfl rfl (.pickT rfl rfl rfl) rfl rfl rfl ?_
  refine G.any rfl rfl (.move rfl) rfl rfl rfl ?_
  refine G.anyg rfl rfl (.move rfl) rfl rfl rfl (rfl) rfl rfl ?_
  refine G.rdg rfl rfl (.len Try.underlying24 rfl) rfl rfl rfl (rfl) rfl rfl ?_
  refine G.anyg rfl rfl (.dec (.eql rfl rfl) (decide_eq_true (by have := s10.1; rw [List.map_nil, List.length_nil] at this; omega))) rfl rfl rfl (rfl) rfl rfl ?_
  refine G.any rfl rfl (.pickT rfl rfl rfl) rfl rfl rfl ?_
  refine G.any rfl rfl (.move rfl) rfl rfl rfl ?_
  refine G.anyg rfl rfl (.move rfl) rfl rfl rfl (rfl) rfl rfl ?_
  refine G.anyg rfl rfl (.dec (.eql rfl rfl) (decide_eq_true (by decide))) rfl rfl rfl (rfl) rfl rfl ?_
  refine G.any rfl rfl (.pickT rfl rfl rfl) rfl rfl rfl ?_
  refine G.any rfl rfl (.move rfl) rfl rfl rfl ?_
  refine G.anyg rfl rfl (.move rfl) rfl rfl rfl (rfl) rfl rfl ?_
  refine G.anyg rfl rfl (.dec (.eql rfl rfl) (decide_eq_true (by decide))) rfl rfl rfl (rfl) rfl rfl ?_
  refine G.any rfl rfl (.pickT rfl rfl rfl) rfl rfl rfl ?_
  refine G.any rfl rfl (.move rfl) rfl rfl rfl ?_
  refine G.anyg rfl rfl (.move rfl) rfl rfl rfl (rfl) rfl rfl ?_
  refine G.anyg rfl rfl (.dec (.eql rfl rfl) (decide_eq_true (by decide))) rfl rfl rfl (rfl) rfl rfl ?_
  refine G.any rfl rfl (.pickT rfl rfl rfl) rfl rfl rfl ?_
  refine G.any rfl rfl (.move rfl) rfl rfl rfl ?_
  refine G.anyg rfl rfl (.move rfl) rfl rfl rfl (rfl) rfl rfl ?_
  refine G.anyg rfl rfl (.dec (.eql rfl rfl) (decide_eq_true (by decide))) rfl rfl rfl (rfl) rfl rfl ?_
  refine G.any rfl rfl (.pickT rfl rfl rfl) rfl rfl rfl ?_
  refine G.any rfl rfl (.move rfl) rfl rfl rfl ?_
  refine G.anyg rfl rfl (.move rfl) rfl rfl rfl (rfl) rfl rfl ?_
  refine G.anyg rfl rfl (.dec (.eql rfl rfl) (decide_eq_true (by decide))) rfl rfl rfl (rfl) rfl rfl ?_
  refine G.any rfl rfl (.pickT rfl rfl rfl) rfl rfl rfl ?_
  refine G.any rfl rfl (.move rfl) rfl rfl rfl ?_
  refine G.anyg rfl rfl (.move rfl) rfl rfl rfl (rfl) rfl rfl ?_
  refine G.anyg rfl rfl (.dec (.eql rfl rfl) (decide_eq_true (by simp))) rfl rfl rfl (rfl) rfl rfl ?_
  refine G.any rfl rfl (.pickT rfl rfl rfl) rfl rfl rfl ?_
  refine G.any rfl rfl (.move rfl) rfl rfl rfl ?_
  refine G.anyg rfl rfl (.move rfl) rfl rfl rfl (rfl) rfl rfl ?_
  refine G.anyg rfl rfl (.dec (.eql rfl rfl) (decide_eq_true (by simp))) rfl rfl rfl (rfl) rfl rfl ?_
  refine G.any rfl rfl (.pickT rfl rfl rfl) rfl rfl rfl ?_
  refine G.any rfl rfl (.move rfl) rfl rfl rfl ?_
  refine G.anyg rfl rfl (.move rfl) rfl rfl rfl (rfl) rfl rfl ?_
  refine G.rdg rfl rfl (.loadAll ag23 (by simp [hq0]) rfl (bz9)) rfl rfl rfl (rfl) rfl rfl ?_
  refine G.efg rfl rfl rfl rfl rfl (rfl) rfl rfl ?_
  refine Ef.call go38 rfl rfl (once_new q0 hq0 9 w23 bQ5 mQ5 (by simp [find31])) ?_
  rintro _ w23_83 ⟨rfl, mQ6, h23_83⟩
  refine ⟨_, rfl, ?_⟩
  have L23_83 : Le w6_2 w23_83 := L23.then_ h23_83 (fun q hq => by cases hq; exact Nat.le_trans L15_11.size hg)
  refine ⟨fun h => absurd h (ne_true_of_eq_false (by kernel_rfl)), ?_⟩
  refine G.anyg rfl rfl (.dec (.eql rfl rfl) (decide_eq_true (by decide))) rfl rfl rfl (rfl) rfl rfl ?_
  refine G.any rfl rfl (.pickT rfl rfl rfl) rfl rfl rfl ?_
  refine G.any rfl rfl (.assign rfl) rfl rfl rfl ?_
  refine G.nil ?_
  refine E.thenN ?_
  refine WC.ret ?_
  refine E.ret1 rfl rfl ?_
  exact ⟨rfl, hLB.trans L23_83⟩
end Go.Proofs.Ytpmjdiccekkadaa
