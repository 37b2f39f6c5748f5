/- The document's way of an onion (keys0, laid, way, filler, Shared), walked. -/
import Derived.Test.YtpmjdiccekkadaaRef31
import Derived.Test.YtpmjdiccekkadaaLaw32f
namespace Go.Proofs.Ytpmjdiccekkadaa
open Go Go.Sx Go.Hsp Go.Num Go.Osp
set_option maxRecDepth 20000
def hopN (h : Hop) : List Nat := [usg h.1, usg h.2.1, usg h.2.2.1, usg h.2.2.2.1, h.2.2.2.2.1, h.2.2.2.2.2]
theorem hopN_lt (h : Hop) (ho : HopOk h) : ∀ x ∈ hopN h, x < 18446744073709551616 := fun x hx => by
  simp [hopN] at hx
  rcases hx with rfl | rfl | rfl | rfl | rfl | rfl
  · exact usg_lt _
  · exact usg_lt _
  · exact usg_lt _
  · exact usg_lt _
  · exact ho.2.2.2.2.1
  · exact ho.2.2.2.2.2
theorem hopN_lay (h : Hop) : ((hopN h).map be8).flatten = layB h := by simp [hopN, layB]
theorem be8s_snoc (l : List Nat) (k x : Nat) (h : l[k]? = some x) : ((l.take (k + 1)).map be8).flatten = ((l.take k).map be8).flatten ++ be8 x := by
  rw [List.take_add_one, h]; simp
theorem be8s_length (l : List Nat) : ((l.map be8).flatten).length = 8 * l.length := by
  induction l with
  | nil => rfl
  | cons x l ih => simp only [List.map_cons, List.flatten_cons, List.length_append, List.length_cons, be8_length, ih]; omega
theorem getpA (ks : List Nat) {k : Nat} (h : k < ks.length) : (ks.map pv).toArray[k]? = some (pv (ks.getD k 0)) := by simp [h, List.getD]
theorem oneN {a b c d e f : Nat} : ∀ v ∈ [pv a, pv b, pv c, pv d, pv e, pv f], v.oneCell' = true := fun v hv => by
  simp at hv; rcases hv with rfl | rfl | rfl | rfl | rfl | rfl <;> rfl
theorem base_next (x k : Nat) : scale (base x) (blindB (stopB x k)) = base (nextX x k) := by
  show _ = scale 4 (mulS x (blindB (stopB x k)))
  rw [scale_mulS]; rfl
theorem rkeys_ok {A : Option Addr} {n c : Nat} {ks : List Nat} (w : World) (hK : Sl w 1 A n (ks.map pv)) (hks : ∀ k ∈ ks, k < 18446744073709551616) (_hn : n ≤ 1000000) : Calls Try.prog 71 #[.slice A n c] w fun e w' => e = .returned (.bool (keysOk ks)) ∧ Le w w' := by
  have hkl0 := hK.1
  rw [List.length_map, Nat.mul_one] at hkl0
  refine enter Try.func71 rfl rfl ?_
  have L0 := Le.refl w
  refine WC.seq ?_
  refine WC.region ?_
  refine W.any (.assign rfl) rfl rfl rfl ?_
  refine W.nil ?_
  refine E.thenN ?_
  refine WC.seq ?_
  refine WC.seq ?_
  refine WC.region ?_
  refine W.any (.move rfl) rfl rfl rfl ?_
  refine W.rd (.len Try.underlying41 rfl) rfl rfl rfl ?_
  by_cases hl1 : n < 1
  · refine W.any (.dec (.lss rfl rfl) (decide_eq_true (by omega))) rfl rfl rfl ?_
    refine W.any (.move rfl) rfl rfl rfl ?_
    refine W.skip rfl rfl rfl (rfl) rfl rfl ?_
    refine W.skip rfl rfl rfl (rfl) rfl rfl ?_
    refine W.skip rfl rfl rfl (rfl) rfl rfl ?_
    refine W.any (.pickT rfl rfl rfl) rfl rfl rfl ?_
    refine W.nil ?_
    refine E.thenN ?_
    refine WC.condT rfl ?_
    refine WC.seq ?_
    refine WC.region ?_
    refine W.any (.assign rfl) rfl rfl rfl ?_
    refine W.nil ?_
    refine E.thenN ?_
    refine WC.ret ?_
    refine E.thenR ?_
    refine E.ret1 rfl rfl ?_
    exact ⟨congrArg (fun b => Ending.returned (Value.bool b)) (Eq.symm (by simp [keysOk]; omega)), L0⟩
  · refine W.any (.dec (.lss rfl rfl) (decide_eq_false (by omega))) rfl rfl rfl ?_
    refine W.any (.move rfl) rfl rfl rfl ?_
    refine W.rdg (Any.rd (.move rfl) _) rfl rfl rfl (rfl) rfl rfl ?_
    refine W.rdg (.len Try.underlying41 rfl) rfl rfl rfl (rfl) rfl rfl ?_
    by_cases hl8 : 8 < n
    · refine W.rdg (Any.rd (.dec (.gtr rfl rfl) (decide_eq_true (by omega))) _) rfl rfl rfl (rfl) rfl rfl ?_
      refine W.any (.pickF rfl rfl rfl) rfl rfl rfl ?_
      refine W.nil ?_
      refine E.thenN ?_
      refine WC.condT rfl ?_
      refine WC.seq ?_
      refine WC.region ?_
      refine W.any (.assign rfl) rfl rfl rfl ?_
      refine W.nil ?_
      refine E.thenN ?_
      refine WC.ret ?_
      refine E.thenR ?_
      refine E.ret1 rfl rfl ?_
      exact ⟨congrArg (fun b => Ending.returned (Value.bool b)) (Eq.symm (by simp [keysOk]; omega)), L0⟩
    · refine W.rdg (Any.rd (.dec (.gtr rfl rfl) (decide_eq_false (by omega))) _) rfl rfl rfl (rfl) rfl rfl ?_
      refine W.any (.pickF rfl rfl rfl) rfl rfl rfl ?_
      refine W.nil ?_
      refine E.thenN ?_
      refine WC.condF rfl ?_
      refine WC.skip ?_
      refine E.thenN ?_
      refine WC.seq ?_
      refine WC.seq ?_
      refine WC.region ?_
      refine W.any (.assign rfl) rfl rfl rfl ?_
      refine W.nil ?_
      refine E.thenN ?_
      refine WC.block ?_
      refine WC.loop (ι := Nat) (fun k => [(0, .slice A n c), (3, .int .i64 (k : Int))]) (fun k wl => k ≤ n ∧ Le w wl ∧ (ks.take k).all keyOk = true) (fun k => n - k) 0 ?_ ?_ ?_
      · exact .cons rfl (.cons rfl (.nil _))
      · exact ⟨Nat.zero_le _, L0, rfl⟩
      · rintro k wl ⟨hk, Ll, hall⟩
        refine WC.seq ?_
        refine WC.seq ?_
        refine WC.region ?_
        refine W.any (.move rfl) rfl rfl rfl ?_
        refine W.any (.move rfl) rfl rfl rfl ?_
        refine W.rd (.len Try.underlying41 rfl) rfl rfl rfl ?_
        refine W.any (.lss rfl rfl) rfl rfl rfl ?_
        refine W.nil ?_
        refine E.thenN ?_
        refine WC.cond rfl (fun c1 => ?_) (fun c1 => ?_)
        · have hkey := getn ks (show k < ks.length by omega)
          have hkl : ks.getD k 0 < 18446744073709551616 := hks _ (List.mem_of_getElem? hkey)
          refine WC.skip ?_
          refine E.thenN ?_
          refine WC.seq ?_
          refine WC.block ?_
          refine WC.seq ?_
          refine WC.region ?_
          refine W.any (.move rfl) rfl rfl rfl ?_
          refine W.any (.move rfl) rfl rfl rfl ?_
          refine W.any (.idxS1 (k) Try.underlying41 sz49 rfl rfl (hK.isSome (j := k) (by omega) (by decide)) (rfl) (by omega)) rfl rfl rfl ?_
          refine W.rd (.loadS na49 rfl (hK.le Ll) (getp ks (by omega))) rfl rfl rfl ?_
          by_cases hrt : right (ks.getD k 0) = true
          · refine W.ef rfl rfl rfl ?_
            refine Ef.call go90 rfl rfl (rpright_T _ hkl hrt wl) ?_
            rintro _ w6_4 ⟨rfl, h6_4⟩
            refine ⟨_, rfl, ?_⟩
            have L6_4 := Ll.trans h6_4
            refine W.any (.not rfl) rfl rfl rfl ?_
            refine W.any (.move rfl) rfl rfl rfl ?_
            refine W.rdg (Any.rd (.move rfl) _) rfl rfl rfl (rfl) rfl rfl ?_
            refine W.rdg (Any.rd (.move rfl) _) rfl rfl rfl (rfl) rfl rfl ?_
            refine W.rdg (Any.rd (.idxS1 (k) Try.underlying41 sz49 rfl rfl (hK.isSome (j := k) (by omega) (by decide)) (rfl) (by omega)) _) rfl rfl rfl (rfl) rfl rfl ?_
            refine W.rdg (.loadS na49 rfl (hK.le L6_4) (getp ks (by omega))) rfl rfl rfl (rfl) rfl rfl ?_
            by_cases hk1 : ks.getD k 0 = 1
            · refine W.rdg (Any.rd (.dec (.eql rfl rfl) (decide_eq_true (by omega))) _) rfl rfl rfl (rfl) rfl rfl ?_
              refine W.any (.pickF rfl rfl rfl) rfl rfl rfl ?_
              refine W.nil ?_
              refine E.thenN ?_
              refine WC.condT rfl ?_
              refine WC.seq ?_
              refine WC.region ?_
              refine W.any (.assign rfl) rfl rfl rfl ?_
              refine W.nil ?_
              refine E.thenN ?_
              refine WC.ret ?_
              refine E.blkR ?_
              refine E.thenR ?_
              refine E.thenR ?_
              refine E.blkR ?_
              refine E.thenR ?_
              refine E.ret1 rfl rfl ?_
              exact ⟨congrArg (fun b => Ending.returned (Value.bool b)) (Eq.symm (by exact key_bad ks k _ hkey (by rw [hk1]; rfl))), L6_4⟩
            · refine W.rdg (Any.rd (.dec (.eql rfl rfl) (decide_eq_false (by omega))) _) rfl rfl rfl (rfl) rfl rfl ?_
              refine W.any (.pickF rfl rfl rfl) rfl rfl rfl ?_
              refine W.nil ?_
              refine E.thenN ?_
              refine WC.condF rfl ?_
              refine WC.skip ?_
              refine E.blkN ?_
              refine E.thenN ?_
              refine WC.region ?_
              refine W.any (.move rfl) rfl rfl rfl ?_
              refine W.any (.add rfl rfl (by omega)) rfl rfl rfl ?_
              refine W.any (.assign rfl) rfl rfl rfl ?_
              refine W.nil ?_
              refine E.again (k + 1) (.cons rfl (.cons rfl (.nil _))) ?_ ?_
              · exact ⟨by omega, L6_4, by rw [keys_all ks k _ hkey hall]; exact keyOk_yes hk1 hrt⟩
              · first | omega | (simp only []; omega)
          · refine W.ef rfl rfl rfl ?_
            refine Ef.call go90 rfl rfl (rpright_F _ hkl (by simpa using hrt) wl) ?_
            rintro _ w6_4 ⟨rfl, h6_4⟩
            refine ⟨_, rfl, ?_⟩
            have L6_4 := Ll.trans h6_4
            refine W.any (.not rfl) rfl rfl rfl ?_
            refine W.any (.move rfl) rfl rfl rfl ?_
            refine W.skip rfl rfl rfl (rfl) rfl rfl ?_
            refine W.skip rfl rfl rfl (rfl) rfl rfl ?_
            refine W.skip rfl rfl rfl (rfl) rfl rfl ?_
            refine W.skip rfl rfl rfl (rfl) rfl rfl ?_
            refine W.skip rfl rfl rfl (rfl) rfl rfl ?_
            refine W.any (.pickT rfl rfl rfl) rfl rfl rfl ?_
            refine W.nil ?_
            refine E.thenN ?_
            refine WC.condT rfl ?_
            refine WC.seq ?_
            refine WC.region ?_
            refine W.any (.assign rfl) rfl rfl rfl ?_
            refine W.nil ?_
            refine E.thenN ?_
            refine WC.ret ?_
            refine E.blkR ?_
            refine E.thenR ?_
            refine E.thenR ?_
            refine E.blkR ?_
            refine E.thenR ?_
            refine E.ret1 rfl rfl ?_
            exact ⟨congrArg (fun b => Ending.returned (Value.bool b)) (Eq.symm (by exact key_bad ks k _ hkey (keyOk_no (by simpa using hrt)))), L6_4⟩
        · have hkn : n = k := by omega
          subst hkn
          rw [List.take_of_length_le (by omega)] at hall
          refine WC.exit ?_
          refine E.thenX ?_
          refine E.thenX ?_
          refine E.blkH ?_
          refine E.thenN ?_
          refine WC.seq ?_
          refine WC.region ?_
          refine W.any (.assign rfl) rfl rfl rfl ?_
          refine W.nil ?_
          refine E.thenN ?_
          refine WC.ret ?_
          refine E.ret1 rfl rfl ?_
          exact ⟨congrArg (fun b => Ending.returned (Value.bool b)) (Eq.symm (by rw [keysOk, hall]; simp; omega)), Ll⟩

theorem rkeys_T {A : Option Addr} {n c : Nat} {ks : List Nat} (w : World) (hK : Sl w 1 A n (ks.map pv)) (hks : ∀ k ∈ ks, k < 18446744073709551616) (_hn : n ≤ 1000000) (hy : keysOk ks = true) : Calls Try.prog 71 #[.slice A n c] w fun e w' => e = .returned (.bool true) ∧ Le w w' := by
  have := rkeys_ok (c := c) w hK hks _hn
  rwa [hy] at this

theorem rkeys_F {A : Option Addr} {n c : Nat} {ks : List Nat} (w : World) (hK : Sl w 1 A n (ks.map pv)) (hks : ∀ k ∈ ks, k < 18446744073709551616) (_hn : n ≤ 1000000) (hy : keysOk ks = false) : Calls Try.prog 71 #[.slice A n c] w fun e w' => e = .returned (.bool false) ∧ Le w w' := by
  have := rkeys_ok (c := c) w hK hks _hn
  rwa [hy] at this

theorem rlaid_ok (h : Hop) (ho : HopOk h) (w : World) : Calls Try.prog 75 #[.agg (hopV h).toArray] w fun e w' => ∃ A' c', e = .returned (.slice A' (48) c') ∧ Sx.Own w' w.heap.size 5 1 A' (48) c' ((layB h).map u8v) ∧ Le w w' := by
  refine enter Try.func75 rfl rfl ?_
  have L0 := Le.refl w
  refine WC.seq ?_
  refine WC.region ?_
  refine W.ef rfl rfl rfl ?_
  refine Ef.boxA rfl ?_
  intro g0_0 w0_0 hg0_0 b0_0 h0_0
  have L0_0 := L0.trans h0_0
  have LL := Le.refl w0_0
  refine W.any (.assign rfl) rfl rfl rfl ?_
  refine W.nil ?_
  refine E.thenN ?_
  refine WC.seq ?_
  refine WC.region ?_
  refine W.any (.field0 fa51_0 rfl) rfl rfl rfl ?_
  refine W.rd (.loadB na3 rfl (b0_0.le LL) (rfl)) rfl rfl rfl ?_
  refine W.rd (.convEq (isS Try.underlying3) Try.underlying47 rfl (wrap_usg _)) rfl rfl rfl ?_
  refine W.any (.field0 fa51_1 rfl) rfl rfl rfl ?_
  refine W.rd (.loadB na3 rfl (b0_0.le LL) (rfl)) rfl rfl rfl ?_
  refine W.rd (.convEq (isS Try.underlying3) Try.underlying47 rfl (wrap_usg _)) rfl rfl rfl ?_
  refine W.any (.field0 fa51_2 rfl) rfl rfl rfl ?_
  refine W.rd (.loadB na3 rfl (b0_0.le LL) (rfl)) rfl rfl rfl ?_
  refine W.rd (.convEq (isS Try.underlying3) Try.underlying47 rfl (wrap_usg _)) rfl rfl rfl ?_
  refine W.any (.field0 fa51_3 rfl) rfl rfl rfl ?_
  refine W.rd (.loadB na3 rfl (b0_0.le LL) (rfl)) rfl rfl rfl ?_
  refine W.rd (.convEq (isS Try.underlying3) Try.underlying47 rfl (wrap_usg _)) rfl rfl rfl ?_
  refine W.any (.field0 fa51_4 rfl) rfl rfl rfl ?_
  refine W.rd (.loadB na49 rfl (b0_0.le LL) (rfl)) rfl rfl rfl ?_
  refine W.any (.field0 fa51_5 rfl) rfl rfl rfl ?_
  refine W.rd (.loadB na48 rfl (b0_0.le LL) (rfl)) rfl rfl rfl ?_
  refine W.ef rfl rfl rfl ?_
  refine Ef.buildSliceN [_, _, _, _, _, _] Try.underlying142 el47 rfl oneN rfl (by decide) (by decide) ?_
  intro g1_16 w1_16 hg1_16 b1_16 h1_16
  have L1_16 := LL.trans h1_16
  have bn : Blk w1_16 g1_16 47 ((hopN h).map pv).toArray := b1_16
  have LM := Le.refl w1_16
  have hL0 := h0_0.trans L1_16
  refine W.any (.assign rfl) rfl rfl rfl ?_
  refine W.nil ?_
  refine E.thenN ?_
  refine WC.seq ?_
  refine WC.region ?_
  refine W.any (.assign rfl) rfl rfl rfl ?_
  refine W.nil ?_
  refine E.thenN ?_
  refine WC.seq ?_
  refine WC.seq ?_
  refine WC.region ?_
  refine W.any (.assign rfl) rfl rfl rfl ?_
  refine W.nil ?_
  refine E.thenN ?_
  refine WC.block ?_
  refine WC.loop (ι := Nat × Option Addr × Nat) (fun ⟨k, A1, cp⟩ => [(3, .slice (some ⟨g1_16, 0, none⟩) 6 6), (4, .slice A1 (8 * k) cp), (5, .int .i64 (k : Int))]) (fun ⟨k, A1, cp⟩ wl => k ≤ 6 ∧ Le w1_16 wl ∧ Sx.Own wl w1_16.heap.size 5 1 A1 (8 * k) cp (((((hopN h).take k).map be8).flatten).map u8v)) (fun ⟨k, A1, cp⟩ => 6 - k) (0, none, 0) ?_ ?_ ?_
  · exact .cons rfl (.cons rfl (.cons rfl (.nil _)))
  · exact ⟨by omega, LM, Own.nil _ _ _ _ _⟩
  · rintro ⟨k, A1, cp⟩ wl ⟨hk, Ll, ol⟩
    refine WC.seq ?_
    refine WC.seq ?_
    refine WC.region ?_
    refine W.any (.move rfl) rfl rfl rfl ?_
    refine W.any (.lss rfl rfl) rfl rfl rfl ?_
    refine W.nil ?_
    refine E.thenN ?_
    refine WC.cond rfl (fun c0 => ?_) (fun c0 => ?_)
    · have hx := getn (hopN h) (show k < (hopN h).length from (by omega : k < 6))
      have hxl := hopN_lt h ho _ (List.mem_of_getElem? hx)
      refine WC.skip ?_
      refine E.thenN ?_
      refine WC.seq ?_
      refine WC.block ?_
      refine WC.region ?_
      refine W.any (.move rfl) rfl rfl rfl ?_
      refine W.any (.move rfl) rfl rfl rfl ?_
      refine W.any (.move rfl) rfl rfl rfl ?_
      refine W.any (.idxB1 (k) Try.underlying142 sz47 rfl rfl (rfl) (by omega)) rfl rfl rfl ?_
      refine W.rd (.loadB na47 rfl (bn.le Ll) (getpA (hopN h) (by omega : k < 6))) rfl rfl rfl ?_
      refine W.ef rfl rfl rfl ?_
      refine Ef.call go80 rfl rfl (r8_ok _ hxl wl) ?_
      rintro _ w6_5 ⟨A5, c5, rfl, o5, h6_5⟩
      refine ⟨_, rfl, ?_⟩
      have L6_5 := Ll.trans h6_5
      refine W.ef rfl rfl rfl ?_
      refine Ef.append Try.underlying24 el5 rfl (ol.le h6_5) rfl (o5.sb.src Try.underlying24 _) (by omega) (by unfold maxLen; omega) (L6_5.size) ?_
      intro A6_6 c6_6 w6_6 o6_6 h6_6 at6_6
      have L6_6 : Le w1_16 w6_6 := L6_5.then_ h6_6 (fun q hq => (ol.row hq).1)
      refine W.any (.assign rfl) rfl rfl rfl ?_
      refine W.nil ?_
      refine E.blkN ?_
      refine E.thenN ?_
      refine WC.region ?_
      refine W.any (.move rfl) rfl rfl rfl ?_
      refine W.any (.add rfl rfl (by omega)) rfl rfl rfl ?_
      refine W.any (.assign rfl) rfl rfl rfl ?_
      refine W.nil ?_
      refine E.again (k + 1, A6_6, c6_6) (.cons rfl (.cons' rfl (slice_eq (by omega)) (.cons rfl (.nil _)))) ?_ ?_
      · exact ⟨by omega, L6_6, o6_6.cast (by omega) (by rw [be8s_snoc _ k _ hx, List.map_append])⟩
      · first | omega | (simp only []; omega)
    · have hk6 : k = 6 := by omega
      subst hk6
      refine WC.exit ?_
      refine E.thenX ?_
      refine E.thenX ?_
      refine E.blkH ?_
      refine E.thenN ?_
      refine WC.seq ?_
      refine WC.region ?_
      refine W.any (.move rfl) rfl rfl rfl ?_
      refine W.any (.assign rfl) rfl rfl rfl ?_
      refine W.nil ?_
      refine E.thenN ?_
      refine WC.ret ?_
      refine E.ret1 rfl rfl ?_
      exact ⟨A1, cp, rfl, (ol.mono hL0.size).cast rfl (by rw [show (hopN h).take 6 = hopN h from rfl, hopN_lay]), hL0.trans Ll⟩

set_option maxHeartbeats 1000000 in
theorem rway_ok (seed : List Byte) (hse : seed.length = 32) {A : Option Addr} {n c : Nat} {ks : List Nat} (w : World) (hK : Sl w 1 A n (ks.map pv)) (hks : ∀ k ∈ ks, k < 18446744073709551616) (_hn : n ≤ 1000000) : Calls Try.prog 73 #[.slice A n c, .agg (seed.map u8v).toArray] w fun e w' => ∃ A1 c1 A2 c2, e = .returned (.tuple #[.slice A1 n c1, .slice A2 n c2]) ∧ Sx.Own w' w.heap.size 49 1 A1 n c1 (((wayB (startX seed) ks).map Prod.fst).map pv) ∧ Sx.Own w' w.heap.size 23 32 A2 n c2 ((((wayB (startX seed) ks).map Prod.snd).map fun q => q.map u8v).flatten) ∧ Le w w' := by
  have hkl0 := hK.1
  rw [List.length_map, Nat.mul_one] at hkl0
  refine enter Try.func73 rfl rfl ?_
  have L0 := Le.refl w
  refine WC.seq ?_
  refine WC.region ?_
  refine W.ef rfl rfl rfl ?_
  refine Ef.boxA rfl ?_
  intro g0_0 w0_0 hg0_0 b0_0 h0_0
  have L0_0 := L0.trans h0_0
  have LL := Le.refl w0_0
  refine W.any (.assign rfl) rfl rfl rfl ?_
  refine W.any (.assign rfl) rfl rfl rfl ?_
  refine W.nil ?_
  refine E.thenN ?_
  refine WC.seq ?_
  refine WC.region ?_
  refine W.any (.cutArr Try.underlying23 sz5 rfl) rfl rfl rfl ?_
  refine W.ef rfl rfl rfl ?_
  refine Ef.buildSlice1 Try.underlying135 el24 rfl rfl ?_
  intro g1_1 w1_1 hg1_1 b1_1 h1_1
  have L1_1 := LL.trans h1_1
  refine W.ef rfl rfl rfl ?_
  refine Ef.call go56 rfl rfl (rtag_ok _ nOnion w1_1 (ps := [seed]) rfl (b1_1.sl (s := 1) (n := 1) rfl) (.cons ((b0_0.le h1_1).sb hse) (.nil _)) (by rw [tagLen1, hse]; decide)) ?_
  rintro _ w1_2 ⟨rfl, h1_2⟩
  refine ⟨_, rfl, ?_⟩
  have L1_2 := L1_1.trans h1_2
  refine W.ef rfl rfl rfl ?_
  refine Ef.call go113 rfl rfl (rfrom_ok _ (tag_length _ _) w1_2) ?_
  rintro _ w1_3 ⟨rfl, h1_3⟩
  refine ⟨_, rfl, ?_⟩
  have L1_3 := L1_2.trans h1_3
  refine W.any (.assign rfl) rfl rfl rfl ?_
  refine W.nil ?_
  refine E.thenN ?_
  refine WC.seq ?_
  refine WC.region ?_
  refine W.any (.move rfl) rfl rfl rfl ?_
  refine W.ef rfl rfl rfl ?_
  refine Ef.call go114 rfl rfl (rbase_ok _ w1_3) ?_
  rintro _ w2_1 ⟨rfl, h2_1⟩
  refine ⟨_, rfl, ?_⟩
  have L2_1 := L1_3.trans h2_1
  refine W.any (.assign rfl) rfl rfl rfl ?_
  refine W.nil ?_
  refine E.thenN ?_
  refine WC.seq ?_
  refine WC.region ?_
  refine W.any (.assign rfl) rfl rfl rfl ?_
  refine W.nil ?_
  refine E.thenN ?_
  refine WC.seq ?_
  refine WC.region ?_
  refine W.any (.assign rfl) rfl rfl rfl ?_
  refine W.nil ?_
  refine E.thenN ?_
  refine WC.seq ?_
  refine WC.seq ?_
  refine WC.region ?_
  refine W.any (.assign rfl) rfl rfl rfl ?_
  refine W.nil ?_
  refine E.thenN ?_
  refine WC.block ?_
  refine WC.loop (ι := Nat × (Option Addr × Nat) × Option Addr × Nat) (fun ⟨k, ⟨A1, e1⟩, A2, e2⟩ => [(0, .slice A n c), (6, .int .u64 (((xAt (startX seed) (ks.take k)) : Nat) : Int)), (7, .int .u64 ((base (xAt (startX seed) (ks.take k)) : Nat) : Int)), (8, .slice A1 k e1), (9, .slice A2 k e2), (10, .int .i64 (k : Int))]) (fun ⟨k, ⟨A1, e1⟩, A2, e2⟩ wl => k ≤ n ∧ Le w0_0 wl ∧ Sx.Own wl w0_0.heap.size 49 1 A1 k e1 (((wayB (startX seed) (ks.take k)).map Prod.fst).map pv) ∧ Sx.Own wl w0_0.heap.size 23 32 A2 k e2 ((((wayB (startX seed) (ks.take k)).map Prod.snd).map fun q => q.map u8v).flatten) ∧ (∀ g, rowOf A2 e2 = some g → rowOf A1 e1 ≠ some g)) (fun ⟨k, ⟨A1, e1⟩, A2, e2⟩ => n - k) (0, (none, 0), none, 0) ?_ ?_ ?_
  · exact .cons rfl (.cons rfl (.cons rfl (.cons rfl (.cons rfl (.cons rfl (.nil _))))))
  · exact ⟨Nat.zero_le _, L2_1, Own.nil _ _ _ _ _, Own.nil _ _ _ _ _, fun g hg => by simp [rowOf_zero] at hg⟩
  · rintro ⟨k, ⟨A1, e1⟩, A2, e2⟩ wl ⟨hk, Ll, oe, os, dj⟩
    refine WC.seq ?_
    refine WC.seq ?_
    refine WC.region ?_
    refine W.any (.move rfl) rfl rfl rfl ?_
    refine W.any (.move rfl) rfl rfl rfl ?_
    refine W.rd (.len Try.underlying41 rfl) rfl rfl rfl ?_
    refine W.any (.lss rfl rfl) rfl rfl rfl ?_
    refine W.nil ?_
    refine E.thenN ?_
    refine WC.cond rfl (fun c0 => ?_) (fun c0 => ?_)
    · have hkey := getn ks (show k < ks.length by omega)
      have hkl : ks.getD k 0 < 18446744073709551616 := hks _ (List.mem_of_getElem? hkey)
      have os0 := os
      have oe0 := oe
      refine WC.skip ?_
      refine E.thenN ?_
      refine WC.seq ?_
      refine WC.block ?_
      refine WC.seq ?_
      refine WC.region ?_
      refine W.any (.move rfl) rfl rfl rfl ?_
      refine W.any (.move rfl) rfl rfl rfl ?_
      refine W.any (.idxS1 (k) Try.underlying41 sz49 rfl rfl (hK.isSome (j := k) (by omega) (by decide)) (rfl) (by omega)) rfl rfl rfl ?_
      refine W.rd (.loadS na49 rfl (hK.le (h0_0.trans Ll)) (getp ks (by omega))) rfl rfl rfl ?_
      refine W.any (.move rfl) rfl rfl rfl ?_
      refine W.ef rfl rfl rfl ?_
      refine Ef.call go92 rfl rfl (rscale_ok _ _ hkl wl) ?_
      rintro _ w8_5 ⟨rfl, h8_5⟩
      refine ⟨_, rfl, ?_⟩
      have L8_5 := Ll.trans h8_5
      refine W.ef rfl rfl rfl ?_
      refine Ef.call go91 rfl rfl (rshared_ok _ (scale_64 _ _) w8_5) ?_
      rintro _ w8_6 ⟨rfl, h8_6⟩
      refine ⟨_, rfl, ?_⟩
      have L8_6 := L8_5.trans h8_6
      refine W.ef rfl rfl rfl ?_
      refine Ef.allocA z23 ?_
      intro g8_7 w8_7 hg8_7 b8_7 h8_7
      have L8_7 := L8_6.trans h8_7
      refine W.ef0 rfl rfl ?_
      refine Ef.storeAll sz23 (by simp [sharedB_length]) rfl rfl (b8_7) (by simp [sharedB_length]) (all_u8v _) ?_
      intro w8_8 b8_8 h8_8
      have L8_8 : Le w0_0 w8_8 := L8_7.then_ h8_8 (fun q hq => by cases hq; exact Nat.le_trans L8_6.size hg8_7)
      have e86 : Le wl w8_7 := h8_5.trans (h8_6.trans h8_7)
      have oe := (oe.le e86).ch h8_8 (fun q hq => by cases hq; exact fun he => by have := (oe.row he).2; have := h8_5.size; have := h8_6.size; omega)
      have os := (os.le e86).ch h8_8 (fun q hq => by cases hq; exact fun he => by have := (os.row he).2; have := h8_5.size; have := h8_6.size; omega)
      have ng1 : rowOf A1 e1 ≠ some g8_7 := fun he => by have := (oe0.row he).2; have := h8_5.size; have := h8_6.size; omega
      have ng2 : rowOf A2 e2 ≠ some g8_7 := fun he => by have := (os0.row he).2; have := h8_5.size; have := h8_6.size; omega
      refine W.nil ?_
      refine E.thenN ?_
      refine WC.seq ?_
      refine WC.region ?_
      refine W.any (.move rfl) rfl rfl rfl ?_
      refine W.rd (.loadAll ag23 (by simp [sharedB_length]) rfl (b8_8)) rfl rfl rfl ?_
      refine W.ef rfl rfl rfl ?_
      refine Ef.call go94 rfl rfl (rblind_ok (stopB (xAt (startX seed) (ks.take k)) (ks.getD k 0)) (sharedB_length _) (base_lt _) w8_8) ?_
      rintro _ w9_2 ⟨rfl, h9_2⟩
      refine ⟨_, rfl, ?_⟩
      have L9_2 := L8_8.trans h9_2
      refine W.any (.assign rfl) rfl rfl rfl ?_
      refine W.nil ?_
      refine E.thenN ?_
      refine WC.seq ?_
      refine WC.region ?_
      refine W.any (.move rfl) rfl rfl rfl ?_
      refine W.any (.move rfl) rfl rfl rfl ?_
      refine W.ef rfl rfl rfl ?_
      refine Ef.buildSlice1 Try.underlying41 el49 rfl rfl ?_
      intro g10_2 w10_2 hg10_2 b10_2 h10_2
      have L10_2 := L9_2.trans h10_2
      refine W.ef rfl rfl rfl ?_
      refine Ef.append Try.underlying41 el49 rfl ((oe.le h9_2).le h10_2) rfl (b10_2.src1 Try.underlying41 rfl) (by omega) (by unfold maxLen; omega) (L10_2.size) ?_
      intro A10_3 c10_3 w10_3 o10_3 h10_3 at10_3
      have L10_3 : Le w0_0 w10_3 := L10_2.then_ h10_3 (fun q hq => (oe.row hq).1)
      have bs2 := ((b8_8.le h9_2).le h10_2).ch h10_3 ng1
      have os := ((os.le h9_2).le h10_2).ch h10_3 (fun q hq => fun he => dj q he hq)
      have dj2 : ∀ g, rowOf A2 e2 = some g → rowOf A10_3 c10_3 ≠ some g := fun g hg => at10_3.off (by have := (os0.row hg).2; have := e86.size; have := h8_8.size; have := h9_2.size; have := h10_2.size; omega) (dj g hg)
      refine W.any (.assign rfl) rfl rfl rfl ?_
      refine W.nil ?_
      refine E.thenN ?_
      refine WC.seq ?_
      refine WC.region ?_
      refine W.any (.move rfl) rfl rfl rfl ?_
      refine W.rd (.loadAll ag23 (by simp [sharedB_length]) rfl (bs2)) rfl rfl rfl ?_
      refine W.ef rfl rfl rfl ?_
      refine Ef.buildSliceA Try.underlying25 el23 (by decide) rfl (by simp [sharedB_length]) ?_
      intro g11_2 w11_2 hg11_2 b11_2 h11_2
      have L11_2 := L10_3.trans h11_2
      refine W.ef rfl rfl rfl ?_
      refine Ef.append Try.underlying25 el23 rfl (os.le h11_2) rfl (b11_2.srcA Try.underlying25 (by simp [sharedB_length]) (by decide) (all_u8v _)) (by omega) (by unfold maxLen; omega) (L11_2.size) ?_
      intro A11_3 c11_3 w11_3 o11_3 h11_3 at11_3
      have L11_3 : Le w0_0 w11_3 := L11_2.then_ h11_3 (fun q hq => (os.row hq).1)
      have os3 := o11_3
      have oe3 := (o10_3.le h11_2).ch h11_3 (fun q hq => dj2 q hq)
      have dj3 : ∀ g, rowOf A11_3 c11_3 = some g → rowOf A10_3 c10_3 ≠ some g := fun g hg he => at11_3.off (by have := (o10_3.row he).2; have := h11_2.size; omega) (fun h2 => dj2 g h2 he) hg
      refine W.any (.assign rfl) rfl rfl rfl ?_
      refine W.nil ?_
      refine E.thenN ?_
      refine WC.seq ?_
      refine WC.region ?_
      refine W.any (.move rfl) rfl rfl rfl ?_
      refine W.any (.move rfl) rfl rfl rfl ?_
      refine W.ef rfl rfl rfl ?_
      refine Ef.call go115 rfl rfl (rfmul_ok _ _ w11_3) ?_
      rintro _ w12_2 ⟨rfl, h12_2⟩
      refine ⟨_, rfl, ?_⟩
      have L12_2 := L11_3.trans h12_2
      refine W.any (.assign rfl) rfl rfl rfl ?_
      refine W.nil ?_
      refine E.thenN ?_
      refine WC.region ?_
      refine W.any (.move rfl) rfl rfl rfl ?_
      refine W.any (.move rfl) rfl rfl rfl ?_
      refine W.ef rfl rfl rfl ?_
      refine Ef.call go92 rfl rfl (rscale_ok _ _ (base_lt _) w12_2) ?_
      rintro _ w13_2 ⟨rfl, h13_2⟩
      refine ⟨_, rfl, ?_⟩
      have L13_2 := L12_2.trans h13_2
      refine W.any (.assign rfl) rfl rfl rfl ?_
      refine W.nil ?_
      refine E.blkN ?_
      refine E.thenN ?_
      refine WC.region ?_
      refine W.any (.move rfl) rfl rfl rfl ?_
      refine W.any (.add rfl rfl (by omega)) rfl rfl rfl ?_
      refine W.any (.assign rfl) rfl rfl rfl ?_
      refine W.nil ?_
      refine E.again (k + 1, (A10_3, c10_3), A11_3, c11_3) (.cons rfl (.cons' rfl (int_eq (congrArg Nat.cast (by rw [xAt_snoc _ ks k _ hkey]; rfl))) (.cons' rfl (int_eq (congrArg Nat.cast (by rw [xAt_snoc _ ks k _ hkey]; exact base_next _ _))) (.cons rfl (.cons rfl (.cons rfl (.nil _))))))) ?_ ?_
      · exact ⟨by omega, L13_2, (oe3.le (h12_2.trans h13_2)).cast rfl (by rw [wayB_snoc _ ks k _ hkey]; simp [stopB, pv]), (os3.le (h12_2.trans h13_2)).cast rfl (by rw [wayB_snoc _ ks k _ hkey]; simp [stopB]), dj3⟩
      · first | omega | (simp only []; omega)
    · have hkn : n = k := by omega
      subst hkn
      rw [List.take_of_length_le (by omega)] at oe os
      refine WC.exit ?_
      refine E.thenX ?_
      refine E.thenX ?_
      refine E.blkH ?_
      refine E.thenN ?_
      refine WC.seq ?_
      refine WC.region ?_
      refine W.any (.move rfl) rfl rfl rfl ?_
      refine W.any (.move rfl) rfl rfl rfl ?_
      refine W.any (.assign rfl) rfl rfl rfl ?_
      refine W.any (.assign rfl) rfl rfl rfl ?_
      refine W.nil ?_
      refine E.thenN ?_
      refine WC.ret ?_
      refine E.ret2 rfl rfl rfl ?_
      exact ⟨A1, e1, A2, e2, rfl, oe.mono h0_0.size, os.mono h0_0.size, h0_0.trans Ll⟩

set_option maxHeartbeats 1000000 in
theorem rfiller_ok {A : Option Addr} {n c : Nat} {l : List Stop} (w : World) (hR : Ks w 32 A n (l.map Prod.snd)) (h1 : 1 ≤ n) (h8 : n ≤ 8) : Calls Try.prog 78 #[.slice A n c] w fun e w' => ∃ A' c', e = .returned (.slice A' (80 * (n - 1)) c') ∧ Sx.Own w' w.heap.size 5 1 A' (80 * (n - 1)) c' ((filler l).map u8v) ∧ Le w w' := by
  have hll : l.length = n := by have := hR.1; simpa using this
  refine enter Try.func78 rfl rfl ?_
  have L0 := Le.refl w
  refine WC.seq ?_
  refine WC.region ?_
  refine W.any (.assign rfl) rfl rfl rfl ?_
  refine W.nil ?_
  refine E.thenN ?_
  refine WC.seq ?_
  refine WC.region ?_
  refine W.any (.assign rfl) rfl rfl rfl ?_
  refine W.nil ?_
  refine E.thenN ?_
  refine WC.seq ?_
  refine WC.seq ?_
  refine WC.region ?_
  refine W.any (.assign rfl) rfl rfl rfl ?_
  refine W.nil ?_
  refine E.thenN ?_
  refine WC.block ?_
  refine WC.loop (ι := Nat × Option Addr × Nat) (fun ⟨k, A1, cp⟩ => [(0, .slice A n c), (3, .slice A1 (80 * k) cp), (4, .int .i64 (k : Int))]) (fun ⟨k, A1, cp⟩ wl => k ≤ n - 1 ∧ Le w wl ∧ Sx.Own wl w.heap.size 5 1 A1 (80 * k) cp ((fillTo [] (l.take k)).map u8v)) (fun ⟨k, A1, cp⟩ => n - 1 - k) (0, none, 0) ?_ ?_ ?_
  · exact .cons rfl (.cons rfl (.cons rfl (.nil _)))
  · exact ⟨Nat.zero_le _, L0, Own.nil _ _ _ _ _⟩
  · rintro ⟨k, A1, cp⟩ wl ⟨hkn, Ll, ol⟩
    have hfl : (fillTo [] (l.take k)).length = 80 * k := by rw [fillTo_length _ _ (by simp [List.length_take]; omega)]; simp [List.length_take]; omega
    refine WC.seq ?_
    refine WC.seq ?_
    refine WC.region ?_
    refine W.any (.move rfl) rfl rfl rfl ?_
    refine W.any (.add rfl rfl (by omega)) rfl rfl rfl ?_
    refine W.any (.move rfl) rfl rfl rfl ?_
    refine W.rd (.len Try.underlying25 rfl) rfl rfl rfl ?_
    refine W.any (.lss rfl rfl) rfl rfl rfl ?_
    refine W.nil ?_
    refine E.thenN ?_
    refine WC.cond rfl (fun c0 => ?_) (fun c0 => ?_)
    · obtain ⟨s, hs⟩ : ∃ s, l[k]? = some s := ⟨_, List.getElem?_eq_getElem (by omega)⟩
      have hsm : (l.map Prod.snd)[k]? = some s.2 := by rw [List.getElem?_map, hs]; rfl
      have hs32 : s.2.length = 32 := hR.2.1 _ (List.mem_of_getElem? hsm)
      refine WC.skip ?_
      refine E.thenN ?_
      refine WC.seq ?_
      refine WC.block ?_
      refine WC.seq ?_
      refine WC.region ?_
      refine W.ef rfl rfl rfl ?_
      refine Ef.makeSlice 80 80 Try.underlying24 el5 rfl rfl rfl rfl (by decide) (by decide) (by decide) ?_
      intro g5_0 w5_0 hg5_0 b5_0 h5_0
      have L5_0 := Ll.trans h5_0
      have bz : Blk w5_0 g5_0 5 ((zeros 80).map u8v).toArray := b5_0.cast (made_u8 80)
      refine W.any (.assign rfl) rfl rfl rfl ?_
      refine W.nil ?_
      refine E.thenN ?_
      refine WC.seq ?_
      refine WC.region ?_
      refine W.any (.move rfl) rfl rfl rfl ?_
      refine W.any (.move rfl) rfl rfl rfl ?_
      refine W.ef rfl rfl rfl ?_
      refine Ef.append Try.underlying24 el5 rfl (ol.le h5_0) rfl ((bz.sb (zeros_length 80)).src Try.underlying24 _) (by omega) (by unfold maxLen; omega) (L5_0.size) ?_
      intro A6_2 c6_2 w6_2 o6_2 h6_2 at6_2
      have L6_2 : Le w w6_2 := L5_0.then_ h6_2 (fun q hq => (ol.row hq).1)
      have o6 : Sx.Own w6_2 w.heap.size 5 1 A6_2 (80 * k + 80) c6_2 ((fillTo [] (l.take k) ++ zeros 80).map u8v) := o6_2.cast rfl (by rw [List.map_append])
      refine W.any (.assign rfl) rfl rfl rfl ?_
      refine W.nil ?_
      refine E.thenN ?_
      refine WC.seq ?_
      refine WC.region ?_
      refine W.any (.move rfl) rfl rfl rfl ?_
      refine W.any (.move rfl) rfl rfl rfl ?_
      refine W.any (.idxS (k) Try.underlying25 sz23 rfl rfl (hR.2.2.isSome (j := k) (by omega) (by decide)) (rfl) (by omega)) rfl rfl rfl ?_
      refine W.rd (.loadK ag23 rfl (hR.le L6_2) hsm (by decide)) rfl rfl rfl ?_
      refine W.ef rfl rfl rfl ?_
      refine Ef.call go77 rfl rfl (rrho_ok s hs32 720 (by decide) w6_2) ?_
      rintro _ w7_4 ⟨A5, c5, rfl, o5, h7_4⟩
      refine ⟨_, rfl, ?_⟩
      have L7_4 := L6_2.trans h7_4
      have o6 := o6.le h7_4
      refine W.any (.assign rfl) rfl rfl rfl ?_
      refine W.nil ?_
      refine E.thenN ?_
      refine WC.region ?_
      refine W.any (.move rfl) rfl rfl rfl ?_
      refine W.any (.move rfl) rfl rfl rfl ?_
      refine W.any (.move rfl) rfl rfl rfl ?_
      refine W.rd (.len Try.underlying24 rfl) rfl rfl rfl ?_
      refine W.any (.move rfl) rfl rfl rfl ?_
      refine W.rd (.len Try.underlying24 rfl) rfl rfl rfl ?_
      refine W.any (.sub rfl rfl (by omega)) rfl rfl rfl ?_
      refine W.any (.cutL (720 - (80 * k + 80)) Try.underlying24 sz5 rfl rfl (by omega) (by omega) (o5.cap.1)) rfl rfl rfl ?_
      have hx : ∀ w, Sb w (cutA A5 c5 (720 - (80 * k + 80)) 1) (80 * k + 80) ((rho s 720).drop (720 - (80 * k + 80))) → Sb w A6_2 (80 * k + 80) (fillTo [] (l.take k) ++ zeros 80) → Calls Try.prog 76 #[.slice A6_2 (80 * k + 80) c6_2, .slice (cutA A5 c5 (720 - (80 * k + 80)) 1) (720 - (720 - (80 * k + 80))) (c5 - (720 - (80 * k + 80)))] w fun e w' => ∃ A' c', e = .returned (.slice A' (80 * k + 80) c') ∧ Sx.Own w' w.heap.size 5 1 A' (80 * k + 80) c' ((xorB (fillTo [] (l.take k) ++ zeros 80) ((rho s 720).drop (720 - (80 * k + 80)))).map u8v) ∧ Le w w' := fun w h1 h2 => by
        rw [show 720 - (720 - (80 * k + 80)) = 80 * k + 80 by omega]
        exact changed_ok w h2 h1 (by omega)
      refine W.ef rfl rfl rfl ?_
      refine Ef.call go76 rfl rfl (hx w7_4 (by have h := o5.sb.cutL c5 (720 - (80 * k + 80)) (by omega) o5.cap.1; rwa [show 720 - (720 - (80 * k + 80)) = 80 * k + 80 by omega] at h) o6.sb) ?_
      rintro _ w8_8 ⟨A8, c8, rfl, o8, h8_8⟩
      refine ⟨_, rfl, ?_⟩
      have L8_8 := L7_4.trans h8_8
      refine W.any (.assign rfl) rfl rfl rfl ?_
      refine W.nil ?_
      refine E.blkN ?_
      refine E.thenN ?_
      refine WC.region ?_
      refine W.any (.move rfl) rfl rfl rfl ?_
      refine W.any (.add rfl rfl (by omega)) rfl rfl rfl ?_
      refine W.any (.assign rfl) rfl rfl rfl ?_
      refine W.nil ?_
      refine E.again (k + 1, A8, c8) (.cons rfl (.cons' rfl (slice_eq (by omega)) (.cons rfl (.nil _)))) ?_ ?_
      · exact ⟨by omega, L8_8, (o8.mono L7_4.size).cast (by omega) (by rw [fillTo_snoc l k s hs, fillS, hfl])⟩
      · first | omega | (simp only []; omega)
    · have hkn : k = n - 1 := by omega
      subst hkn
      refine WC.exit ?_
      refine E.thenX ?_
      refine E.thenX ?_
      refine E.blkH ?_
      refine E.thenN ?_
      refine WC.seq ?_
      refine WC.region ?_
      refine W.any (.move rfl) rfl rfl rfl ?_
      refine W.any (.assign rfl) rfl rfl rfl ?_
      refine W.nil ?_
      refine E.thenN ?_
      refine WC.ret ?_
      refine E.ret1 rfl rfl ?_
      exact ⟨A1, cp, rfl, ol.cast rfl (by rw [filler, hll]), Ll⟩

theorem rsharedF (seed : List Byte) {A : Option Addr} {n c : Nat} {ks : List Nat} (w : World) (hK : Sl w 1 A n (ks.map pv)) (hks : ∀ k ∈ ks, k < 18446744073709551616) (_hn : n ≤ 1000000) (hk : keysOk ks = false) : Calls Try.prog 30 #[.slice A n c, .agg (seed.map u8v).toArray] w fun e w' => e = .returned (.tuple #[.slice none 0 0, .int .i64 1]) ∧ Le w w' := by
  refine enter Try.func30 rfl rfl ?_
  have L0 := Le.refl w
  refine WC.seq ?_
  refine WC.region ?_
  refine W.ef rfl rfl rfl ?_
  refine Ef.boxA rfl ?_
  intro g0_0 w0_0 hg0_0 b0_0 h0_0
  have L0_0 := L0.trans h0_0
  refine W.any (.assign rfl) rfl rfl rfl ?_
  refine W.any (.assign rfl) rfl rfl rfl ?_
  refine W.nil ?_
  refine E.thenN ?_
  refine WC.seq ?_
  refine WC.seq ?_
  refine WC.region ?_
  refine W.any (.move rfl) rfl rfl rfl ?_
  refine W.ef rfl rfl rfl ?_
  refine Ef.call go71 rfl rfl (rkeys_F w0_0 (hK.le L0_0) hks _hn hk) ?_
  rintro _ w1_1 ⟨rfl, h1_1⟩
  refine ⟨_, rfl, ?_⟩
  have L1_1 := L0_0.trans h1_1
  refine W.any (.not rfl) rfl rfl rfl ?_
  refine W.nil ?_
  refine E.thenN ?_
  refine WC.condT rfl ?_
  refine WC.seq ?_
  refine WC.region ?_
  refine W.any (.assign rfl) rfl rfl rfl ?_
  refine W.any (.assign rfl) rfl rfl rfl ?_
  refine W.nil ?_
  refine E.thenN ?_
  refine WC.ret ?_
  refine E.thenR ?_
  refine E.ret2 rfl rfl rfl ?_
  exact ⟨rfl, L1_1⟩

theorem rsharedT (seed : List Byte) (hse : seed.length = 32) {A : Option Addr} {n c : Nat} {ks : List Nat} (w : World) (hK : Sl w 1 A n (ks.map pv)) (hks : ∀ k ∈ ks, k < 18446744073709551616) (_hn : n ≤ 1000000) (hk : keysOk ks = true) : Calls Try.prog 30 #[.slice A n c, .agg (seed.map u8v).toArray] w fun e w' => ∃ A' c', e = .returned (.tuple #[.slice A' n c', .int .i64 0]) ∧ Sx.Own w' w.heap.size 23 32 A' n c' ((((wayB (startX seed) ks).map Prod.snd).map fun q => q.map u8v).flatten) ∧ Le w w' := by
  refine enter Try.func30 rfl rfl ?_
  have L0 := Le.refl w
  refine WC.seq ?_
  refine WC.region ?_
  refine W.ef rfl rfl rfl ?_
  refine Ef.boxA rfl ?_
  intro g0_0 w0_0 hg0_0 b0_0 h0_0
  have L0_0 := L0.trans h0_0
  refine W.any (.assign rfl) rfl rfl rfl ?_
  refine W.any (.assign rfl) rfl rfl rfl ?_
  refine W.nil ?_
  refine E.thenN ?_
  refine WC.seq ?_
  refine WC.seq ?_
  refine WC.region ?_
  refine W.any (.move rfl) rfl rfl rfl ?_
  refine W.ef rfl rfl rfl ?_
  refine Ef.call go71 rfl rfl (rkeys_T w0_0 (hK.le L0_0) hks _hn hk) ?_
  rintro _ w1_1 ⟨rfl, h1_1⟩
  refine ⟨_, rfl, ?_⟩
  have L1_1 := L0_0.trans h1_1
  refine W.any (.not rfl) rfl rfl rfl ?_
  refine W.nil ?_
  refine E.thenN ?_
  refine WC.condF rfl ?_
  refine WC.skip ?_
  refine E.thenN ?_
  refine WC.seq ?_
  refine WC.region ?_
  refine W.any (.move rfl) rfl rfl rfl ?_
  refine W.rd (.loadAll ag23 (by simp [hse]) rfl (b0_0.le h1_1)) rfl rfl rfl ?_
  refine W.ef rfl rfl rfl ?_
  refine Ef.call go73 rfl rfl (rway_ok seed hse w1_1 (hK.le L1_1) hks _hn) ?_
  rintro _ w3_2 ⟨A1, c1, A2, c2, rfl, oe, os, h3_2⟩
  refine ⟨_, rfl, ?_⟩
  have L3_2 := L1_1.trans h3_2
  refine W.any (.move rfl) rfl rfl rfl ?_
  refine W.any (.extract rfl rfl) rfl rfl rfl ?_
  refine W.any (.extract rfl rfl) rfl rfl rfl ?_
  refine W.any (.assign rfl) rfl rfl rfl ?_
  refine W.any (.assign rfl) rfl rfl rfl ?_
  refine W.nil ?_
  refine E.thenN ?_
  refine WC.seq ?_
  refine WC.region ?_
  refine W.any (.move rfl) rfl rfl rfl ?_
  refine W.any (.assign rfl) rfl rfl rfl ?_
  refine W.any (.assign rfl) rfl rfl rfl ?_
  refine W.nil ?_
  refine E.thenN ?_
  refine WC.ret ?_
  refine E.ret2 rfl rfl rfl ?_
  exact ⟨A2, c2, rfl, os.mono L1_1.size, L3_2⟩
end Go.Proofs.Ytpmjdiccekkadaa
