/- The statement OnionWraps walked: it answers true and leaves old memory as it was. -/
import Derived.Test.YtpmjdiccekkadaaLaw31
import Derived.Test.YtpmjdiccekkadaaRef31x
namespace Go.Proofs.Ytpmjdiccekkadaa
open Go Go.Sx Go.Hsp Go.Num Go.Osp
set_option maxRecDepth 20000
theorem wrapAny (seed : List Byte) (hse : seed.length = 32) {A Ah : Option Addr} {n c nh ch : Nat} {ks : List Nat} {hs : List Hop} (w : World) (hK : Sl w 1 A n (ks.map pv)) (hks : ∀ k ∈ ks, k < 18446744073709551616) (hn : n ≤ 1000000) (hH : Rws w 6 Ah nh (hs.map hopV)) (hhs : ∀ h ∈ hs, HopOk h) (_hnh : nh ≤ 1000000) : Calls Try.prog 27 #[.slice A n c, .slice Ah nh ch, .agg (seed.map u8v).toArray] w fun e w' => ∃ A' m c', e = .returned (.tuple #[.slice A' m c', .int .i64 (if (keysOk ks && hopsOk ks hs) = true then 0 else 1)]) ∧ Sb w' A' m (if (keysOk ks && hopsOk ks hs) = true then wrapB ks hs seed else []) ∧ Le w w' :=
  (wrap_ok seed hse w hK hks hn hH hhs _hnh).mono fun e w' ⟨hl, h⟩ => by
    rcases h with ⟨h, A', c', rfl, ho⟩ | ⟨h, rfl⟩
    · rw [if_pos h, if_pos h]; exact ⟨A', 680, c', rfl, ho.sb, hl⟩
    · rw [if_neg (by rw [h]; simp), if_neg (by rw [h]; simp)]; exact ⟨none, 0, 0, rfl, Sl.nil _ _ _, hl⟩

theorem rwrapAny (seed : List Byte) (hse : seed.length = 32) {A Ah : Option Addr} {n c nh ch : Nat} {ks : List Nat} {hs : List Hop} (w : World) (hK : Sl w 1 A n (ks.map pv)) (hks : ∀ k ∈ ks, k < 18446744073709551616) (hn : n ≤ 1000000) (hH : Rws w 6 Ah nh (hs.map hopV)) (hhs : ∀ h ∈ hs, HopOk h) (_hnh : nh ≤ 1000000) : Calls Try.prog 28 #[.slice A n c, .slice Ah nh ch, .agg (seed.map u8v).toArray] w fun e w' => ∃ A' m c', e = .returned (.tuple #[.slice A' m c', .int .i64 (if (keysOk ks && hopsOk ks hs) = true then 0 else 1)]) ∧ Sb w' A' m (if (keysOk ks && hopsOk ks hs) = true then wrapB ks hs seed else []) ∧ Le w w' :=
  (rwrap_ok seed hse w hK hks hn hH hhs _hnh).mono fun e w' ⟨hl, h⟩ => by
    rcases h with ⟨h, A', c', rfl, ho⟩ | ⟨h, rfl⟩
    · rw [if_pos h, if_pos h]; exact ⟨A', 680, c', rfl, ho.sb, hl⟩
    · rw [if_neg (by rw [h]; simp), if_neg (by rw [h]; simp)]; exact ⟨none, 0, 0, rfl, Sl.nil _ _ _, hl⟩

theorem sharedAny (seed : List Byte) (hse : seed.length = 32) {A : Option Addr} {n c : Nat} {ks : List Nat} (w : World) (hK : Sl w 1 A n (ks.map pv)) (hks : ∀ k ∈ ks, k < 18446744073709551616) (hn : n ≤ 1000000) : Calls Try.prog 29 #[.slice A n c, .agg (seed.map u8v).toArray] w fun e w' => ∃ A' m c', e = .returned (.tuple #[.slice A' m c', .int .i64 (if keysOk ks = true then 0 else 1)]) ∧ Ks w' 32 A' m (if keysOk ks = true then (wayB (startX seed) ks).map Prod.snd else []) ∧ m ≤ n ∧ Le w w' := by
  have hkl := hK.1
  rw [List.length_map, Nat.mul_one] at hkl
  by_cases h : keysOk ks = true
  · rw [if_pos h, if_pos h]
    exact (shared_T seed hse w hK hks hn h).mono fun e w' ⟨A', c', he, ho, hl⟩ => ⟨A', n, c', he, ks_own ho (by rw [List.length_map, wayB_length, hkl]) (fun q hq => by obtain ⟨s, hs, rfl⟩ := List.mem_map.1 hq; exact wayB_sum _ _ s hs), Nat.le_refl _, hl⟩
  · rw [if_neg h, if_neg h]
    exact (shared_F seed hse w hK hks hn (by simpa using h)).mono fun e w' ⟨he, hl⟩ => ⟨none, 0, 0, he, ⟨rfl, (fun q hq => by cases hq), Sl.nil _ _ _⟩, Nat.zero_le _, hl⟩

theorem rsharedAny (seed : List Byte) (hse : seed.length = 32) {A : Option Addr} {n c : Nat} {ks : List Nat} (w : World) (hK : Sl w 1 A n (ks.map pv)) (hks : ∀ k ∈ ks, k < 18446744073709551616) (hn : n ≤ 1000000) : Calls Try.prog 30 #[.slice A n c, .agg (seed.map u8v).toArray] w fun e w' => ∃ A' m c', e = .returned (.tuple #[.slice A' m c', .int .i64 (if keysOk ks = true then 0 else 1)]) ∧ Ks w' 32 A' m (if keysOk ks = true then (wayB (startX seed) ks).map Prod.snd else []) ∧ m ≤ n ∧ Le w w' := by
  have hkl := hK.1
  rw [List.length_map, Nat.mul_one] at hkl
  by_cases h : keysOk ks = true
  · rw [if_pos h, if_pos h]
    exact (rsharedT seed hse w hK hks hn h).mono fun e w' ⟨A', c', he, ho, hl⟩ => ⟨A', n, c', he, ks_own ho (by rw [List.length_map, wayB_length, hkl]) (fun q hq => by obtain ⟨s, hs, rfl⟩ := List.mem_map.1 hq; exact wayB_sum _ _ s hs), Nat.le_refl _, hl⟩
  · rw [if_neg h, if_neg h]
    exact (rsharedF seed w hK hks hn (by simpa using h)).mono fun e w' ⟨he, hl⟩ => ⟨none, 0, 0, he, ⟨rfl, (fun q hq => by cases hq), Sl.nil _ _ _⟩, Nat.zero_le _, hl⟩

set_option maxHeartbeats 2000000 in
theorem OnionWraps_ok {A Ah : Option Addr} {n c nh ch : Nat} {ks : List Nat} {hs : List Hop} {seed : List Byte} (hse : seed.length = 32) (w : World) (hK : Sl w 1 A n (ks.map pv)) (hks : ∀ k ∈ ks, k < 18446744073709551616) (hH : Rws w 6 Ah nh (hs.map hopV)) (hhs : ∀ h ∈ hs, HopOk h) (hnk : n ≤ 9223372036854775807) (hnh : nh ≤ 9223372036854775807) : Calls Try.prog 8 #[.slice A n c, .slice Ah nh ch, .agg (seed.map u8v).toArray] w fun e w' => e = .returned (.bool true) ∧ Le w w' := by
  refine enter Try.func8 rfl rfl ?_
  have L0 := Le.refl w
  refine WC.seq ?_
  refine WC.region ?_
  refine W.ef rfl rfl rfl ?_
  refine Ef.boxA rfl ?_
  intro g0_0 w0_0 hg0_0 b0_0 h0_0
  have L0_0 := L0.trans h0_0
  have LL := Le.refl w0_0
  have hK := hK.le h0_0
  have hH := hH.le h0_0
  refine W.any (.assign rfl) rfl rfl rfl ?_
  refine W.nil ?_
  refine E.thenN ?_
  refine WC.seq ?_
  refine WC.region ?_
  refine W.ef rfl rfl rfl ?_
  refine Ef.call go26 rfl rfl (small31_ok w0_0) ?_
  rintro _ w1_0 ⟨rfl, h1_0⟩
  refine ⟨_, rfl, ?_⟩
  have L1_0 := LL.trans h1_0
  refine W.any (.assign rfl) rfl rfl rfl ?_
  refine W.nil ?_
  refine E.thenN ?_
  refine WC.seq ?_
  refine WC.seq ?_
  refine WC.region ?_
  refine W.any (.move rfl) rfl rfl rfl ?_
  refine W.rd (.len Try.underlying41 rfl) rfl rfl rfl ?_
  by_cases q1 : 9 < n
  · refine W.any (.dec (.gtr rfl rfl) (decide_eq_true (by omega))) rfl rfl rfl ?_
    refine W.any (.move rfl) rfl rfl rfl ?_
    refine W.skip rfl rfl rfl (rfl) rfl rfl ?_
    refine W.skip rfl rfl rfl (rfl) rfl rfl ?_
    refine W.skip rfl rfl rfl (rfl) rfl rfl ?_
    refine W.any (.pickT rfl rfl rfl) rfl rfl rfl ?_
    refine W.nil ?_
    refine E.thenN ?_
    refine WC.condT rfl ?_
    refine WC.seq ?_
    refine WC.region ?_
    refine W.any (.move rfl) rfl rfl rfl ?_
    refine W.any (.assign rfl) rfl rfl rfl ?_
    refine W.nil ?_
    refine E.thenN ?_
    refine WC.ret ?_
    refine E.thenR ?_
    refine E.ret1 rfl rfl ?_
    exact ⟨rfl, h0_0.trans L1_0⟩
  · refine W.any (.dec (.gtr rfl rfl) (decide_eq_false (by omega))) rfl rfl rfl ?_
    refine W.any (.move rfl) rfl rfl rfl ?_
    refine W.rdg (Any.rd (.move rfl) _) rfl rfl rfl (rfl) rfl rfl ?_
    refine W.rdg (.len Try.underlying42 rfl) rfl rfl rfl (rfl) rfl rfl ?_
    by_cases q2 : 9 < nh
    · refine W.rdg (Any.rd (.dec (.gtr rfl rfl) (decide_eq_true (by omega))) _) rfl rfl rfl (rfl) rfl rfl ?_
      refine W.any (.pickF rfl rfl rfl) rfl rfl rfl ?_
      refine W.nil ?_
      refine E.thenN ?_
      refine WC.condT rfl ?_
      refine WC.seq ?_
      refine WC.region ?_
      refine W.any (.move rfl) rfl rfl rfl ?_
      refine W.any (.assign rfl) rfl rfl rfl ?_
      refine W.nil ?_
      refine E.thenN ?_
      refine WC.ret ?_
      refine E.thenR ?_
      refine E.ret1 rfl rfl ?_
      exact ⟨rfl, h0_0.trans L1_0⟩
    · refine W.rdg (Any.rd (.dec (.gtr rfl rfl) (decide_eq_false (by omega))) _) rfl rfl rfl (rfl) rfl rfl ?_
      refine W.any (.pickF rfl rfl rfl) rfl rfl rfl ?_
      refine W.nil ?_
      refine E.thenN ?_
      refine WC.condF rfl ?_
      refine WC.skip ?_
      refine E.thenN ?_
      refine WC.seq ?_
      refine WC.region ?_
      refine W.any (.move rfl) rfl rfl rfl ?_
      refine W.any (.move rfl) rfl rfl rfl ?_
      refine W.rd (.loadAll ag23 (by simp [hse]) rfl (b0_0.le L1_0)) rfl rfl rfl ?_
      refine W.ef rfl rfl rfl ?_
      refine Ef.call go27 rfl rfl (wrapAny seed hse w1_0 (hK.le L1_0) hks (by omega) (hH.le L1_0) hhs (by omega)) ?_
      rintro _ w4_3 ⟨A4, m4, c4, rfl, s4, h4_3⟩
      refine ⟨_, rfl, ?_⟩
      have L4_3 := L1_0.trans h4_3
      refine W.any (.move rfl) rfl rfl rfl ?_
      refine W.any (.extract rfl rfl) rfl rfl rfl ?_
      refine W.any (.extract rfl rfl) rfl rfl rfl ?_
      refine W.any (.assign rfl) rfl rfl rfl ?_
      refine W.any (.assign rfl) rfl rfl rfl ?_
      refine W.nil ?_
      refine E.thenN ?_
      refine WC.seq ?_
      refine WC.region ?_
      refine W.any (.move rfl) rfl rfl rfl ?_
      refine W.any (.move rfl) rfl rfl rfl ?_
      refine W.rd (.loadAll ag23 (by simp [hse]) rfl (b0_0.le L4_3)) rfl rfl rfl ?_
      refine W.ef rfl rfl rfl ?_
      refine Ef.call go28 rfl rfl (rwrapAny seed hse w4_3 (hK.le L4_3) hks (by omega) (hH.le L4_3) hhs (by omega)) ?_
      rintro _ w5_3 ⟨A5, m5, c5, rfl, s5, h5_3⟩
      refine ⟨_, rfl, ?_⟩
      have L5_3 := L4_3.trans h5_3
      refine W.any (.move rfl) rfl rfl rfl ?_
      refine W.any (.extract rfl rfl) rfl rfl rfl ?_
      refine W.any (.extract rfl rfl) rfl rfl rfl ?_
      refine W.any (.assign rfl) rfl rfl rfl ?_
      refine W.any (.assign rfl) rfl rfl rfl ?_
      refine W.nil ?_
      refine E.thenN ?_
      refine WC.seq ?_
      refine WC.region ?_
      refine W.any (.move rfl) rfl rfl rfl ?_
      refine W.rd (.loadAll ag23 (by simp [hse]) rfl (b0_0.le L5_3)) rfl rfl rfl ?_
      refine W.ef rfl rfl rfl ?_
      refine Ef.call go29 rfl rfl (sharedAny seed hse w5_3 (hK.le L5_3) hks (by omega)) ?_
      rintro _ w6_2 ⟨A6, m6, c6, rfl, s6, hm6, h6_2⟩
      refine ⟨_, rfl, ?_⟩
      have L6_2 := L5_3.trans h6_2
      refine W.any (.move rfl) rfl rfl rfl ?_
      refine W.any (.extract rfl rfl) rfl rfl rfl ?_
      refine W.any (.extract rfl rfl) rfl rfl rfl ?_
      refine W.any (.assign rfl) rfl rfl rfl ?_
      refine W.any (.assign rfl) rfl rfl rfl ?_
      refine W.nil ?_
      refine E.thenN ?_
      refine WC.seq ?_
      refine WC.region ?_
      refine W.any (.move rfl) rfl rfl rfl ?_
      refine W.rd (.loadAll ag23 (by simp [hse]) rfl (b0_0.le L6_2)) rfl rfl rfl ?_
      refine W.ef rfl rfl rfl ?_
      refine Ef.call go30 rfl rfl (rsharedAny seed hse w6_2 (hK.le L6_2) hks (by omega)) ?_
      rintro _ w7_2 ⟨A7, m7, c7, rfl, s7, hm7, h7_2⟩
      refine ⟨_, rfl, ?_⟩
      have L7_2 := L6_2.trans h7_2
      have s4 := s4.le (h5_3.trans (h6_2.trans h7_2))
      have s5 := s5.le (h6_2.trans h7_2)
      have s6 := s6.le h7_2
      generalize (if (keysOk ks && hopsOk ks hs) = true then wrapB ks hs seed else []) = pk at *
      generalize (if keysOk ks = true then (wayB (startX seed) ks).map Prod.snd else []) = sums at *
      have hm67 : m6 = m7 := by rw [← s6.1, ← s7.1]
      have LW := Le.refl w7_2
      have hL7 := h0_0.trans L7_2
      refine W.any (.move rfl) rfl rfl rfl ?_
      refine W.any (.extract rfl rfl) rfl rfl rfl ?_
      refine W.any (.extract rfl rfl) rfl rfl rfl ?_
      refine W.any (.assign rfl) rfl rfl rfl ?_
      refine W.any (.assign rfl) rfl rfl rfl ?_
      refine W.nil ?_
      refine E.thenN ?_
      refine WC.seq ?_
      refine WC.seq ?_
      refine WC.region ?_
      refine W.any (.move rfl) rfl rfl rfl ?_
      refine W.rd (.toStr Try.underlying24 Try.underlying5 Try.underlying9 rfl (s4)) rfl rfl rfl ?_
      refine W.any (.move rfl) rfl rfl rfl ?_
      refine W.rd (.toStr Try.underlying24 Try.underlying5 Try.underlying9 rfl (s5)) rfl rfl rfl ?_
      refine W.any (.dec (.neqStr rfl rfl) (show _ = false from by rw [strOf_eq, decide_eq_true rfl]; rfl)) rfl rfl rfl ?_
      refine W.any (.move rfl) rfl rfl rfl ?_
      refine W.rdg (Any.rd (.move rfl) _) rfl rfl rfl (rfl) rfl rfl ?_
      refine W.rdg (Any.rd (.move rfl) _) rfl rfl rfl (rfl) rfl rfl ?_
      refine W.rdg (Any.rd (.dec (.neq rfl rfl) (decide_eq_false (fun h => h rfl))) _) rfl rfl rfl (rfl) rfl rfl ?_
      refine W.any (.pickF rfl rfl rfl) rfl rfl rfl ?_
      refine W.any (.move rfl) rfl rfl rfl ?_
      refine W.rdg (Any.rd (.move rfl) _) rfl rfl rfl (rfl) rfl rfl ?_
      refine W.rdg (Any.rd (.move rfl) _) rfl rfl rfl (rfl) rfl rfl ?_
      refine W.rdg (Any.rd (.dec (.neq rfl rfl) (decide_eq_false (fun h => h rfl))) _) rfl rfl rfl (rfl) rfl rfl ?_
      refine W.any (.pickF rfl rfl rfl) rfl rfl rfl ?_
      refine W.any (.move rfl) rfl rfl rfl ?_
      refine W.rdg (Any.rd (.move rfl) _) rfl rfl rfl (rfl) rfl rfl ?_
      refine W.rdg (.len Try.underlying25 rfl) rfl rfl rfl (rfl) rfl rfl ?_
      refine W.rdg (Any.rd (.move rfl) _) rfl rfl rfl (rfl) rfl rfl ?_
      refine W.rdg (.len Try.underlying25 rfl) rfl rfl rfl (rfl) rfl rfl ?_
      refine W.rdg (Any.rd (.dec (.neq rfl rfl) (decide_eq_false (by omega))) _) rfl rfl rfl (rfl) rfl rfl ?_
      refine W.any (.pickF rfl rfl rfl) rfl rfl rfl ?_
      refine W.nil ?_
      refine E.thenN ?_
      refine WC.condF rfl ?_
      refine WC.skip ?_
      refine E.thenN ?_
      refine WC.seq ?_
      refine WC.seq ?_
      refine WC.region ?_
      refine W.any (.assign rfl) rfl rfl rfl ?_
      refine W.nil ?_
      refine E.thenN ?_
      refine WC.block ?_
      refine WC.loop (ι := Nat) (fun k => [(7, .bool true), (12, .slice A6 m6 c6), (14, .slice A7 m7 c7), (16, .int .i64 (k : Int))]) (fun k wl => k ≤ m6 ∧ Le w7_2 wl) (fun k => m6 - k) 0 ?_ ?_ ?_
      · exact .cons rfl (.cons rfl (.cons rfl (.cons rfl (.nil _))))
      · exact ⟨Nat.zero_le _, LW⟩
      · rintro k wl ⟨hk, Ll⟩
        refine WC.seq ?_
        refine WC.seq ?_
        refine WC.region ?_
        refine W.any (.move rfl) rfl rfl rfl ?_
        refine W.any (.move rfl) rfl rfl rfl ?_
        refine W.rd (.len Try.underlying25 rfl) rfl rfl rfl ?_
        refine W.any (.lss rfl rfl) rfl rfl rfl ?_
        refine W.nil ?_
        refine E.thenN ?_
        refine WC.cond rfl (fun c2 => ?_) (fun c2 => ?_)
        · obtain ⟨s, hs⟩ : ∃ s, sums[k]? = some s := ⟨_, List.getElem?_eq_getElem (by have := s6.1; omega)⟩
          have hs32 := s6.2.1 s (List.mem_of_getElem? hs)
          refine WC.skip ?_
          refine E.thenN ?_
          refine WC.seq ?_
          refine WC.block ?_
          refine WC.seq ?_
          refine WC.draw [0, 1, 2, 3, 4, 5, 6, 7, 8] mixed (by kernel_rfl) ?_
          intro w13 d13
          have L13 := Ll.trans d13
          refine G.any rfl rfl (.move rfl) rfl rfl rfl ?_
          refine G.any rfl rfl (.move rfl) rfl rfl rfl ?_
          refine G.any rfl rfl (.idxS (k) Try.underlying25 sz23 rfl rfl (s6.2.2.isSome (j := k) (by omega) (by decide)) (rfl) (by omega)) rfl rfl rfl ?_
          refine G.rd rfl rfl (.loadK ag23 rfl (s6.le L13) hs (by decide)) rfl rfl rfl ?_
          refine G.any rfl rfl (.move rfl) rfl rfl rfl ?_
          refine G.any rfl rfl (.move rfl) rfl rfl rfl ?_
          refine G.any rfl rfl (.idxS (k) Try.underlying25 sz23 rfl rfl (s7.2.2.isSome (j := k) (by omega) (by decide)) (rfl) (by omega)) rfl rfl rfl ?_
          refine G.rd rfl rfl (.loadK ag23 rfl (s7.le L13) hs (by decide)) rfl rfl rfl ?_
          refine G.any rfl rfl (.dec (.neA eg23 rfl rfl (Eqv.bytes (d := 9998) _ _ Try.underlying23 sz5 Try.underlying5 hs32 hs32)) (show _ = false from by rw [decide_eq_true rfl]; rfl)) rfl rfl rfl ?_
          refine G.nil ?_
          refine E.thenN ?_
          refine WC.condF rfl ?_
          refine WC.skip ?_
          refine E.blkN ?_
          refine E.thenN ?_
          refine WC.region ?_
          refine W.any (.move rfl) rfl rfl rfl ?_
          refine W.any (.add rfl rfl (by omega)) rfl rfl rfl ?_
          refine W.any (.assign rfl) rfl rfl rfl ?_
          refine W.nil ?_
          refine E.again (k + 1) (.cons rfl (.cons rfl (.cons rfl (.cons rfl (.nil _))))) ?_ ?_
          · exact ⟨by omega, L13⟩
          · first | omega | (simp only []; omega)
        · refine WC.exit ?_
          refine E.thenX ?_
          refine E.thenX ?_
          refine E.blkH ?_
          refine E.thenN ?_
          refine WC.seq ?_
          refine WC.region ?_
          refine W.any (.move rfl) rfl rfl rfl ?_
          refine W.any (.assign rfl) rfl rfl rfl ?_
          refine W.nil ?_
          refine E.thenN ?_
          refine WC.ret ?_
          refine E.ret1 rfl rfl ?_
          exact ⟨rfl, hL7.trans Ll⟩
end Go.Proofs.Ytpmjdiccekkadaa
