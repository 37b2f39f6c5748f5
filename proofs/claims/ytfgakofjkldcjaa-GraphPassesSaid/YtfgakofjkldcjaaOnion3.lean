/- The onion's functions (layer 31): Shared, the filler, Peel, walked. -/
import Derived.Test.YtfgakofjkldcjaaOnion2
namespace Go.Proofs.Ytfgakofjkldcjaa
open Go Go.Sx Go.Hsp Go.Num Go.Osp
set_option maxRecDepth 20000
theorem map_snoc {α β : Type} (f : α → β) (l : List α) (k : Nat) (s : α) (h : l[k]? = some s) : (l.take (k + 1)).map f = (l.take k).map f ++ [f s] := by
  rw [List.take_add_one, h]; simp
theorem stopRows_at (l : List Stop) (k : Nat) (s : Stop) (h : l[k]? = some s) : (stopRows l)[k]? = some (stopV s) := by simp [stopRows, h]
theorem way_T (seed : List Byte) (hse : seed.length = 32) {A : Option Addr} {n c : Nat} {ks : List Nat} (w : World) (hK : Sl w 1 A n (ks.map pv)) (hks : ∀ k ∈ ks, k < 18446744073709551616) (hn : n ≤ 1000000) (hk : keysOk ks = true) : Calls Try.prog 104 #[.slice A n c, .agg (seed.map u8v).toArray] w fun e w' => ∃ A' c', e = .returned (.tuple #[.slice A' n c', .bool true]) ∧ Own w' w.heap.size 179 33 A' n c' (stopRows (wayB (startX seed) ks)).flatten ∧ Le w w' :=
  (way_ok seed hse w hK hks hn).mono fun e w' ⟨hl, h⟩ => by
    rcases h with ⟨_, A', c', rfl, ho⟩ | ⟨h, _⟩
    · exact ⟨A', c', rfl, ho, hl⟩
    · rw [hk] at h; cases h
theorem way_F (seed : List Byte) (hse : seed.length = 32) {A : Option Addr} {n c : Nat} {ks : List Nat} (w : World) (hK : Sl w 1 A n (ks.map pv)) (hks : ∀ k ∈ ks, k < 18446744073709551616) (hn : n ≤ 1000000) (hk : keysOk ks = false) : Calls Try.prog 104 #[.slice A n c, .agg (seed.map u8v).toArray] w fun e w' => e = .returned (.tuple #[.slice none 0 0, .bool false]) ∧ Le w w' :=
  (way_ok seed hse w hK hks hn).mono fun e w' ⟨hl, h⟩ => by
    rcases h with ⟨h, _⟩ | ⟨_, rfl⟩
    · rw [hk] at h; cases h
    · exact ⟨rfl, hl⟩





set_option maxHeartbeats 1000000 in
theorem filler_ok {A : Option Addr} {n c : Nat} {l : List Stop} (w : World) (hR : Rws w 33 A n (stopRows l)) (hsum : ∀ s ∈ l, s.2.length = 32) (h1 : 1 ≤ n) (h8 : n ≤ 8) (hc : n ≤ c) : Calls Try.prog 113 #[.slice A n c] w fun e w' => ∃ A' c', e = .returned (.slice A' (80 * (n - 1)) c') ∧ Own w' w.heap.size 5 1 A' (80 * (n - 1)) c' ((filler l).map u8v) ∧ Le w w' := by
  have hll : l.length = n := by have := hR.1; simpa [stopRows] using this
  refine enter Try.func113 rfl rfl ?_
  have L0 := Le.refl w
  refine WC.seq ?_
  refine WC.region ?_
  refine W.any (.assign rfl) rfl rfl rfl ?_
  refine W.nil ?_
  refine E.thenN ?_
  refine WC.seq ?_
  refine WC.seq ?_
  refine WC.region ?_
  refine W.any (.move rfl) rfl rfl rfl ?_
  refine W.any (.move rfl) rfl rfl rfl ?_
  refine W.rd (.len Try.underlying169 rfl) rfl rfl rfl ?_
  refine W.any (.sub rfl rfl (by omega)) rfl rfl rfl ?_
  refine W.any (.cutH (n - 1) Try.underlying169 sz179 rfl rfl (by omega) (by omega)) rfl rfl rfl ?_
  refine W.rd (.len Try.underlying169 rfl) rfl rfl rfl ?_
  refine W.any (.move rfl) rfl rfl rfl ?_
  refine W.nil ?_
  refine E.thenN ?_
  refine WC.block ?_
  refine WC.loop (ι := Nat × Option Addr × Nat) (fun ⟨k, A1, cp⟩ => [(2, .slice A1 (80 * k) cp), (9, .slice A (n - 1) c), (10, .int .i64 ((n - 1 : Nat) : Int)), (11, .int .i64 (k : Int))]) (fun ⟨k, A1, cp⟩ wl => k ≤ n - 1 ∧ Le w wl ∧ Own wl w.heap.size 5 1 A1 (80 * k) cp ((fillTo [] (l.take k)).map u8v)) (fun ⟨k, A1, cp⟩ => n - 1 - k) (0, none, 0) ?_ ?_ ?_
  · exact .cons rfl (.cons rfl (.cons rfl (.cons rfl (.nil _))))
  · exact ⟨Nat.zero_le _, L0, Own.nil _ _ _ _ _⟩
  · rintro ⟨k, A1, cp⟩ wl ⟨hkn, Ll, ol⟩
    have hfl : (fillTo [] (l.take k)).length = 80 * k := by rw [fillTo_length _ _ (by simp [List.length_take]; omega)]; simp [List.length_take]; omega
    refine WC.seq ?_
    refine WC.region ?_
    refine W.any (.lss rfl rfl) rfl rfl rfl ?_
    refine W.nil ?_
    refine E.thenN ?_
    refine WC.seq ?_
    refine WC.cond rfl (fun c0 => ?_) (fun c0 => ?_)
    · obtain ⟨s, hs⟩ : ∃ s, l[k]? = some s := ⟨_, List.getElem?_eq_getElem (by omega)⟩
      have hs32 := hsum s (List.mem_of_getElem? hs)
      refine WC.skip ?_
      refine E.thenN ?_
      refine WC.seq ?_
      refine WC.block ?_
      refine WC.seq ?_
      refine WC.region ?_
      refine W.any (.idxS (k) Try.underlying169 sz179 rfl rfl (hR.isSome (by omega) (by decide)) (rfl) (by omega)) rfl rfl rfl ?_
      refine W.rd (.loadR ag179 rfl (hR.le Ll) (stopRows_at l k s hs) (by decide)) rfl rfl rfl ?_
      refine W.ef rfl rfl rfl ?_
      refine Ef.allocA z179 ?_
      intro g3_2 w3_2 hg3_2 b3_2 h3_2
      have L3_2 := Ll.trans h3_2
      refine W.ef0 rfl rfl ?_
      refine Ef.storeAll sz179 (by simp [stopV, hs32]) rfl rfl (b3_2) (by simp [stopV, hs32]) (stopV_one _) ?_
      intro w3_3 b3_3 h3_3
      have L3_3 : Le w w3_3 := L3_2.then_ h3_3 (fun q hq => by cases hq; exact Nat.le_trans Ll.size hg3_2)
      have ol2 := (ol.le h3_2).ch h3_3 (fun q hq => by cases hq; exact fun he => by have := (ol.row he).2; omega)
      refine W.nil ?_
      refine E.thenN ?_
      refine WC.seq ?_
      refine WC.region ?_
      refine W.any (.move rfl) rfl rfl rfl ?_
      refine W.ef rfl rfl rfl ?_
      refine Ef.appendZ 80 Try.underlying107 Try.underlying3 el5 rfl rfl ol2 rfl rfl (by decide) (by omega) (by unfold maxLen; omega) L3_3.size ?_
      intro A4 c4 w4_1 o4 h4_1 at4
      have L4_1 : Le w w4_1 := L3_3.then_ h4_1 (fun q hq => (ol.row hq).1)
      have b4 := b3_3.ch h4_1 (fun he => by have := (ol.row he).2; omega)
      have o4 : Own w4_1 w.heap.size 5 1 A4 (80 * k + 80) c4 ((fillTo [] (l.take k) ++ List.replicate 80 0#8).map u8v) := o4.cast rfl (by simp [u8v])
      refine W.any (.assign rfl) rfl rfl rfl ?_
      refine W.nil ?_
      refine E.thenN ?_
      refine WC.region ?_
      refine W.any (.move rfl) rfl rfl rfl ?_
      refine W.rd (.loadAll ag179 (by simp [stopV, hs32]) rfl (b4)) rfl rfl rfl ?_
      refine W.ef rfl rfl rfl ?_
      refine Ef.call go112 rfl rfl (rho_ok s hs32 720 (by decide) w4_1) ?_
      rintro _ w5_2 ⟨A5, c5, rfl, o5, h5_2⟩
      refine ⟨_, rfl, ?_⟩
      have L5_2 := L4_1.trans h5_2
      have o4 := o4.le h5_2
      refine W.any (.move rfl) rfl rfl rfl ?_
      refine W.rd (.len Try.underlying107 rfl) rfl rfl rfl ?_
      refine W.any (.sub rfl rfl (by omega)) rfl rfl rfl ?_
      refine W.any (.cutL (720 - (80 * k + 80)) Try.underlying107 sz5 rfl rfl (by omega) (by omega) (o5.cap.1)) rfl rfl rfl ?_
      have hx : ∀ w, Sb w (cutA A5 c5 (720 - (80 * k + 80)) 1) (80 * k + 80) ((rho s 720).drop (720 - (80 * k + 80))) → Sb w A4 (80 * k + 80) (fillTo [] (l.take k) ++ List.replicate 80 0#8) → Calls Try.prog 109 #[.slice A4 (80 * k + 80) c4, .slice (cutA A5 c5 (720 - (80 * k + 80)) 1) (720 - (720 - (80 * k + 80))) (c5 - (720 - (80 * k + 80)))] w fun e w' => ∃ A' c', e = .returned (.slice A' (80 * k + 80) c') ∧ Own w' w.heap.size 5 1 A' (80 * k + 80) c' ((xorB (fillTo [] (l.take k) ++ List.replicate 80 0#8) ((rho s 720).drop (720 - (80 * k + 80)))).map u8v) ∧ Le w w' := fun w h1 h2 => by
        rw [show 720 - (720 - (80 * k + 80)) = 80 * k + 80 by omega]
        exact xor_ok w h2 h1 (by omega)
      refine W.ef rfl rfl rfl ?_
      refine Ef.call go109 rfl rfl (hx w5_2 (by have h := o5.sb.cutL c5 (720 - (80 * k + 80)) (by omega) o5.cap.1; rwa [show 720 - (720 - (80 * k + 80)) = 80 * k + 80 by omega] at h) o4.sb) ?_
      rintro _ w5_7 ⟨A7, c7, rfl, o7, h5_7⟩
      refine ⟨_, rfl, ?_⟩
      have L5_7 := L5_2.trans h5_7
      refine W.any (.assign rfl) rfl rfl rfl ?_
      refine W.nil ?_
      refine E.blkN ?_
      refine E.thenN ?_
      refine WC.region ?_
      refine W.any (.add rfl rfl (by omega)) rfl rfl rfl ?_
      refine W.any (.move rfl) rfl rfl rfl ?_
      refine W.nil ?_
      refine E.again (k + 1, A7, c7) (.cons' rfl (slice_eq (by omega)) (.cons rfl (.cons rfl (.cons rfl (.nil _))))) ?_ ?_
      · exact ⟨by omega, L5_7, (o7.mono L5_2.size).cast (by omega) (by rw [fillTo_snoc l k s hs, fillS, hfl, zeros]; rfl)⟩
      · first | omega | (simp only []; omega)
    · have hkn : k = n - 1 := by omega
      subst hkn
      refine WC.exit ?_
      refine E.thenX ?_
      refine E.thenX ?_
      refine E.blkH ?_
      refine E.thenN ?_
      refine WC.seq ?_
      refine WC.region ?_
      refine W.any (.move rfl) rfl rfl rfl ?_
      refine W.any (.assign rfl) rfl rfl rfl ?_
      refine W.nil ?_
      refine E.thenN ?_
      refine WC.ret ?_
      refine E.ret1 rfl rfl ?_
      exact ⟨A1, cp, rfl, ol.cast rfl (by rw [filler, hll]), Ll⟩

theorem may_T (h : Hop) (ho : HopOk h) (hy : mayB h = true) (w : World) : Calls Try.prog 105 #[.agg (hopV h).toArray] w fun e w' => e = .returned (.bool true) ∧ Le w w' := by
  have := may_ok h ho w
  rwa [hy] at this

theorem may_F (h : Hop) (ho : HopOk h) (hy : mayB h = false) (w : World) : Calls Try.prog 105 #[.agg (hopV h).toArray] w fun e w' => e = .returned (.bool false) ∧ Le w w' := by
  have := may_ok h ho w
  rwa [hy] at this

set_option maxHeartbeats 2000000 in
theorem peel_ok (kk : Nat) (_hkk : kk < 18446744073709551616) {A : Option Addr} {n c : Nat} {xs : List Byte} (w : World) (hS : Sb w A n xs) (hc : n ≤ c) : Calls Try.prog 57 #[.int .u64 ((kk : Nat) : Int), .slice A n c] w fun e w' => ∃ A' m c', e = .returned (.tuple #[.agg (hopV (peelB kk xs).1).toArray, .slice A' m c', .agg ((peelB kk xs).2.2.1.map u8v).toArray, .int .i64 (peelB kk xs).2.2.2]) ∧ Own w' w.heap.size 5 1 A' m c' ((peelB kk xs).2.1.map u8v) ∧ Le w w' := by
  have hl := hS.len
  refine enter Try.func57 rfl rfl ?_
  have L0 := Le.refl w
  refine WC.seq ?_
  refine WC.region ?_
  refine W.ef rfl rfl rfl ?_
  refine Ef.allocA z95 ?_
  intro g0_0 w0_0 hg0_0 b0_0 h0_0
  have L0_0 := L0.trans h0_0
  have bh : Blk w0_0 g0_0 95 (hopV noHop).toArray := b0_0
  refine W.any (.assign rfl) rfl rfl rfl ?_
  refine W.ef rfl rfl rfl ?_
  refine Ef.allocA z89 ?_
  intro g0_2 w0_2 hg0_2 b0_2 h0_2
  have L0_2 := L0_0.trans h0_2
  have bh := bh.le h0_2
  have bs : Blk w0_2 g0_2 89 ((zeros 32).map u8v).toArray := b0_2
  have LL := Le.refl w0_2
  have hL0 := h0_0.trans h0_2
  have hS := hS.le hL0
  have hne : g0_0 ≠ g0_2 := by have := b0_0.lt; omega
  refine W.any (.assign rfl) rfl rfl rfl ?_
  refine W.nil ?_
  refine E.thenN ?_
  refine WC.seq ?_
  refine WC.seq ?_
  refine WC.region ?_
  refine W.any (.move rfl) rfl rfl rfl ?_
  by_cases h0 : kk = 0
  · refine W.any (.dec (.eql rfl rfl) (decide_eq_true (by omega))) rfl rfl rfl ?_
    refine W.any (.move rfl) rfl rfl rfl ?_
    refine W.skip rfl rfl rfl (rfl) rfl rfl ?_
    refine W.skip rfl rfl rfl (rfl) rfl rfl ?_
    refine W.skip rfl rfl rfl (rfl) rfl rfl ?_
    refine W.any (.pickT rfl rfl rfl) rfl rfl rfl ?_
    refine W.nil ?_
    refine E.thenN ?_
    refine WC.condT rfl ?_
    refine WC.seq ?_
    refine WC.drawS (fun w2 w' => Blk w' g0_0 95 (hopV noHop).toArray ∧ Blk w' g0_2 89 ((zeros 32).map u8v).toArray) [0, 1, 2, 3, 4, 5] mixed (by kernel_rfl) ?_
    intro w2 d2
    refine ⟨⟨(bh.le LL).le d2, (bs.le LL).le d2⟩, ?_⟩
    have L2 := LL.trans d2
    refine GS.rd rfl rfl (fun w' hs => .loadAll ag95 (by rfl) rfl hs.1) rfl rfl rfl ?_
    refine GS.rd rfl rfl (fun w' hs => .loadAll ag89 (by rfl) rfl hs.2) rfl rfl rfl ?_
    refine GS.ef0 rfl rfl rfl rfl ?_
    refine Ef.storeAll sz95 (by rfl) rfl rfl ((bh.le LL).le d2) (by rfl) (hopV_one _) ?_
    intro w2_2 b2_2 h2_2
    have L2_2 : Le w w2_2 := (hL0.trans L2).then_ h2_2 (fun q hq => by cases hq; exact hg0_0)
    have q2 := ((bs.le LL).le d2).ch h2_2 (by simp [hne])
    refine ⟨⟨b2_2, q2⟩, ?_⟩
    refine GS.any rfl rfl (.assign rfl) rfl rfl rfl ?_
    refine GS.ef0 rfl rfl rfl rfl ?_
    refine Ef.storeAll sz89 (by rfl) rfl rfl (q2) (by rfl) (all_u8v _) ?_
    intro w2_4 b2_4 h2_4
    have L2_4 : Le w w2_4 := L2_2.then_ h2_4 (fun q hq => by cases hq; exact Nat.le_trans h0_0.size hg0_2)
    have p2 := b2_2.ch h2_4 (by simp; exact fun h => hne h.symm)
    refine ⟨⟨p2, b2_4⟩, ?_⟩
    refine GS.any rfl rfl (.assign rfl) rfl rfl rfl ?_
    refine GS.nil ?_
    refine E.thenN ?_
    refine WC.ret ?_
    refine E.thenR ?_
    refine E.retCTCT rfl rfl rfl rfl rfl p2 ag95 (by rfl) b2_4 ag89 (by rfl) ?_
    rw [peelB, if_pos (.inl h0)]; exact ⟨none, 0, 0, rfl, Own.nil _ _ _ _ _, L2_4⟩
  · refine W.any (.dec (.eql rfl rfl) (decide_eq_false (by omega))) rfl rfl rfl ?_
    refine W.any (.move rfl) rfl rfl rfl ?_
    refine W.rdg (Any.rd (.move rfl) _) rfl rfl rfl (rfl) rfl rfl ?_
    by_cases hq : kk < q
    · refine W.efg rfl rfl rfl (rfl) rfl rfl ?_
      refine Ef.call go60 rfl rfl (fright_T kk hq w0_2) ?_
      rintro _ w1_4 ⟨rfl, h1_4⟩
      refine ⟨_, rfl, ?_⟩
      have L1_4 := LL.trans h1_4
      refine W.rdg (Any.rd (.not rfl) _) rfl rfl rfl (rfl) rfl rfl ?_
      refine W.any (.pickF rfl rfl rfl) rfl rfl rfl ?_
      refine W.nil ?_
      refine E.thenN ?_
      refine WC.condF rfl ?_
      refine WC.skip ?_
      refine E.thenN ?_
      refine WC.seq ?_
      refine WC.seq ?_
      refine WC.region ?_
      refine W.any (.move rfl) rfl rfl rfl ?_
      refine W.rd (.len Try.underlying107 rfl) rfl rfl rfl ?_
      refine W.any (.neq rfl rfl) rfl rfl rfl ?_
      refine W.nil ?_
      refine E.thenN ?_
      refine WC.cond rfl (fun h680 => ?_) (fun h680 => ?_)
      · refine WC.seq ?_
        refine WC.drawS (fun w4 w' => Blk w' g0_0 95 (hopV noHop).toArray ∧ Blk w' g0_2 89 ((zeros 32).map u8v).toArray) [0, 1, 2, 3, 4, 5] mixed (by kernel_rfl) ?_
        intro w4 d4
        refine ⟨⟨(bh.le L1_4).le d4, (bs.le L1_4).le d4⟩, ?_⟩
        have L4 := L1_4.trans d4
        refine GS.rd rfl rfl (fun w' hs => .loadAll ag95 (by rfl) rfl hs.1) rfl rfl rfl ?_
        refine GS.rd rfl rfl (fun w' hs => .loadAll ag89 (by rfl) rfl hs.2) rfl rfl rfl ?_
        refine GS.ef0 rfl rfl rfl rfl ?_
        refine Ef.storeAll sz95 (by rfl) rfl rfl ((bh.le L1_4).le d4) (by rfl) (hopV_one _) ?_
        intro w4_2 b4_2 h4_2
        have L4_2 : Le w w4_2 := (hL0.trans L4).then_ h4_2 (fun q hq => by cases hq; exact hg0_0)
        have q4 := ((bs.le L1_4).le d4).ch h4_2 (by simp [hne])
        refine ⟨⟨b4_2, q4⟩, ?_⟩
        refine GS.any rfl rfl (.assign rfl) rfl rfl rfl ?_
        refine GS.ef0 rfl rfl rfl rfl ?_
        refine Ef.storeAll sz89 (by rfl) rfl rfl (q4) (by rfl) (all_u8v _) ?_
        intro w4_4 b4_4 h4_4
        have L4_4 : Le w w4_4 := L4_2.then_ h4_4 (fun q hq => by cases hq; exact Nat.le_trans h0_0.size hg0_2)
        have p4 := b4_2.ch h4_4 (by simp; exact fun h => hne h.symm)
        refine ⟨⟨p4, b4_4⟩, ?_⟩
        refine GS.any rfl rfl (.assign rfl) rfl rfl rfl ?_
        refine GS.nil ?_
        refine E.thenN ?_
        refine WC.ret ?_
        refine E.thenR ?_
        refine E.retCTCT rfl rfl rfl rfl rfl p4 ag95 (by rfl) b4_4 ag89 (by rfl) ?_
        rw [peelB, if_neg (by omega), if_pos (by rw [hl]; omega)]; exact ⟨none, 0, 0, rfl, Own.nil _ _ _ _ _, L4_4⟩
      · have hn : n = 680 := by omega
        subst hn
        refine WC.skip ?_
        refine E.thenN ?_
        refine WC.seq ?_
        refine WC.draw [0, 2, 3, 4, 5, 1, 6, 7, 8] mixed (by kernel_rfl) ?_
        intro w5 d5
        have L5 := L1_4.trans d5
        refine G.any rfl rfl (.move rfl) rfl rfl rfl ?_
        refine G.any rfl rfl (.move rfl) rfl rfl rfl ?_
        refine G.any rfl rfl (.cut (8) (648) Try.underlying107 sz5 rfl rfl (rfl) rfl (rfl) (by decide) (by omega)) rfl rfl rfl ?_
        refine G.any rfl rfl (.move rfl) rfl rfl rfl ?_
        refine G.any rfl rfl (.cutL (648) Try.underlying107 sz5 rfl rfl (rfl) (by decide) (hc)) rfl rfl rfl ?_
        refine G.ef rfl rfl rfl rfl rfl ?_
        refine Ef.call go116 rfl rfl (number_ok w5 (hS.le L5) (by decide) hc) ?_
        rintro _ w5_1 ⟨rfl, h5_1⟩
        refine ⟨_, rfl, ?_⟩
        have L5_1 := L5.trans h5_1
        refine ⟨fun _ => h5_1, ?_⟩
        refine G.any rfl rfl (.assign rfl) rfl rfl rfl ?_
        refine G.any rfl rfl (.assign rfl) rfl rfl rfl ?_
        refine G.any rfl rfl (.assign rfl) rfl rfl rfl ?_
        refine G.nil ?_
        refine E.thenN ?_
        refine WC.seq ?_
        refine WC.seq ?_
        refine WC.region ?_
        refine W.any (.move rfl) rfl rfl rfl ?_
        by_cases h1 : numB xs = 1
        · refine W.any (.dec (.eql rfl rfl) (decide_eq_true (by omega))) rfl rfl rfl ?_
          refine W.any (.move rfl) rfl rfl rfl ?_
          refine W.skip rfl rfl rfl (rfl) rfl rfl ?_
          refine W.skip rfl rfl rfl (rfl) rfl rfl ?_
          refine W.skip rfl rfl rfl (rfl) rfl rfl ?_
          refine W.any (.pickT rfl rfl rfl) rfl rfl rfl ?_
          refine W.nil ?_
          refine E.thenN ?_
          refine WC.condT rfl ?_
          refine WC.seq ?_
          refine WC.drawS (fun w7 w' => Blk w' g0_0 95 (hopV noHop).toArray ∧ Blk w' g0_2 89 ((zeros 32).map u8v).toArray) [0, 1, 2, 3, 4, 5] mixed (by kernel_rfl) ?_
          intro w7 d7
          refine ⟨⟨(bh.le L5_1).le d7, (bs.le L5_1).le d7⟩, ?_⟩
          have L7 := L5_1.trans d7
          refine GS.rd rfl rfl (fun w' hs => .loadAll ag95 (by rfl) rfl hs.1) rfl rfl rfl ?_
          refine GS.rd rfl rfl (fun w' hs => .loadAll ag89 (by rfl) rfl hs.2) rfl rfl rfl ?_
          refine GS.ef0 rfl rfl rfl rfl ?_
          refine Ef.storeAll sz95 (by rfl) rfl rfl ((bh.le L5_1).le d7) (by rfl) (hopV_one _) ?_
          intro w7_2 b7_2 h7_2
          have L7_2 : Le w w7_2 := (hL0.trans L7).then_ h7_2 (fun q hq => by cases hq; exact hg0_0)
          have q7 := ((bs.le L5_1).le d7).ch h7_2 (by simp [hne])
          refine ⟨⟨b7_2, q7⟩, ?_⟩
          refine GS.any rfl rfl (.assign rfl) rfl rfl rfl ?_
          refine GS.ef0 rfl rfl rfl rfl ?_
          refine Ef.storeAll sz89 (by rfl) rfl rfl (q7) (by rfl) (all_u8v _) ?_
          intro w7_4 b7_4 h7_4
          have L7_4 : Le w w7_4 := L7_2.then_ h7_4 (fun q hq => by cases hq; exact Nat.le_trans h0_0.size hg0_2)
          have p7 := b7_2.ch h7_4 (by simp; exact fun h => hne h.symm)
          refine ⟨⟨p7, b7_4⟩, ?_⟩
          refine GS.any rfl rfl (.assign rfl) rfl rfl rfl ?_
          refine GS.nil ?_
          refine E.thenN ?_
          refine WC.ret ?_
          refine E.thenR ?_
          refine E.retCTCT rfl rfl rfl rfl rfl p7 ag95 (by rfl) b7_4 ag89 (by rfl) ?_
          rw [peelB, if_neg (by omega), if_neg (by rw [hl]; decide), if_pos (by rw [h1]; rfl)]; exact ⟨none, 0, 0, rfl, Own.nil _ _ _ _ _, L7_4⟩
        · refine W.any (.dec (.eql rfl rfl) (decide_eq_false (by omega))) rfl rfl rfl ?_
          refine W.any (.move rfl) rfl rfl rfl ?_
          refine W.rdg (Any.rd (.move rfl) _) rfl rfl rfl (rfl) rfl rfl ?_
          by_cases hr : right (numB xs) = true
          · refine W.efg rfl rfl rfl (rfl) rfl rfl ?_
            refine Ef.call go90 rfl rfl (pright_T _ (numB_lt xs) hr w5_1) ?_
            rintro _ w6_4 ⟨rfl, h6_4⟩
            refine ⟨_, rfl, ?_⟩
            have L6_4 := L5_1.trans h6_4
            refine W.rdg (Any.rd (.not rfl) _) rfl rfl rfl (rfl) rfl rfl ?_
            refine W.any (.pickF rfl rfl rfl) rfl rfl rfl ?_
            refine W.nil ?_
            refine E.thenN ?_
            refine WC.condF rfl ?_
            refine WC.skip ?_
            refine E.thenN ?_
            refine WC.seq ?_
            refine WC.region ?_
            refine W.any (.move rfl) rfl rfl rfl ?_
            refine W.any (.move rfl) rfl rfl rfl ?_
            refine W.any (.move rfl) rfl rfl rfl ?_
            refine W.ef rfl rfl rfl ?_
            refine Ef.call go93 rfl rfl (scale_ok _ kk (numB_lt xs) w6_4) ?_
            rintro _ w8_3 ⟨rfl, h8_3⟩
            refine ⟨_, rfl, ?_⟩
            have L8_3 := L6_4.trans h8_3
            refine W.ef rfl rfl rfl ?_
            refine Ef.call go117 rfl rfl (stopped_ok _ _ w8_3) ?_
            rintro _ w8_4 ⟨rfl, h8_4⟩
            refine ⟨_, rfl, ?_⟩
            have L8_4 := L8_3.trans h8_4
            refine W.ef rfl rfl rfl ?_
            refine Ef.allocA z179 ?_
            intro g8_5 w8_5 hg8_5 b8_5 h8_5
            have L8_5 := L8_4.trans h8_5
            refine W.ef0 rfl rfl ?_
            refine Ef.storeAll sz179 (by simp [stopV, sharedB_length]) rfl rfl (b8_5) (by simp [stopV, sharedB_length]) (stopV_one _) ?_
            intro w8_6 b8_6 h8_6
            have L8_6 : Le w0_2 w8_6 := L8_5.then_ h8_6 (fun q hq => by cases hq; exact Nat.le_trans L8_4.size hg8_5)
            obtain ⟨st, hst⟩ : ∃ st : Stop, st = (numB xs, sharedB (scale (numB xs) kk)) := ⟨_, rfl⟩
            have hst32 : st.2.length = 32 := by rw [hst]; exact sharedB_length _
            rw [← hst] at b8_6
            refine W.nil ?_
            refine E.thenN ?_
            refine WC.seq ?_
            refine WC.seq ?_
            refine WC.draw [0, 1, 3, 4, 5, 2, 6] mixed (by kernel_rfl) ?_
            intro w9 d9
            have L9 := L8_6.trans d9
            have bt := b8_6.le d9
            refine G.rd rfl rfl (.loadAll ag179 (by simp [stopV, hst32]) rfl (bt)) rfl rfl rfl ?_
            refine G.any rfl rfl (.move rfl) rfl rfl rfl ?_
            refine G.any rfl rfl (.move rfl) rfl rfl rfl ?_
            refine G.any rfl rfl (.arrPtr Try.underlying89 rfl (by decide)) rfl rfl rfl ?_
            refine G.rd rfl rfl (.loadSb ag89 rfl ((hS.le L9).cutL c 648 (by decide) hc) (by decide) (by decide)) rfl rfl rfl ?_
            refine G.ef rfl rfl rfl rfl rfl ?_
            refine Ef.call go114 rfl rfl (mac_ok st hst32 w9 ((hS.le L9).cut c 8 648 (by decide) (by decide) hc) (by decide)) ?_
            rintro _ w9_2 ⟨rfl, h9_2⟩
            refine ⟨_, rfl, ?_⟩
            have L9_2 := L9.trans h9_2
            refine ⟨fun _ => h9_2, ?_⟩
            refine G.any rfl rfl (.neA eg89 rfl rfl (Eqv.bytes (d := 9998) _ _ Try.underlying89 sz5 Try.underlying5 (macB_length _ _) (by rw [List.length_take, List.length_drop, hS.len]; decide))) rfl rfl rfl ?_
            refine G.nil ?_
            refine E.thenN ?_
            refine WC.condB rfl (fun hm => ?_) (fun hm => ?_)
            · have hmac : macB st ((xs.drop 8).take 640) ≠ xs.drop 648 := by rw [show (xs.drop 648).take 32 = xs.drop 648 from List.take_of_length_le (by rw [List.length_drop, hl]; decide)] at hm; simpa using hm
              refine WC.seq ?_
              refine WC.drawS (fun w10 w' => Blk w' g0_0 95 (hopV noHop).toArray ∧ Blk w' g0_2 89 ((zeros 32).map u8v).toArray) [0, 1, 2, 3, 4, 5] mixed (by kernel_rfl) ?_
              intro w10 d10
              refine ⟨⟨(bh.le L9_2).le d10, (bs.le L9_2).le d10⟩, ?_⟩
              have L10 := L9_2.trans d10
              refine GS.rd rfl rfl (fun w' hs => .loadAll ag95 (by rfl) rfl hs.1) rfl rfl rfl ?_
              refine GS.rd rfl rfl (fun w' hs => .loadAll ag89 (by rfl) rfl hs.2) rfl rfl rfl ?_
              refine GS.ef0 rfl rfl rfl rfl ?_
              refine Ef.storeAll sz95 (by rfl) rfl rfl ((bh.le L9_2).le d10) (by rfl) (hopV_one _) ?_
              intro w10_2 b10_2 h10_2
              have L10_2 : Le w w10_2 := (hL0.trans L10).then_ h10_2 (fun q hq => by cases hq; exact hg0_0)
              have q10 := ((bs.le L9_2).le d10).ch h10_2 (by simp [hne])
              refine ⟨⟨b10_2, q10⟩, ?_⟩
              refine GS.any rfl rfl (.assign rfl) rfl rfl rfl ?_
              refine GS.ef0 rfl rfl rfl rfl ?_
              refine Ef.storeAll sz89 (by rfl) rfl rfl (q10) (by rfl) (all_u8v _) ?_
              intro w10_4 b10_4 h10_4
              have L10_4 : Le w w10_4 := L10_2.then_ h10_4 (fun q hq => by cases hq; exact Nat.le_trans h0_0.size hg0_2)
              have p10 := b10_2.ch h10_4 (by simp; exact fun h => hne h.symm)
              refine ⟨⟨p10, b10_4⟩, ?_⟩
              refine GS.any rfl rfl (.assign rfl) rfl rfl rfl ?_
              refine GS.nil ?_
              refine E.thenN ?_
              refine WC.ret ?_
              refine E.thenR ?_
              refine E.retCTCT rfl rfl rfl rfl rfl p10 ag95 (by rfl) b10_4 ag89 (by rfl) ?_
              rw [peelB, if_neg (by omega), if_neg (by rw [hl]; decide), if_neg (by rw [keyOk_yes h1 hr]; decide), ← hst, if_pos hmac]; exact ⟨none, 0, 0, rfl, Own.nil _ _ _ _ _, L10_4⟩
            · have hmac : macB st ((xs.drop 8).take 640) = xs.drop 648 := by rw [show (xs.drop 648).take 32 = xs.drop 648 from List.take_of_length_le (by rw [List.length_drop, hl]; decide)] at hm; simpa using hm
              refine WC.skip ?_
              refine E.thenN ?_
              refine WC.seq ?_
              refine WC.draw [0, 4, 1, 2, 3, 5, 6, 7] mixed (by kernel_rfl) ?_
              intro w11 d11
              have L11 := L9_2.trans d11
              have bt := bt.le (h9_2.trans d11)
              refine G.any rfl rfl (.move rfl) rfl rfl rfl ?_
              refine G.rd rfl rfl (.loadAll ag179 (by simp [stopV, hst32]) rfl (bt)) rfl rfl rfl ?_
              refine G.ef rfl rfl rfl rfl rfl ?_
              refine Ef.makeSlice 80 80 Try.underlying107 el5 rfl rfl rfl rfl (by decide) (by decide) (by decide) ?_
              intro g11_1 w11_1 hg11_1 b11_1 h11_1
              have L11_1 := L11.trans h11_1
              refine ⟨fun _ => h11_1, ?_⟩
              have bz : Blk w11_1 g11_1 5 ((zeros 80).map u8v).toArray := b11_1.cast (made_u8 80)
              refine G.ef rfl rfl rfl rfl rfl ?_
              refine Ef.buildSliceN [_, _] Try.underlying211 el107 rfl (one2 _ _ _ _ _ _) rfl (by decide) (by decide) ?_
              intro g11_2 w11_2 hg11_2 b11_2 h11_2
              have L11_2 := L11_1.trans h11_2
              refine ⟨fun _ => h11_2, ?_⟩
              refine G.ef rfl rfl rfl rfl rfl ?_
              refine Ef.call go110 rfl rfl (concat_to ((xs.drop 8).take 640 ++ zeros 80) 720 w11_2 (b11_2.sl (s := 1) (n := 2) rfl) (.cons ((hS.le L11_2).cut c 8 648 (by decide) (by decide) hc) (.cons ((bz.le h11_2).sb (zeros_length 80)) (.nil _))) (by simp) (by simp [zeros_length, hS.len]) (by decide) (by decide) (by decide)) ?_
              rintro _ w11_3 ⟨A3, c3, rfl, o3, h11_3⟩
              refine ⟨_, rfl, ?_⟩
              have L11_3 := L11_2.trans h11_3
              refine ⟨fun _ => h11_3, ?_⟩
              refine G.ef rfl rfl rfl rfl rfl ?_
              refine Ef.call go112 rfl rfl (rho_ok st hst32 720 (by decide) w11_3) ?_
              rintro _ w11_5 ⟨A5, c5, rfl, o5, h11_5⟩
              refine ⟨_, rfl, ?_⟩
              have L11_5 := L11_3.trans h11_5
              refine ⟨fun _ => h11_5, ?_⟩
              refine G.ef rfl rfl rfl rfl rfl ?_
              refine Ef.call go109 rfl rfl (xor_ok w11_5 (o3.le h11_5).sb o5.sb (by decide)) ?_
              rintro _ w11_6 ⟨A6, c6, rfl, o6, h11_6⟩
              refine ⟨_, rfl, ?_⟩
              have L11_6 := L11_5.trans h11_6
              refine ⟨fun _ => h11_6, ?_⟩
              have o6 : Own w11_6 w11_5.heap.size 5 1 A6 720 c6 ((opened st ((xs.drop 8).take 640)).map u8v) := o6
              have ohl := o6.sb.len
              refine G.any rfl rfl (.assign rfl) rfl rfl rfl ?_
              refine G.nil ?_
              refine E.thenN ?_
              refine WC.seq ?_
              refine WC.seq ?_
              refine WC.region ?_
              refine W.any (.move rfl) rfl rfl rfl ?_
              refine W.ef rfl rfl rfl ?_
              refine Ef.call go118 rfl rfl (read_okO w11_6 o6.sb (by decide) o6.cap.1) ?_
              rintro _ w12_1 ⟨rfl, h12_1⟩
              refine ⟨_, rfl, ?_⟩
              have L12_1 := L11_6.trans h12_1
              refine W.ef0 rfl rfl ?_
              refine Ef.storeAll sz95 (by rfl) rfl rfl (bh.le L12_1) (by rfl) (hopV_one _) ?_
              intro w12_2 b12_2 h12_2
              have L12_2 : Le w w12_2 := (hL0.trans L12_1).then_ h12_2 (fun q hq => by cases hq; exact hg0_0)
              have bs2 := (bs.le L12_1).ch h12_2 (by simp [hne])
              have bt2 := (bt.le (h11_1.trans (h11_2.trans (h11_3.trans (h11_5.trans (h11_6.trans h12_1)))))).ch h12_2 (by simp; have := bh.lt; have := L8_4.size; omega)
              have all2 := (o6.sb.le h12_1).ch h12_2 (fun q hq => by cases hq; exact fun he => by obtain ⟨gA, hA, hgA, _⟩ := o6.lit (by decide); subst hA; simp [blkOf] at he; have := bh.lt; have := L11_5.size; omega)
              have bh2 := b12_2
              have hL2 := L12_2
              have LM := Le.refl w12_2
              obtain ⟨hh, hhh⟩ : ∃ hh, hh = readH (opened st ((xs.drop 8).take 640)) := ⟨_, rfl⟩
              have hho : HopOk hh := by rw [hhh]; exact readH_ok _
              rw [← hhh] at bh2
              refine W.nil ?_
              refine E.thenN ?_
              refine WC.seq ?_
              refine WC.region ?_
              refine W.rd (.loadAll ag95 (by rfl) rfl (bh2)) rfl rfl rfl ?_
              by_cases hy : mayB hh = true
              · refine W.ef rfl rfl rfl ?_
                refine Ef.call go105 rfl rfl (may_T hh hho hy w12_2) ?_
                rintro _ w13_1 ⟨rfl, h13_1⟩
                refine ⟨_, rfl, ?_⟩
                have L13_1 := LM.trans h13_1
                refine W.any (.not rfl) rfl rfl rfl ?_
                refine W.nil ?_
                refine E.thenN ?_
                refine WC.condF rfl ?_
                refine WC.skip ?_
                refine E.thenN ?_
                refine WC.seq ?_
                refine WC.seq ?_
                refine WC.region ?_
                refine W.any (.field0 fa95_0 rfl) rfl rfl rfl ?_
                refine W.rd (.loadB na3 rfl (bh2.le L13_1) (rfl)) rfl rfl rfl ?_
                refine W.any (.geq rfl rfl) rfl rfl rfl ?_
                refine W.nil ?_
                refine E.thenN ?_
                refine WC.cond rfl (fun hnx => ?_) (fun hnx => ?_)
                · obtain ⟨nx, hnxd⟩ : ∃ nx, nx = be8 (scale (numB xs) (blindB st)) ++ (opened st ((xs.drop 8).take 640)).drop 80 ++ ((opened st ((xs.drop 8).take 640)).drop 48).take 32 := ⟨_, rfl⟩
                  refine WC.draw [0, 1, 5, 6, 7, 8, 2, 3, 4, 9, 10, 11] mixed (by kernel_rfl) ?_
                  intro w16 d16
                  have L16 := L13_1.trans d16
                  have bt3 := bt2.le (L16)
                  have al3 := all2.le (L16)
                  refine G.any rfl rfl (.move rfl) rfl rfl rfl ?_
                  refine G.rd rfl rfl (.loadAll ag179 (by simp [stopV, hst32]) rfl (bt3)) rfl rfl rfl ?_
                  refine G.any rfl rfl (.move rfl) rfl rfl rfl ?_
                  refine G.any rfl rfl (.cutL (80) Try.underlying107 sz5 rfl rfl (rfl) (by decide) (o6.cap.1)) rfl rfl rfl ?_
                  refine G.any rfl rfl (.move rfl) rfl rfl rfl ?_
                  refine G.any rfl rfl (.cut (48) (80) Try.underlying107 sz5 rfl rfl (rfl) rfl (rfl) (by decide) (by have := o6.cap.1; omega)) rfl rfl rfl ?_
                  refine G.ef rfl rfl rfl rfl rfl ?_
                  refine Ef.call go119 rfl rfl (blind_ok st hst32 w16) ?_
                  rintro _ w16_2 ⟨rfl, h16_2⟩
                  refine ⟨_, rfl, ?_⟩
                  have L16_2 := L16.trans h16_2
                  refine ⟨fun _ => h16_2, ?_⟩
                  refine G.ef rfl rfl rfl rfl rfl ?_
                  refine Ef.call go93 rfl rfl (scale_ok _ _ (numB_lt xs) w16_2) ?_
                  rintro _ w16_3 ⟨rfl, h16_3⟩
                  refine ⟨_, rfl, ?_⟩
                  have L16_3 := L16_2.trans h16_3
                  refine ⟨fun _ => h16_3, ?_⟩
                  refine G.ef rfl rfl rfl rfl rfl ?_
                  refine Ef.call go115 rfl rfl (eight_ok _ w16_3) ?_
                  rintro _ w16_4 ⟨g16, rfl, hg16, B16, h16_4⟩
                  refine ⟨_, rfl, ?_⟩
                  have L16_4 := L16_3.trans h16_4
                  refine ⟨fun _ => h16_4, ?_⟩
                  refine G.ef rfl rfl rfl rfl rfl ?_
                  refine Ef.buildSliceN [_, _, _] Try.underlying211 el107 rfl one3 rfl (by decide) (by decide) ?_
                  intro g16_9 w16_9 hg16_9 b16_9 h16_9
                  have L16_9 := L16_4.trans h16_9
                  refine ⟨fun _ => h16_9, ?_⟩
                  refine G.ef rfl rfl rfl rfl rfl ?_
                  refine Ef.call go110 rfl rfl (concat_to nx 680 w16_9 (b16_9.sl (s := 1) (n := 3) rfl) (.cons ((B16.le h16_9).sb (be8_length _)) (.cons ((all2.le L16_9).cutL c6 80 (by decide) o6.cap.1) (.cons ((all2.le L16_9).cut c6 48 80 (by decide) (by decide) o6.cap.1) (.nil _)))) (by rw [hnxd]; simp) (by rw [hnxd]; simp [be8_length, ohl]) (by decide) (by decide) (by decide)) ?_
                  rintro _ w16_10 ⟨A10, c10, rfl, o10, h16_10⟩
                  refine ⟨_, rfl, ?_⟩
                  have L16_10 := L16_9.trans h16_10
                  refine ⟨fun _ => h16_10, ?_⟩
                  refine G.any rfl rfl (.assign rfl) rfl rfl rfl ?_
                  refine G.nil ?_
                  refine E.thenN ?_
                  refine WC.seq ?_
                  refine WC.drawS (fun w17 w' => Blk w' g0_0 95 (hopV hh).toArray ∧ Blk w' g8_5 179 (stopV st).toArray) [0, 1, 2, 3, 4, 5, 6, 7] mixed (by kernel_rfl) ?_
                  intro w17 d17
                  refine ⟨⟨(bh2.le L16_10).le d17, (bt2.le L16_10).le d17⟩, ?_⟩
                  have L17 := L16_10.trans d17
                  refine GS.rd rfl rfl (fun w' hs => .loadAll ag95 (by rfl) rfl hs.1) rfl rfl rfl ?_
                  refine GS.any rfl rfl (.move rfl) rfl rfl rfl ?_
                  refine GS.any rfl rfl (.field0 fa179_1 rfl) rfl rfl rfl ?_
                  refine GS.rd rfl rfl (fun w' hs => .as (Rd.loadSb ag89 rfl (hs.2.sbAt 1 32 st.2 hst32 (stopV_at st)) (by decide) (by decide)) (show _ = Value.agg (st.2.map u8v).toArray by rw [List.take_of_length_le (by omega)])) rfl rfl rfl ?_
                  refine GS.ef0 rfl rfl rfl rfl ?_
                  refine Ef.storeAll sz95 (by rfl) rfl rfl ((bh2.le L16_10).le d17) (by rfl) (hopV_one _) ?_
                  intro w17_4 b17_4 h17_4
                  have L17_4 : Le w w17_4 := (hL2.trans L17).then_ h17_4 (fun q hq => by cases hq; exact hg0_0)
                  have q17 := ((bs2.le L16_10).le d17).ch h17_4 (by simp [hne])
                  have t17 := ((bt2.le L16_10).le d17).ch h17_4 (by simp; have := bh.lt; have := L8_4.size; omega)
                  refine ⟨⟨b17_4, t17⟩, ?_⟩
                  refine GS.any rfl rfl (.assign rfl) rfl rfl rfl ?_
                  refine GS.ef0 rfl rfl rfl rfl ?_
                  refine Ef.storeAll sz89 (by simp [hst32]) rfl rfl (q17) (by simp [zeros, hst32]) (all_u8v _) ?_
                  intro w17_6 b17_6 h17_6
                  have L17_6 : Le w w17_6 := L17_4.then_ h17_6 (fun q hq => by cases hq; exact Nat.le_trans h0_0.size hg0_2)
                  have p17 := b17_4.ch h17_6 (by simp; exact fun h => hne h.symm)
                  refine ⟨⟨p17, t17.ch h17_6 (by simp; have := bs.lt; have := L8_4.size; omega)⟩, ?_⟩
                  refine GS.any rfl rfl (.assign rfl) rfl rfl rfl ?_
                  refine GS.nil ?_
                  refine E.thenN ?_
                  refine WC.ret ?_
                  refine E.retCTCT rfl rfl rfl rfl rfl p17 ag95 (by rfl) b17_6 ag89 (by simp [hst32]) ?_
                  rw [peelB, if_neg (by omega), if_neg (by rw [hl]; decide), if_neg (by rw [keyOk_yes h1 hr]; decide), ← hst, if_neg (by rw [hmac]; simp), ← hhh, if_neg (by rw [hy]; simp), ← hnxd, if_neg (by omega)]; exact ⟨A10, 680, c10, by rw [hst], (((o10.mono (hL2.trans L16_9).size).le d17).ch h17_4 (fun q hq => by cases hq; exact fun he => by have := (o10.row he).1; have := bh2.lt; have := L16_9.size; omega)).ch h17_6 (fun q hq => by cases hq; exact fun he => by have := (o10.row he).1; have := bs2.lt; have := L16_9.size; omega), L17_6⟩
                · refine WC.skip ?_
                  refine E.thenN ?_
                  refine WC.seq ?_
                  refine WC.drawS (fun w17 w' => Blk w' g0_0 95 (hopV hh).toArray ∧ Blk w' g8_5 179 (stopV st).toArray) [0, 1, 2, 3, 4, 5, 6, 7] mixed (by kernel_rfl) ?_
                  intro w17 d17
                  refine ⟨⟨(bh2.le L13_1).le d17, (bt2.le L13_1).le d17⟩, ?_⟩
                  have L17 := L13_1.trans d17
                  refine GS.rd rfl rfl (fun w' hs => .loadAll ag95 (by rfl) rfl hs.1) rfl rfl rfl ?_
                  refine GS.any rfl rfl (.move rfl) rfl rfl rfl ?_
                  refine GS.any rfl rfl (.field0 fa179_1 rfl) rfl rfl rfl ?_
                  refine GS.rd rfl rfl (fun w' hs => .as (Rd.loadSb ag89 rfl (hs.2.sbAt 1 32 st.2 hst32 (stopV_at st)) (by decide) (by decide)) (show _ = Value.agg (st.2.map u8v).toArray by rw [List.take_of_length_le (by omega)])) rfl rfl rfl ?_
                  refine GS.ef0 rfl rfl rfl rfl ?_
                  refine Ef.storeAll sz95 (by rfl) rfl rfl ((bh2.le L13_1).le d17) (by rfl) (hopV_one _) ?_
                  intro w17_4 b17_4 h17_4
                  have L17_4 : Le w w17_4 := (hL2.trans L17).then_ h17_4 (fun q hq => by cases hq; exact hg0_0)
                  have q17 := ((bs2.le L13_1).le d17).ch h17_4 (by simp [hne])
                  have t17 := ((bt2.le L13_1).le d17).ch h17_4 (by simp; have := bh.lt; have := L8_4.size; omega)
                  refine ⟨⟨b17_4, t17⟩, ?_⟩
                  refine GS.any rfl rfl (.assign rfl) rfl rfl rfl ?_
                  refine GS.ef0 rfl rfl rfl rfl ?_
                  refine Ef.storeAll sz89 (by simp [hst32]) rfl rfl (q17) (by simp [zeros, hst32]) (all_u8v _) ?_
                  intro w17_6 b17_6 h17_6
                  have L17_6 : Le w w17_6 := L17_4.then_ h17_6 (fun q hq => by cases hq; exact Nat.le_trans h0_0.size hg0_2)
                  have p17 := b17_4.ch h17_6 (by simp; exact fun h => hne h.symm)
                  refine ⟨⟨p17, t17.ch h17_6 (by simp; have := bs.lt; have := L8_4.size; omega)⟩, ?_⟩
                  refine GS.any rfl rfl (.assign rfl) rfl rfl rfl ?_
                  refine GS.nil ?_
                  refine E.thenN ?_
                  refine WC.ret ?_
                  refine E.retCTCT rfl rfl rfl rfl rfl p17 ag95 (by rfl) b17_6 ag89 (by simp [hst32]) ?_
                  rw [peelB, if_neg (by omega), if_neg (by rw [hl]; decide), if_neg (by rw [keyOk_yes h1 hr]; decide), ← hst, if_neg (by rw [hmac]; simp), ← hhh, if_neg (by rw [hy]; simp), if_pos (by omega)]; exact ⟨none, 0, 0, by rw [hst], Own.nil _ _ _ _ _, L17_6⟩
              · refine W.ef rfl rfl rfl ?_
                refine Ef.call go105 rfl rfl (may_F hh hho (by simpa using hy) w12_2) ?_
                rintro _ w13_1 ⟨rfl, h13_1⟩
                refine ⟨_, rfl, ?_⟩
                have L13_1 := LM.trans h13_1
                refine W.any (.not rfl) rfl rfl rfl ?_
                refine W.nil ?_
                refine E.thenN ?_
                refine WC.condT rfl ?_
                refine WC.seq ?_
                refine WC.drawS (fun w14 w' => Blk w' g0_2 89 ((zeros 32).map u8v).toArray) [0, 1, 2, 3, 4, 5] mixed (by kernel_rfl) ?_
                intro w14 d14
                refine ⟨(bs2.le L13_1).le d14, ?_⟩
                have L14 := L13_1.trans d14
                refine GS.any rfl rfl (.buildF pl95 z95 rfl (show Instr.fill _ _ _ = some (hopV noHop).toArray from rfl)) rfl rfl rfl ?_
                refine GS.rd rfl rfl (fun w' hs => .loadAll ag89 (by rfl) rfl hs) rfl rfl rfl ?_
                refine GS.ef0 rfl rfl rfl rfl ?_
                refine Ef.storeAll sz95 (by rfl) rfl rfl ((bh2.le L13_1).le d14) (by rfl) (hopV_one _) ?_
                intro w14_2 b14_2 h14_2
                have L14_2 : Le w w14_2 := (hL2.trans L14).then_ h14_2 (fun q hq => by cases hq; exact hg0_0)
                have q14 := ((bs2.le L13_1).le d14).ch h14_2 (by simp [hne])
                refine ⟨q14, ?_⟩
                refine GS.any rfl rfl (.assign rfl) rfl rfl rfl ?_
                refine GS.ef0 rfl rfl rfl rfl ?_
                refine Ef.storeAll sz89 (by rfl) rfl rfl (q14) (by rfl) (all_u8v _) ?_
                intro w14_4 b14_4 h14_4
                have L14_4 : Le w w14_4 := L14_2.then_ h14_4 (fun q hq => by cases hq; exact Nat.le_trans h0_0.size hg0_2)
                have p14 := b14_2.ch h14_4 (by simp; exact fun h => hne h.symm)
                refine ⟨b14_4, ?_⟩
                refine GS.any rfl rfl (.assign rfl) rfl rfl rfl ?_
                refine GS.nil ?_
                refine E.thenN ?_
                refine WC.ret ?_
                refine E.thenR ?_
                refine E.retCTCT rfl rfl rfl rfl rfl p14 ag95 (by rfl) b14_4 ag89 (by rfl) ?_
                rw [peelB, if_neg (by omega), if_neg (by rw [hl]; decide), if_neg (by rw [keyOk_yes h1 hr]; decide), ← hst, if_neg (by rw [hmac]; simp), ← hhh, if_pos (by simpa using hy)]; exact ⟨none, 0, 0, rfl, Own.nil _ _ _ _ _, L14_4⟩
          · refine W.efg rfl rfl rfl (rfl) rfl rfl ?_
            refine Ef.call go90 rfl rfl (pright_F _ (numB_lt xs) (by simpa using hr) w5_1) ?_
            rintro _ w6_4 ⟨rfl, h6_4⟩
            refine ⟨_, rfl, ?_⟩
            have L6_4 := L5_1.trans h6_4
            refine W.rdg (Any.rd (.not rfl) _) rfl rfl rfl (rfl) rfl rfl ?_
            refine W.any (.pickF rfl rfl rfl) rfl rfl rfl ?_
            refine W.nil ?_
            refine E.thenN ?_
            refine WC.condT rfl ?_
            refine WC.seq ?_
            refine WC.drawS (fun w7 w' => Blk w' g0_0 95 (hopV noHop).toArray ∧ Blk w' g0_2 89 ((zeros 32).map u8v).toArray) [0, 1, 2, 3, 4, 5] mixed (by kernel_rfl) ?_
            intro w7 d7
            refine ⟨⟨(bh.le L6_4).le d7, (bs.le L6_4).le d7⟩, ?_⟩
            have L7 := L6_4.trans d7
            refine GS.rd rfl rfl (fun w' hs => .loadAll ag95 (by rfl) rfl hs.1) rfl rfl rfl ?_
            refine GS.rd rfl rfl (fun w' hs => .loadAll ag89 (by rfl) rfl hs.2) rfl rfl rfl ?_
            refine GS.ef0 rfl rfl rfl rfl ?_
            refine Ef.storeAll sz95 (by rfl) rfl rfl ((bh.le L6_4).le d7) (by rfl) (hopV_one _) ?_
            intro w7_2 b7_2 h7_2
            have L7_2 : Le w w7_2 := (hL0.trans L7).then_ h7_2 (fun q hq => by cases hq; exact hg0_0)
            have q7 := ((bs.le L6_4).le d7).ch h7_2 (by simp [hne])
            refine ⟨⟨b7_2, q7⟩, ?_⟩
            refine GS.any rfl rfl (.assign rfl) rfl rfl rfl ?_
            refine GS.ef0 rfl rfl rfl rfl ?_
            refine Ef.storeAll sz89 (by rfl) rfl rfl (q7) (by rfl) (all_u8v _) ?_
            intro w7_4 b7_4 h7_4
            have L7_4 : Le w w7_4 := L7_2.then_ h7_4 (fun q hq => by cases hq; exact Nat.le_trans h0_0.size hg0_2)
            have p7 := b7_2.ch h7_4 (by simp; exact fun h => hne h.symm)
            refine ⟨⟨p7, b7_4⟩, ?_⟩
            refine GS.any rfl rfl (.assign rfl) rfl rfl rfl ?_
            refine GS.nil ?_
            refine E.thenN ?_
            refine WC.ret ?_
            refine E.thenR ?_
            refine E.retCTCT rfl rfl rfl rfl rfl p7 ag95 (by rfl) b7_4 ag89 (by rfl) ?_
            rw [peelB, if_neg (by omega), if_neg (by rw [hl]; decide), if_pos (keyOk_no (by simpa using hr))]; exact ⟨none, 0, 0, rfl, Own.nil _ _ _ _ _, L7_4⟩
    · refine W.efg rfl rfl rfl (rfl) rfl rfl ?_
      refine Ef.call go60 rfl rfl (fright_F kk hq w0_2) ?_
      rintro _ w1_4 ⟨rfl, h1_4⟩
      refine ⟨_, rfl, ?_⟩
      have L1_4 := LL.trans h1_4
      refine W.rdg (Any.rd (.not rfl) _) rfl rfl rfl (rfl) rfl rfl ?_
      refine W.any (.pickF rfl rfl rfl) rfl rfl rfl ?_
      refine W.nil ?_
      refine E.thenN ?_
      refine WC.condT rfl ?_
      refine WC.seq ?_
      refine WC.drawS (fun w2 w' => Blk w' g0_0 95 (hopV noHop).toArray ∧ Blk w' g0_2 89 ((zeros 32).map u8v).toArray) [0, 1, 2, 3, 4, 5] mixed (by kernel_rfl) ?_
      intro w2 d2
      refine ⟨⟨(bh.le L1_4).le d2, (bs.le L1_4).le d2⟩, ?_⟩
      have L2 := L1_4.trans d2
      refine GS.rd rfl rfl (fun w' hs => .loadAll ag95 (by rfl) rfl hs.1) rfl rfl rfl ?_
      refine GS.rd rfl rfl (fun w' hs => .loadAll ag89 (by rfl) rfl hs.2) rfl rfl rfl ?_
      refine GS.ef0 rfl rfl rfl rfl ?_
      refine Ef.storeAll sz95 (by rfl) rfl rfl ((bh.le L1_4).le d2) (by rfl) (hopV_one _) ?_
      intro w2_2 b2_2 h2_2
      have L2_2 : Le w w2_2 := (hL0.trans L2).then_ h2_2 (fun q hq => by cases hq; exact hg0_0)
      have q2 := ((bs.le L1_4).le d2).ch h2_2 (by simp [hne])
      refine ⟨⟨b2_2, q2⟩, ?_⟩
      refine GS.any rfl rfl (.assign rfl) rfl rfl rfl ?_
      refine GS.ef0 rfl rfl rfl rfl ?_
      refine Ef.storeAll sz89 (by rfl) rfl rfl (q2) (by rfl) (all_u8v _) ?_
      intro w2_4 b2_4 h2_4
      have L2_4 : Le w w2_4 := L2_2.then_ h2_4 (fun q hq => by cases hq; exact Nat.le_trans h0_0.size hg0_2)
      have p2 := b2_2.ch h2_4 (by simp; exact fun h => hne h.symm)
      refine ⟨⟨p2, b2_4⟩, ?_⟩
      refine GS.any rfl rfl (.assign rfl) rfl rfl rfl ?_
      refine GS.nil ?_
      refine E.thenN ?_
      refine WC.ret ?_
      refine E.thenR ?_
      refine E.retCTCT rfl rfl rfl rfl rfl p2 ag95 (by rfl) b2_4 ag89 (by rfl) ?_
      rw [peelB, if_pos (.inr (by omega))]; exact ⟨none, 0, 0, rfl, Own.nil _ _ _ _ _, L2_4⟩
end Go.Proofs.Ytfgakofjkldcjaa
