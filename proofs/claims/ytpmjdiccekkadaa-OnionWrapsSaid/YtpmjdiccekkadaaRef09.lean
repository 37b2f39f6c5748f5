/- The document's own seals (Eight, Stream, over, Seal, Open), walked: they compute what the program's do. -/
import Derived.Test.YtpmjdiccekkadaaRef04b
import Derived.Test.YtpmjdiccekkadaaSxg
import Derived.Test.YtpmjdiccekkadaaSeal
namespace Go.Proofs.Ytpmjdiccekkadaa
open Go Go.Sx Go.Hsp
set_option maxRecDepth 20000
theorem stream_take (key : List Byte) (n : Nat) : ∀ i, n ≤ 32 * i → (streamTo key i).take n = stream key n := by
  have h : ∀ d, (streamTo key ((n + 31) / 32 + d)).take n = stream key n := by
    intro d
    induction d with
    | zero => rfl
    | succ d ih => rw [← Nat.add_assoc, streamTo_succ, List.take_append_of_le_length (by rw [streamTo_length]; omega)]; exact ih
  intro i hi
  have := h (i - (n + 31) / 32)
  rwa [show (n + 31) / 32 + (i - (n + 31) / 32) = i by omega] at this
theorem streamTo_take (key : List Byte) (i k : Nat) (hk : k < 32) : (streamTo key (i + 1)).take (32 * i + k) ++ [(tag nStream [key, be8 i]).getD k 0] = (streamTo key (i + 1)).take (32 * i + k + 1) := by
  have hl := streamTo_length key i
  have ht := tag_length nStream [key, be8 i]
  rw [List.take_add_one, streamTo_succ, List.getElem?_append_right (by omega), hl, show 32 * i + k - 32 * i = k by omega, List.getElem?_eq_getElem (by omega)]
  simp [List.getD, ht, hk]
theorem xorB_comm (a b : List Byte) : xorB a b = xorB b a := by
  apply List.ext_getElem (by simp [xorB, Nat.min_comm])
  intro i h1 h2
  simp only [xorB, List.getElem_zipWith]
  exact BitVec.xor_comm _ _
theorem xorB_snoc (a b : List Byte) (k : Nat) (ha : k < a.length) (hb : k < b.length) : (xorB a b).take k ++ [a.getD k 0 ^^^ b.getD k 0] = (xorB a b).take (k + 1) := by
  rw [List.take_add_one, List.getElem?_eq_getElem (by simp [xorB]; omega)]
  simp [xorB, List.getD, ha, hb]
theorem strOf_eq (a b : List Byte) : ((strOf a).toList == (strOf b).toList) = decide (a = b) := by
  by_cases h : a = b
  · subst h; simp
  · rw [decide_eq_false h, Bool.eq_false_iff]
    intro hh
    apply h
    have h1 : (strOf a).toList = (strOf b).toList := by simpa using hh
    have h2 : (strOf a).data.toList = (strOf b).data.toList := by
      rw [← ByteArray.toList_eq, ← ByteArray.toList_eq]; exact h1
    simp only [strOf] at h2
    have hinj : ∀ x y : Byte, UInt8.ofNat x.toNat = UInt8.ofNat y.toNat → x = y := fun x y e => by
      have := congrArg UInt8.toNat e
      simp at this
      have hx := x.isLt
      have hy := y.isLt
      exact BitVec.eq_of_toNat_eq (by omega)
    exact List.map_inj_right hinj |>.1 h2
theorem seal_fits (key s : List Byte) (_h8 : 8 ≤ s.length) : decide (sealB key (inner key s) = s) = fits key s := by
  have e : sealB key (inner key s) = s.take (s.length - 8) ++ tagB key (s.take (s.length - 8)) := by rw [sealB, inner, overB_twice]
  rw [e, fits]
  apply decide_eq_decide.2
  constructor
  · intro h
    have h2 := congrArg (List.drop (s.length - 8)) h
    rwa [List.drop_left' (by simp)] at h2
  · intro h
    rw [h, List.take_append_drop]
theorem reight_ok (m : Nat) (w : World) : Calls Try.prog 116 #[.int .u64 (m : Int)] w fun e w' => ∃ A' c', e = .returned (.slice A' (8) c') ∧ Own w' w.heap.size 5 1 A' (8) c' ((be8 m).map u8v) ∧ Le w w' := by
  refine enter Try.func116 rfl rfl ?_
  have L0 := Le.refl w
  refine WC.seq ?_
  refine WC.region ?_
  refine W.any (.assign rfl) rfl rfl rfl ?_
  refine W.nil ?_
  refine E.thenN ?_
  refine WC.seq ?_
  refine WC.region ?_
  refine W.any (.assign rfl) rfl rfl rfl ?_
  refine W.nil ?_
  refine E.thenN ?_
  refine WC.seq ?_
  refine WC.seq ?_
  refine WC.region ?_
  refine W.any (.assign rfl) rfl rfl rfl ?_
  refine W.nil ?_
  refine E.thenN ?_
  refine WC.block ?_
  refine WC.loop (ι := Nat × Option Addr × Nat) (fun ⟨k, A1, c1⟩ => [(0, .int .u64 (m : Int)), (3, .slice A1 k c1), (4, .int .i64 (k : Int))]) (fun ⟨k, A1, c1⟩ wl => k ≤ 8 ∧ Le w wl ∧ Own wl w.heap.size 5 1 A1 k c1 ((be8To m k).map u8v)) (fun ⟨k, A1, c1⟩ => 8 - k) (0, none, 0) ?_ ?_ ?_
  · exact .cons rfl (.cons rfl (.cons rfl (.nil _)))
  · exact ⟨by omega, L0, Own.empty _ _ _ _ _⟩
  · rintro ⟨k, A1, c1⟩ wl ⟨hk, Ll, ol⟩
    refine WC.seq ?_
    refine WC.seq ?_
    refine WC.region ?_
    refine W.any (.move rfl) rfl rfl rfl ?_
    refine W.any (.lss rfl rfl) rfl rfl rfl ?_
    refine W.nil ?_
    refine E.thenN ?_
    refine WC.cond rfl (fun c0 => ?_) (fun c0 => ?_)
    · refine WC.skip ?_
      refine E.thenN ?_
      refine WC.seq ?_
      refine WC.block ?_
      refine WC.region ?_
      refine W.any (.move rfl) rfl rfl rfl ?_
      refine W.any (.move rfl) rfl rfl rfl ?_
      refine W.any (.move rfl) rfl rfl rfl ?_
      refine W.any (.mul rfl rfl (by omega)) rfl rfl rfl ?_
      refine W.any (.sub rfl rfl (by omega)) rfl rfl rfl ?_
      refine W.rd (.convEq (i' := ((56 - 8 * k : Nat) : Int)) (isS Try.underlying3) Try.underlying143 rfl (by rw [wrap_u64]; omega)) rfl rfl rfl ?_
      refine W.any (.shrN m (56 - 8 * k) rfl rfl rfl rfl (by show 56 - 8 * k ≤ 64; omega)) rfl rfl rfl ?_
      refine W.rd (.toU8 (m >>> (56 - 8 * k)) (isS Try.underlying47) Try.underlying5 rfl rfl) rfl rfl rfl ?_
      refine W.ef rfl rfl rfl ?_
      refine Ef.buildSlice1 Try.underlying24 el5 rfl rfl ?_
      intro g5_8 w5_8 hg5_8 b5_8 h5_8
      have L5_8 := Ll.trans h5_8
      refine W.ef rfl rfl rfl ?_
      refine Ef.append Try.underlying24 el5 rfl (ol.le h5_8) rfl (b5_8.src1 Try.underlying24 rfl) (by omega) (by unfold maxLen; omega) (L5_8.size) ?_
      intro A5_9 c5_9 w5_9 o5_9 h5_9 at5_9
      have L5_9 : Le w w5_9 := L5_8.then_ h5_9 (fun q hq => (ol.row hq).1)
      refine W.any (.assign rfl) rfl rfl rfl ?_
      refine W.nil ?_
      refine E.blkN ?_
      refine E.thenN ?_
      refine WC.region ?_
      refine W.any (.move rfl) rfl rfl rfl ?_
      refine W.any (.add rfl rfl (by omega)) rfl rfl rfl ?_
      refine W.any (.assign rfl) rfl rfl rfl ?_
      refine W.nil ?_
      refine E.again (k + 1, A5_9, c5_9) (.cons rfl (.cons rfl (.cons rfl (.nil _)))) ?_ ?_
      · exact ⟨by omega, L5_9, o5_9.cast rfl (by rw [be8To_succ m k (by omega)]; simp)⟩
      · first | omega | (simp only []; omega)
    · have hk8 : k = 8 := by omega
      subst hk8
      refine WC.exit ?_
      refine E.thenX ?_
      refine E.thenX ?_
      refine E.blkH ?_
      refine E.thenN ?_
      refine WC.seq ?_
      refine WC.region ?_
      refine W.any (.move rfl) rfl rfl rfl ?_
      refine W.any (.assign rfl) rfl rfl rfl ?_
      refine W.nil ?_
      refine E.thenN ?_
      refine WC.ret ?_
      refine E.ret1 rfl rfl ?_
      exact ⟨_, _, rfl, ol, Ll⟩

theorem rover_ok {A C : Option Addr} {n c d : Nat} {xs ys : List Byte} (w : World) (hX : Sb w A n xs) (hY : Sb w C n ys) (hn : n ≤ 1000000) : Calls Try.prog 100 #[.slice A n c, .slice C n d] w fun e w' => ∃ A' c', e = .returned (.slice A' (n) c') ∧ Own w' w.heap.size 5 1 A' (n) c' ((xorB ys xs).map u8v) ∧ Le w w' := by
  have hxl := hX.len
  have hyl := hY.len
  refine enter Try.func100 rfl rfl ?_
  have L0 := Le.refl w
  refine WC.seq ?_
  refine WC.region ?_
  refine W.any (.assign rfl) rfl rfl rfl ?_
  refine W.nil ?_
  refine E.thenN ?_
  refine WC.seq ?_
  refine WC.region ?_
  refine W.any (.assign rfl) rfl rfl rfl ?_
  refine W.nil ?_
  refine E.thenN ?_
  refine WC.seq ?_
  refine WC.seq ?_
  refine WC.region ?_
  refine W.any (.assign rfl) rfl rfl rfl ?_
  refine W.nil ?_
  refine E.thenN ?_
  refine WC.block ?_
  refine WC.loop (ι := Nat × Option Addr × Nat) (fun ⟨k, A1, c1⟩ => [(0, .slice A n c), (1, .slice C n d), (5, .slice A1 k c1), (6, .int .i64 (k : Int))]) (fun ⟨k, A1, c1⟩ wl => k ≤ n ∧ Le w wl ∧ Own wl w.heap.size 5 1 A1 k c1 (((xorB xs ys).take k).map u8v)) (fun ⟨k, A1, c1⟩ => n - k) (0, none, 0) ?_ ?_ ?_
  · exact .cons rfl (.cons rfl (.cons rfl (.cons rfl (.nil _))))
  · exact ⟨Nat.zero_le _, L0, Own.empty _ _ _ _ _⟩
  · rintro ⟨k, A1, c1⟩ wl ⟨hk, Ll, ol⟩
    refine WC.seq ?_
    refine WC.seq ?_
    refine WC.region ?_
    refine W.any (.move rfl) rfl rfl rfl ?_
    refine W.any (.move rfl) rfl rfl rfl ?_
    refine W.rd (.len Try.underlying24 rfl) rfl rfl rfl ?_
    refine W.any (.lss rfl rfl) rfl rfl rfl ?_
    refine W.nil ?_
    refine E.thenN ?_
    refine WC.cond rfl (fun c0 => ?_) (fun c0 => ?_)
    · refine WC.skip ?_
      refine E.thenN ?_
      refine WC.seq ?_
      refine WC.block ?_
      refine WC.draw [0, 1, 2, 3, 4, 5, 6, 7, 8, 9, 10, 11, 12] mixed (by kernel_rfl) ?_
      intro w5 d5
      have L5 := Ll.trans d5
      refine G.any rfl rfl (.move rfl) rfl rfl rfl ?_
      refine G.any rfl rfl (.move rfl) rfl rfl rfl ?_
      refine G.any rfl rfl (.move rfl) rfl rfl rfl ?_
      refine G.any rfl rfl (.idxS1 (k) Try.underlying24 sz5 rfl rfl (hX.isSome (by omega)) (rfl) (by omega)) rfl rfl rfl ?_
      refine G.rd rfl rfl (.loadS na5 rfl (hX.le L5) (getb xs (by omega))) rfl rfl rfl ?_
      refine G.any rfl rfl (.move rfl) rfl rfl rfl ?_
      refine G.any rfl rfl (.move rfl) rfl rfl rfl ?_
      refine G.any rfl rfl (.idxS1 (k) Try.underlying24 sz5 rfl rfl (hY.isSome (by omega)) (rfl) (by omega)) rfl rfl rfl ?_
      refine G.rd rfl rfl (.loadS na5 rfl (hY.le L5) (getb ys (by omega))) rfl rfl rfl ?_
      refine G.any rfl rfl (.xor8 rfl rfl) rfl rfl rfl ?_
      refine G.ef rfl rfl rfl rfl rfl ?_
      refine Ef.buildSlice1 Try.underlying24 el5 rfl rfl ?_
      intro g5_10 w5_10 hg5_10 b5_10 h5_10
      have L5_10 := L5.trans h5_10
      refine ⟨fun _ => h5_10, ?_⟩
      refine G.ef rfl rfl rfl rfl rfl ?_
      refine Ef.append Try.underlying24 el5 rfl ((ol.le d5).le h5_10) rfl (b5_10.src1 Try.underlying24 rfl) (by omega) (by unfold maxLen; omega) (L5_10.size) ?_
      intro A5_11 c5_11 w5_11 o5_11 h5_11 at5_11
      have L5_11 : Le w w5_11 := L5_10.then_ h5_11 (fun q hq => (ol.row hq).1)
      refine ⟨fun h => absurd h (ne_true_of_eq_false (by kernel_rfl)), ?_⟩
      refine G.any rfl rfl (.assign rfl) rfl rfl rfl ?_
      refine G.nil ?_
      refine E.blkN ?_
      refine E.thenN ?_
      refine WC.region ?_
      refine W.any (.move rfl) rfl rfl rfl ?_
      refine W.any (.add rfl rfl (by omega)) rfl rfl rfl ?_
      refine W.any (.assign rfl) rfl rfl rfl ?_
      refine W.nil ?_
      refine E.again (k + 1, A5_11, c5_11) (.cons rfl (.cons rfl (.cons rfl (.cons rfl (.nil _))))) ?_ ?_
      · exact ⟨by omega, L5_11, o5_11.cast rfl (by rw [← xorB_snoc xs ys k (by omega) (by omega), List.map_append]; rfl)⟩
      · first | omega | (simp only []; omega)
    · have hkn : k = n := by omega
      subst hkn
      refine WC.exit ?_
      refine E.thenX ?_
      refine E.thenX ?_
      refine E.blkH ?_
      refine E.thenN ?_
      refine WC.seq ?_
      refine WC.region ?_
      refine W.any (.move rfl) rfl rfl rfl ?_
      refine W.any (.assign rfl) rfl rfl rfl ?_
      refine W.nil ?_
      refine E.thenN ?_
      refine WC.ret ?_
      refine E.ret1 rfl rfl ?_
      exact ⟨_, _, rfl, ol.cast rfl (by rw [xorB_comm ys xs, List.take_of_length_le (by simp [xorB]; omega)]), Ll⟩

set_option maxHeartbeats 1000000 in
theorem rstream_ok (key : List Byte) (hk : key.length = 32) (n : Nat) (hn : n ≤ 65536) (w : World) : Calls Try.prog 74 #[.agg (key.map u8v).toArray, .int .i64 (n : Int)] w fun e w' => ∃ A' c', e = .returned (.slice A' (n) c') ∧ Own w' w.heap.size 5 1 A' (n) c' ((stream key n).map u8v) ∧ Le w w' := by
  refine enter Try.func74 rfl rfl ?_
  have L0 := Le.refl w
  refine WC.seq ?_
  refine WC.region ?_
  refine W.ef rfl rfl rfl ?_
  refine Ef.boxA rfl ?_
  intro g0_0 w0_0 hg0_0 b0_0 h0_0
  have L0_0 := L0.trans h0_0
  refine W.any (.assign rfl) rfl rfl rfl ?_
  refine W.nil ?_
  refine E.thenN ?_
  refine WC.seq ?_
  refine WC.seq ?_
  refine WC.region ?_
  refine W.any (.move rfl) rfl rfl rfl ?_
  refine W.any (.dec (.lss rfl rfl) (decide_eq_false (by omega))) rfl rfl rfl ?_
  refine W.any (.move rfl) rfl rfl rfl ?_
  refine W.rdg (Any.rd (.move rfl) _) rfl rfl rfl (rfl) rfl rfl ?_
  refine W.rdg (Any.rd (.dec (.gtr rfl rfl) (decide_eq_false (by omega))) _) rfl rfl rfl (rfl) rfl rfl ?_
  refine W.any (.pickF rfl rfl rfl) rfl rfl rfl ?_
  refine W.nil ?_
  refine E.thenN ?_
  refine WC.condF rfl ?_
  refine WC.skip ?_
  refine E.thenN ?_
  refine WC.seq ?_
  refine WC.region ?_
  refine W.any (.assign rfl) rfl rfl rfl ?_
  refine W.nil ?_
  refine E.thenN ?_
  refine WC.seq ?_
  refine WC.seq ?_
  refine WC.region ?_
  refine W.any (.assign rfl) rfl rfl rfl ?_
  refine W.nil ?_
  refine E.thenN ?_
  refine WC.block ?_
  refine WC.loop (ι := Nat × Option Addr × Nat) (fun ⟨i, A1, cz⟩ => [(1, .int .i64 (n : Int)), (2, .pointer (some ⟨g0_0, 0, none⟩)), (5, .slice A1 (min (32 * i) n) cz), (6, .int .u64 (i : Int))]) (fun ⟨i, A1, cz⟩ wl => 32 * i ≤ n + 31 ∧ Le w wl ∧ w0_0.heap.size ≤ wl.heap.size ∧ Blk wl g0_0 23 (key.map u8v).toArray ∧ Own wl w0_0.heap.size 5 1 A1 (min (32 * i) n) cz (((streamTo key i).take n).map u8v)) (fun ⟨i, A1, cz⟩ => n + 31 - 32 * i) (0, none, 0) ?_ ?_ ?_
  · exact .cons rfl (.cons rfl (.cons' rfl (slice_eq (by omega)) (.cons rfl (.nil _))))
  · exact ⟨by omega, L0_0, Nat.le_refl _, b0_0, (Own.empty _ _ _ _ _).cast (by omega) (by simp [streamTo])⟩
  · rintro ⟨i, A1, cz⟩ wl ⟨hi, Ll, hsz, b0, ol⟩
    refine WC.seq ?_
    refine WC.seq ?_
    refine WC.region ?_
    refine W.any (.move rfl) rfl rfl rfl ?_
    refine W.rd (.len Try.underlying24 rfl) rfl rfl rfl ?_
    refine W.any (.move rfl) rfl rfl rfl ?_
    refine W.any (.lss rfl rfl) rfl rfl rfl ?_
    refine W.nil ?_
    refine E.thenN ?_
    refine WC.cond rfl (fun c1 => ?_) (fun c1 => ?_)
    · have hin : 32 * i < n := by omega
      refine WC.skip ?_
      refine E.thenN ?_
      refine WC.seq ?_
      refine WC.block ?_
      refine WC.cut (ι := Nat) (fun g7 => [(1, .int .i64 (n : Int)), (2, .pointer (some ⟨g0_0, 0, none⟩)), (5, .slice A1 (min (32 * i) n) cz), (6, .int .u64 (i : Int)), (7, .pointer (some ⟨g7, 0, none⟩))]) (fun g7 wc => Le w wc ∧ w0_0.heap.size ≤ wc.heap.size ∧ Blk wc g0_0 23 (key.map u8v).toArray ∧ Own wc w0_0.heap.size 5 1 A1 (min (32 * i) n) cz (((streamTo key i).take n).map u8v) ∧ Blk wc g7 23 ((tag nStream [key, be8 i]).map u8v).toArray ∧ wl.heap.size ≤ g7) ?_ ?_
      · refine WC.drawT (fun o => (app o [0, 1] (.br (app o [2] (.br (app o [3] (.br (app o [4, 5, 6] .nil) (app o [5, 4, 6] .nil))) (app o [5, 3, 4, 6] .nil))) (app o [5, 2, 3, 4, 6] .nil)))) mixed (by kernel_rfl) ?_
        intro w7 d7
        have L7 := Ll.trans d7
        have kb := b0.le d7
        have ko := ol.le d7
        refine GT.app ?_
        refine G.any rfl rfl (.cutArr Try.underlying23 sz5 rfl) rfl rfl rfl ?_
        refine G.any rfl rfl (.move rfl) rfl rfl rfl ?_
        refine G.nil ?_
        refine GT.br ?_ ?_
        · refine GT.app ?_
          refine G.ef rfl rfl rfl rfl rfl ?_
          refine Ef.call go116 rfl rfl (reight_ok i w7) ?_
          rintro _ w7_2 ⟨A2, c2, rfl, o2, h7_2⟩
          refine ⟨_, rfl, ?_⟩
          have L7_2 := L7.trans h7_2
          refine ⟨fun _ => h7_2, ?_⟩
          refine G.nil ?_
          refine GT.br ?_ ?_
          · refine GT.app ?_
            refine G.ef rfl rfl rfl rfl rfl ?_
            refine Ef.buildSliceN [_, _] Try.underlying135 el24 rfl (one2 _ _ _ _ _ _) rfl (by decide) (by decide) ?_
            intro g7_3 w7_3 hg7_3 b7_3 h7_3
            have L7_3 := L7_2.trans h7_3
            refine ⟨fun _ => h7_3, ?_⟩
            refine G.nil ?_
            refine GT.br ?_ ?_
            · refine GT.last ?_
              refine G.ef rfl rfl rfl rfl rfl ?_
              refine Ef.call go56 rfl rfl (rtag_ok _ nStream w7_3 (ps := [key, be8 i]) rfl (Blk.sl (s := 1) (n := 2) (by first | exact b7_3 | exact (b7_3).le h7_5) rfl) (.cons (Blk.sb (by first | exact kb | exact (kb).le h7_2 | exact (kb).le h7_3 | exact (kb).le h7_5 | exact ((kb).le h7_2).le h7_3 | exact ((kb).le h7_2).le h7_5 | exact ((kb).le h7_3).le h7_2 | exact ((kb).le h7_3).le h7_5 | exact ((kb).le h7_5).le h7_2 | exact ((kb).le h7_5).le h7_3 | exact (((kb).le h7_2).le h7_3).le h7_5 | exact (((kb).le h7_2).le h7_5).le h7_3 | exact (((kb).le h7_3).le h7_2).le h7_5 | exact (((kb).le h7_3).le h7_5).le h7_2 | exact (((kb).le h7_5).le h7_2).le h7_3 | exact (((kb).le h7_5).le h7_3).le h7_2) hk) (.cons (Own.sb (by first | exact o2 | exact (o2).le h7_3 | exact (o2).le h7_5 | exact ((o2).le h7_3).le h7_5 | exact ((o2).le h7_5).le h7_3)) (.nil _))) (by rw [tagLen2, hk, be8_length]; decide)) ?_
              rintro _ w7_4 ⟨rfl, h7_4⟩
              refine ⟨_, rfl, ?_⟩
              have L7_4 := L7_3.trans h7_4
              refine ⟨fun _ => h7_4, ?_⟩
              refine G.ef rfl rfl rfl rfl rfl ?_
              refine Ef.allocA z23 ?_
              intro g7_5 w7_5 hg7_5 b7_5 h7_5
              have L7_5 := L7_4.trans h7_5
              refine ⟨fun _ => h7_5, ?_⟩
              refine G.ef0 rfl rfl rfl rfl ?_
              refine Ef.storeAll sz23 (by simp [tag_length]) rfl rfl ((by first | exact b7_5 | exact (b7_5).le h7_2 | exact (b7_5).le h7_3 | exact (b7_5).le h7_4 | exact ((b7_5).le h7_2).le h7_3 | exact ((b7_5).le h7_2).le h7_4 | exact ((b7_5).le h7_3).le h7_2 | exact ((b7_5).le h7_3).le h7_4 | exact ((b7_5).le h7_4).le h7_2 | exact ((b7_5).le h7_4).le h7_3 | exact (((b7_5).le h7_2).le h7_3).le h7_4 | exact (((b7_5).le h7_2).le h7_4).le h7_3 | exact (((b7_5).le h7_3).le h7_2).le h7_4 | exact (((b7_5).le h7_3).le h7_4).le h7_2 | exact (((b7_5).le h7_4).le h7_2).le h7_3 | exact (((b7_5).le h7_4).le h7_3).le h7_2)) (by simp [tag_length]) (all_u8v _) ?_
              intro w7_6 b7_6 h7_6
              have L7_6 : Le w w7_6 := L7_5.then_ h7_6 (fun q hq => by cases hq; first | exact Nat.le_trans L7.size hg7_5 | exact Nat.le_trans L7_2.size hg7_5 | exact Nat.le_trans L7_3.size hg7_5 | exact Nat.le_trans L7_4.size hg7_5)
              refine ⟨fun h => absurd h (ne_true_of_eq_false (by kernel_rfl)), ?_⟩
              refine G.nil ?_
              refine E.meet g7_5 (.cons rfl (.cons rfl (.cons rfl (.cons rfl (.cons rfl (.nil _)))))) ?_
              obtain ⟨wz, LL, hz⟩ : ∃ wz, Le w7 wz ∧ Ch wz w7_6 (some g7_5) := by first | exact ⟨_, h7_2.trans (h7_3.trans (h7_4.trans h7_5)), h7_6⟩ | exact ⟨_, h7_2.trans (h7_3.trans (h7_5.trans h7_4)), h7_6⟩ | exact ⟨_, h7_2.trans (h7_5.trans (h7_3.trans h7_4)), h7_6⟩ | exact ⟨_, h7_5.trans (h7_2.trans (h7_3.trans h7_4)), h7_6⟩
              have hwg : wl.heap.size ≤ g7_5 := by have e1 := d7.size; have e2 := h7_2.size; have e3 := h7_3.size; have e4 := h7_4.size; omega
              exact ⟨L7_6, by have := LL.size; have := d7.size; have := hz.size; omega, (kb.le LL).ch hz (by simp; have := b0.lt; omega), (ko.le LL).ch hz (fun q hq => by cases hq; exact fun he => by have := (ol.row he).2; omega), b7_6, hwg⟩
            · refine GT.last ?_
              refine G.ef rfl rfl rfl rfl rfl ?_
              refine Ef.allocA z23 ?_
              intro g7_5 w7_5 hg7_5 b7_5 h7_5
              have L7_5 := L7_3.trans h7_5
              refine ⟨fun _ => h7_5, ?_⟩
              refine G.ef rfl rfl rfl rfl rfl ?_
              refine Ef.call go56 rfl rfl (rtag_ok _ nStream w7_5 (ps := [key, be8 i]) rfl (Blk.sl (s := 1) (n := 2) (by first | exact b7_3 | exact (b7_3).le h7_5) rfl) (.cons (Blk.sb (by first | exact kb | exact (kb).le h7_2 | exact (kb).le h7_3 | exact (kb).le h7_5 | exact ((kb).le h7_2).le h7_3 | exact ((kb).le h7_2).le h7_5 | exact ((kb).le h7_3).le h7_2 | exact ((kb).le h7_3).le h7_5 | exact ((kb).le h7_5).le h7_2 | exact ((kb).le h7_5).le h7_3 | exact (((kb).le h7_2).le h7_3).le h7_5 | exact (((kb).le h7_2).le h7_5).le h7_3 | exact (((kb).le h7_3).le h7_2).le h7_5 | exact (((kb).le h7_3).le h7_5).le h7_2 | exact (((kb).le h7_5).le h7_2).le h7_3 | exact (((kb).le h7_5).le h7_3).le h7_2) hk) (.cons (Own.sb (by first | exact o2 | exact (o2).le h7_3 | exact (o2).le h7_5 | exact ((o2).le h7_3).le h7_5 | exact ((o2).le h7_5).le h7_3)) (.nil _))) (by rw [tagLen2, hk, be8_length]; decide)) ?_
              rintro _ w7_4 ⟨rfl, h7_4⟩
              refine ⟨_, rfl, ?_⟩
              have L7_4 := L7_5.trans h7_4
              refine ⟨fun _ => h7_4, ?_⟩
              refine G.ef0 rfl rfl rfl rfl ?_
              refine Ef.storeAll sz23 (by simp [tag_length]) rfl rfl ((by first | exact b7_5 | exact (b7_5).le h7_2 | exact (b7_5).le h7_3 | exact (b7_5).le h7_4 | exact ((b7_5).le h7_2).le h7_3 | exact ((b7_5).le h7_2).le h7_4 | exact ((b7_5).le h7_3).le h7_2 | exact ((b7_5).le h7_3).le h7_4 | exact ((b7_5).le h7_4).le h7_2 | exact ((b7_5).le h7_4).le h7_3 | exact (((b7_5).le h7_2).le h7_3).le h7_4 | exact (((b7_5).le h7_2).le h7_4).le h7_3 | exact (((b7_5).le h7_3).le h7_2).le h7_4 | exact (((b7_5).le h7_3).le h7_4).le h7_2 | exact (((b7_5).le h7_4).le h7_2).le h7_3 | exact (((b7_5).le h7_4).le h7_3).le h7_2)) (by simp [tag_length]) (all_u8v _) ?_
              intro w7_6 b7_6 h7_6
              have L7_6 : Le w w7_6 := L7_4.then_ h7_6 (fun q hq => by cases hq; first | exact Nat.le_trans L7.size hg7_5 | exact Nat.le_trans L7_2.size hg7_5 | exact Nat.le_trans L7_3.size hg7_5 | exact Nat.le_trans L7_4.size hg7_5)
              refine ⟨fun h => absurd h (ne_true_of_eq_false (by kernel_rfl)), ?_⟩
              refine G.nil ?_
              refine E.meet g7_5 (.cons rfl (.cons rfl (.cons rfl (.cons rfl (.cons rfl (.nil _)))))) ?_
              obtain ⟨wz, LL, hz⟩ : ∃ wz, Le w7 wz ∧ Ch wz w7_6 (some g7_5) := by first | exact ⟨_, h7_2.trans (h7_3.trans (h7_4.trans h7_5)), h7_6⟩ | exact ⟨_, h7_2.trans (h7_3.trans (h7_5.trans h7_4)), h7_6⟩ | exact ⟨_, h7_2.trans (h7_5.trans (h7_3.trans h7_4)), h7_6⟩ | exact ⟨_, h7_5.trans (h7_2.trans (h7_3.trans h7_4)), h7_6⟩
              have hwg : wl.heap.size ≤ g7_5 := by have e1 := d7.size; have e2 := h7_2.size; have e3 := h7_3.size; have e4 := h7_4.size; omega
              exact ⟨L7_6, by have := LL.size; have := d7.size; have := hz.size; omega, (kb.le LL).ch hz (by simp; have := b0.lt; omega), (ko.le LL).ch hz (fun q hq => by cases hq; exact fun he => by have := (ol.row he).2; omega), b7_6, hwg⟩
          · refine GT.last ?_
            refine G.ef rfl rfl rfl rfl rfl ?_
            refine Ef.allocA z23 ?_
            intro g7_5 w7_5 hg7_5 b7_5 h7_5
            have L7_5 := L7_2.trans h7_5
            refine ⟨fun _ => h7_5, ?_⟩
            refine G.ef rfl rfl rfl rfl rfl ?_
            refine Ef.buildSliceN [_, _] Try.underlying135 el24 rfl (one2 _ _ _ _ _ _) rfl (by decide) (by decide) ?_
            intro g7_3 w7_3 hg7_3 b7_3 h7_3
            have L7_3 := L7_5.trans h7_3
            refine ⟨fun _ => h7_3, ?_⟩
            refine G.ef rfl rfl rfl rfl rfl ?_
            refine Ef.call go56 rfl rfl (rtag_ok _ nStream w7_3 (ps := [key, be8 i]) rfl (Blk.sl (s := 1) (n := 2) (by first | exact b7_3 | exact (b7_3).le h7_5) rfl) (.cons (Blk.sb (by first | exact kb | exact (kb).le h7_2 | exact (kb).le h7_3 | exact (kb).le h7_5 | exact ((kb).le h7_2).le h7_3 | exact ((kb).le h7_2).le h7_5 | exact ((kb).le h7_3).le h7_2 | exact ((kb).le h7_3).le h7_5 | exact ((kb).le h7_5).le h7_2 | exact ((kb).le h7_5).le h7_3 | exact (((kb).le h7_2).le h7_3).le h7_5 | exact (((kb).le h7_2).le h7_5).le h7_3 | exact (((kb).le h7_3).le h7_2).le h7_5 | exact (((kb).le h7_3).le h7_5).le h7_2 | exact (((kb).le h7_5).le h7_2).le h7_3 | exact (((kb).le h7_5).le h7_3).le h7_2) hk) (.cons (Own.sb (by first | exact o2 | exact (o2).le h7_3 | exact (o2).le h7_5 | exact ((o2).le h7_3).le h7_5 | exact ((o2).le h7_5).le h7_3)) (.nil _))) (by rw [tagLen2, hk, be8_length]; decide)) ?_
            rintro _ w7_4 ⟨rfl, h7_4⟩
            refine ⟨_, rfl, ?_⟩
            have L7_4 := L7_3.trans h7_4
            refine ⟨fun _ => h7_4, ?_⟩
            refine G.ef0 rfl rfl rfl rfl ?_
            refine Ef.storeAll sz23 (by simp [tag_length]) rfl rfl ((by first | exact b7_5 | exact (b7_5).le h7_2 | exact (b7_5).le h7_3 | exact (b7_5).le h7_4 | exact ((b7_5).le h7_2).le h7_3 | exact ((b7_5).le h7_2).le h7_4 | exact ((b7_5).le h7_3).le h7_2 | exact ((b7_5).le h7_3).le h7_4 | exact ((b7_5).le h7_4).le h7_2 | exact ((b7_5).le h7_4).le h7_3 | exact (((b7_5).le h7_2).le h7_3).le h7_4 | exact (((b7_5).le h7_2).le h7_4).le h7_3 | exact (((b7_5).le h7_3).le h7_2).le h7_4 | exact (((b7_5).le h7_3).le h7_4).le h7_2 | exact (((b7_5).le h7_4).le h7_2).le h7_3 | exact (((b7_5).le h7_4).le h7_3).le h7_2)) (by simp [tag_length]) (all_u8v _) ?_
            intro w7_6 b7_6 h7_6
            have L7_6 : Le w w7_6 := L7_4.then_ h7_6 (fun q hq => by cases hq; first | exact Nat.le_trans L7.size hg7_5 | exact Nat.le_trans L7_2.size hg7_5 | exact Nat.le_trans L7_3.size hg7_5 | exact Nat.le_trans L7_4.size hg7_5)
            refine ⟨fun h => absurd h (ne_true_of_eq_false (by kernel_rfl)), ?_⟩
            refine G.nil ?_
            refine E.meet g7_5 (.cons rfl (.cons rfl (.cons rfl (.cons rfl (.cons rfl (.nil _)))))) ?_
            obtain ⟨wz, LL, hz⟩ : ∃ wz, Le w7 wz ∧ Ch wz w7_6 (some g7_5) := by first | exact ⟨_, h7_2.trans (h7_3.trans (h7_4.trans h7_5)), h7_6⟩ | exact ⟨_, h7_2.trans (h7_3.trans (h7_5.trans h7_4)), h7_6⟩ | exact ⟨_, h7_2.trans (h7_5.trans (h7_3.trans h7_4)), h7_6⟩ | exact ⟨_, h7_5.trans (h7_2.trans (h7_3.trans h7_4)), h7_6⟩
            have hwg : wl.heap.size ≤ g7_5 := by have e1 := d7.size; have e2 := h7_2.size; have e3 := h7_3.size; have e4 := h7_4.size; omega
            exact ⟨L7_6, by have := LL.size; have := d7.size; have := hz.size; omega, (kb.le LL).ch hz (by simp; have := b0.lt; omega), (ko.le LL).ch hz (fun q hq => by cases hq; exact fun he => by have := (ol.row he).2; omega), b7_6, hwg⟩
        · refine GT.last ?_
          refine G.ef rfl rfl rfl rfl rfl ?_
          refine Ef.allocA z23 ?_
          intro g7_5 w7_5 hg7_5 b7_5 h7_5
          have L7_5 := L7.trans h7_5
          refine ⟨fun _ => h7_5, ?_⟩
          refine G.ef rfl rfl rfl rfl rfl ?_
          refine Ef.call go116 rfl rfl (reight_ok i w7_5) ?_
          rintro _ w7_2 ⟨A2, c2, rfl, o2, h7_2⟩
          refine ⟨_, rfl, ?_⟩
          have L7_2 := L7_5.trans h7_2
          refine ⟨fun _ => h7_2, ?_⟩
          refine G.ef rfl rfl rfl rfl rfl ?_
          refine Ef.buildSliceN [_, _] Try.underlying135 el24 rfl (one2 _ _ _ _ _ _) rfl (by decide) (by decide) ?_
          intro g7_3 w7_3 hg7_3 b7_3 h7_3
          have L7_3 := L7_2.trans h7_3
          refine ⟨fun _ => h7_3, ?_⟩
          refine G.ef rfl rfl rfl rfl rfl ?_
          refine Ef.call go56 rfl rfl (rtag_ok _ nStream w7_3 (ps := [key, be8 i]) rfl (Blk.sl (s := 1) (n := 2) (by first | exact b7_3 | exact (b7_3).le h7_5) rfl) (.cons (Blk.sb (by first | exact kb | exact (kb).le h7_2 | exact (kb).le h7_3 | exact (kb).le h7_5 | exact ((kb).le h7_2).le h7_3 | exact ((kb).le h7_2).le h7_5 | exact ((kb).le h7_3).le h7_2 | exact ((kb).le h7_3).le h7_5 | exact ((kb).le h7_5).le h7_2 | exact ((kb).le h7_5).le h7_3 | exact (((kb).le h7_2).le h7_3).le h7_5 | exact (((kb).le h7_2).le h7_5).le h7_3 | exact (((kb).le h7_3).le h7_2).le h7_5 | exact (((kb).le h7_3).le h7_5).le h7_2 | exact (((kb).le h7_5).le h7_2).le h7_3 | exact (((kb).le h7_5).le h7_3).le h7_2) hk) (.cons (Own.sb (by first | exact o2 | exact (o2).le h7_3 | exact (o2).le h7_5 | exact ((o2).le h7_3).le h7_5 | exact ((o2).le h7_5).le h7_3)) (.nil _))) (by rw [tagLen2, hk, be8_length]; decide)) ?_
          rintro _ w7_4 ⟨rfl, h7_4⟩
          refine ⟨_, rfl, ?_⟩
          have L7_4 := L7_3.trans h7_4
          refine ⟨fun _ => h7_4, ?_⟩
          refine G.ef0 rfl rfl rfl rfl ?_
          refine Ef.storeAll sz23 (by simp [tag_length]) rfl rfl ((by first | exact b7_5 | exact (b7_5).le h7_2 | exact (b7_5).le h7_3 | exact (b7_5).le h7_4 | exact ((b7_5).le h7_2).le h7_3 | exact ((b7_5).le h7_2).le h7_4 | exact ((b7_5).le h7_3).le h7_2 | exact ((b7_5).le h7_3).le h7_4 | exact ((b7_5).le h7_4).le h7_2 | exact ((b7_5).le h7_4).le h7_3 | exact (((b7_5).le h7_2).le h7_3).le h7_4 | exact (((b7_5).le h7_2).le h7_4).le h7_3 | exact (((b7_5).le h7_3).le h7_2).le h7_4 | exact (((b7_5).le h7_3).le h7_4).le h7_2 | exact (((b7_5).le h7_4).le h7_2).le h7_3 | exact (((b7_5).le h7_4).le h7_3).le h7_2)) (by simp [tag_length]) (all_u8v _) ?_
          intro w7_6 b7_6 h7_6
          have L7_6 : Le w w7_6 := L7_4.then_ h7_6 (fun q hq => by cases hq; first | exact Nat.le_trans L7.size hg7_5 | exact Nat.le_trans L7_2.size hg7_5 | exact Nat.le_trans L7_3.size hg7_5 | exact Nat.le_trans L7_4.size hg7_5)
          refine ⟨fun h => absurd h (ne_true_of_eq_false (by kernel_rfl)), ?_⟩
          refine G.nil ?_
          refine E.meet g7_5 (.cons rfl (.cons rfl (.cons rfl (.cons rfl (.cons rfl (.nil _)))))) ?_
          obtain ⟨wz, LL, hz⟩ : ∃ wz, Le w7 wz ∧ Ch wz w7_6 (some g7_5) := by first | exact ⟨_, h7_2.trans (h7_3.trans (h7_4.trans h7_5)), h7_6⟩ | exact ⟨_, h7_2.trans (h7_3.trans (h7_5.trans h7_4)), h7_6⟩ | exact ⟨_, h7_2.trans (h7_5.trans (h7_3.trans h7_4)), h7_6⟩ | exact ⟨_, h7_5.trans (h7_2.trans (h7_3.trans h7_4)), h7_6⟩
          have hwg : wl.heap.size ≤ g7_5 := by have e1 := d7.size; have e2 := h7_2.size; have e3 := h7_3.size; have e4 := h7_4.size; omega
          exact ⟨L7_6, by have := LL.size; have := d7.size; have := hz.size; omega, (kb.le LL).ch hz (by simp; have := b0.lt; omega), (ko.le LL).ch hz (fun q hq => by cases hq; exact fun he => by have := (ol.row he).2; omega), b7_6, hwg⟩
      · rintro g7 wc ⟨Lc, hsz2, b0, ol2, b7, hg7⟩
        refine WC.seq ?_
        refine WC.region ?_
        refine W.any (.assign rfl) rfl rfl rfl ?_
        refine W.nil ?_
        refine E.thenN ?_
        refine WC.block ?_
        refine WC.loop (ι := Nat × Option Addr × Nat) (fun ⟨k, Ak, ck⟩ => [(1, .int .i64 (n : Int)), (2, .pointer (some ⟨g0_0, 0, none⟩)), (5, .slice Ak (32 * i + k) ck), (6, .int .u64 (i : Int)), (7, .pointer (some ⟨g7, 0, none⟩)), (8, .int .i64 (k : Int))]) (fun ⟨k, Ak, ck⟩ wm => k ≤ 32 ∧ 32 * i + k ≤ n ∧ Le w wm ∧ w0_0.heap.size ≤ wm.heap.size ∧ Blk wm g0_0 23 (key.map u8v).toArray ∧ Own wm w0_0.heap.size 5 1 Ak (32 * i + k) ck (((streamTo key (i + 1)).take (32 * i + k)).map u8v) ∧ Blk wm g7 23 ((tag nStream [key, be8 i]).map u8v).toArray ∧ rowOf Ak ck ≠ some g7) (fun ⟨k, Ak, ck⟩ => 32 - k) (0, A1, cz) ?_ ?_ ?_
        · exact .cons rfl (.cons rfl (.cons' rfl (slice_eq (by omega)) (.cons rfl (.cons rfl (.cons rfl (.nil _))))))
        · exact ⟨by omega, by omega, Lc, hsz2, b0, ol2.cast (by omega) (by rw [streamTo_succ, List.take_append_of_le_length (by rw [streamTo_length]; omega), List.take_of_length_le (by rw [streamTo_length]; omega), List.take_of_length_le (by rw [streamTo_length]; omega)]), b7, fun he => by have := (ol.row he).2; omega⟩
        · rintro ⟨k, Ak, ck⟩ wm ⟨hk2, hkn, Lm, hszk, b0, ok, b7, nek⟩
          refine WC.seq ?_
          refine WC.seq ?_
          refine WC.region ?_
          refine W.any (.move rfl) rfl rfl rfl ?_
          by_cases ka : k < 32
          · refine W.any (.dec (.lss rfl rfl) (decide_eq_true (by omega))) rfl rfl rfl ?_
            refine W.any (.move rfl) rfl rfl rfl ?_
            refine W.rdg (Any.rd (.move rfl) _) rfl rfl rfl (rfl) rfl rfl ?_
            refine W.rdg (.len Try.underlying24 rfl) rfl rfl rfl (rfl) rfl rfl ?_
            refine W.rdg (Any.rd (.move rfl) _) rfl rfl rfl (rfl) rfl rfl ?_
            by_cases kc : 32 * i + k < n
            · refine W.rdg (Any.rd (.dec (.lss rfl rfl) (decide_eq_true (by omega))) _) rfl rfl rfl (rfl) rfl rfl ?_
              refine W.any (.pickT rfl rfl rfl) rfl rfl rfl ?_
              refine W.nil ?_
              refine E.thenN ?_
              refine WC.condT rfl ?_
              refine WC.skip ?_
              refine E.thenN ?_
              refine WC.seq ?_
              refine WC.block ?_
              refine WC.region ?_
              refine W.any (.move rfl) rfl rfl rfl ?_
              refine W.any (.move rfl) rfl rfl rfl ?_
              refine W.any (.idxA1 (k) Try.underlying23 sz5 rfl rfl (rfl) (by omega)) rfl rfl rfl ?_
              refine W.rd (.loadB na5 rfl (b7) (getbA _ (by rw [tag_length]; omega))) rfl rfl rfl ?_
              refine W.ef rfl rfl rfl ?_
              refine Ef.buildSlice1 Try.underlying24 el5 rfl rfl ?_
              intro g11_4 w11_4 hg11_4 b11_4 h11_4
              have L11_4 := Lm.trans h11_4
              refine W.ef rfl rfl rfl ?_
              refine Ef.append Try.underlying24 el5 rfl (ok.le h11_4) rfl (b11_4.src1 Try.underlying24 rfl) (by omega) (by unfold maxLen; omega) (Nat.le_trans hszk h11_4.size) ?_
              intro A11_5 c11_5 w11_5 o11_5 h11_5 at11_5
              have L11_5 : Le w w11_5 := L11_4.then_ h11_5 (fun q hq => Nat.le_trans L0_0.size (ok.row hq).1)
              refine W.any (.assign rfl) rfl rfl rfl ?_
              refine W.nil ?_
              refine E.blkN ?_
              refine E.thenN ?_
              refine WC.region ?_
              refine W.any (.move rfl) rfl rfl rfl ?_
              refine W.any (.add rfl rfl (by omega)) rfl rfl rfl ?_
              refine W.any (.assign rfl) rfl rfl rfl ?_
              refine W.nil ?_
              refine E.again (k + 1, A11_5, c11_5) (.cons rfl (.cons rfl (.cons rfl (.cons rfl (.cons rfl (.cons rfl (.nil _))))))) ?_ ?_
              · exact ⟨by omega, by omega, L11_5, by have := h11_4.size; have := h11_5.size; omega, (b0.le h11_4).ch h11_5 (fun he => by have := (ok.row he).1; have := b0_0.lt; omega), o11_5.cast (by omega) (by rw [show 32 * i + (k + 1) = 32 * i + k + 1 by omega, ← streamTo_take key i k (by omega), List.map_append]; rfl), (b7.le h11_4).ch h11_5 nek, at11_5.off (by have := b7.lt; have := h11_4.size; omega) nek⟩
              · first | omega | (simp only []; omega)
            · refine W.rdg (Any.rd (.dec (.lss rfl rfl) (decide_eq_false (by omega))) _) rfl rfl rfl (rfl) rfl rfl ?_
              refine W.any (.pickT rfl rfl rfl) rfl rfl rfl ?_
              refine W.nil ?_
              refine E.thenN ?_
              refine WC.condF rfl ?_
              refine WC.exit ?_
              refine E.thenX ?_
              refine E.thenX ?_
              refine E.blkH ?_
              refine E.blkN ?_
              refine E.thenN ?_
              refine WC.region ?_
              have hend : (streamTo key (i + 1)).take (32 * i + k) = (streamTo key (i + 1)).take n := by
                by_cases h32 : k = 32
                · rw [List.take_of_length_le (by rw [streamTo_length]; omega), List.take_of_length_le (by rw [streamTo_length]; omega)]
                · rw [show 32 * i + k = n by omega]
              refine W.any (.move rfl) rfl rfl rfl ?_
              refine W.any (.addU rfl rfl (by omega)) rfl rfl rfl ?_
              refine W.any (.assign rfl) rfl rfl rfl ?_
              refine W.nil ?_
              refine E.again (i + 1, Ak, ck) (.cons rfl (.cons rfl (.cons' rfl (slice_eq (by omega)) (.cons' rfl (int_eq (by omega)) (.nil _))))) ?_ ?_
              · exact ⟨by omega, Lm, hszk, b0, ok.cast (by omega) (by rw [hend])⟩
              · first | omega | (simp only []; omega)
          · refine W.any (.dec (.lss rfl rfl) (decide_eq_false (by omega))) rfl rfl rfl ?_
            refine W.any (.move rfl) rfl rfl rfl ?_
            refine W.skip rfl rfl rfl (rfl) rfl rfl ?_
            refine W.skip rfl rfl rfl (rfl) rfl rfl ?_
            refine W.skip rfl rfl rfl (rfl) rfl rfl ?_
            refine W.skip rfl rfl rfl (rfl) rfl rfl ?_
            refine W.any (.pickF rfl rfl rfl) rfl rfl rfl ?_
            refine W.nil ?_
            refine E.thenN ?_
            refine WC.condF rfl ?_
            refine WC.exit ?_
            refine E.thenX ?_
            refine E.thenX ?_
            refine E.blkH ?_
            refine E.blkN ?_
            refine E.thenN ?_
            refine WC.region ?_
            have hend : (streamTo key (i + 1)).take (32 * i + k) = (streamTo key (i + 1)).take n := by
              by_cases h32 : k = 32
              · rw [List.take_of_length_le (by rw [streamTo_length]; omega), List.take_of_length_le (by rw [streamTo_length]; omega)]
              · rw [show 32 * i + k = n by omega]
            refine W.any (.move rfl) rfl rfl rfl ?_
            refine W.any (.addU rfl rfl (by omega)) rfl rfl rfl ?_
            refine W.any (.assign rfl) rfl rfl rfl ?_
            refine W.nil ?_
            refine E.again (i + 1, Ak, ck) (.cons rfl (.cons rfl (.cons' rfl (slice_eq (by omega)) (.cons' rfl (int_eq (by omega)) (.nil _))))) ?_ ?_
            · exact ⟨by omega, Lm, hszk, b0, ok.cast (by omega) (by rw [hend])⟩
            · first | omega | (simp only []; omega)
    · have hin : n ≤ 32 * i := by omega
      refine WC.exit ?_
      refine E.thenX ?_
      refine E.thenX ?_
      refine E.blkH ?_
      refine E.thenN ?_
      refine WC.seq ?_
      refine WC.region ?_
      refine W.any (.move rfl) rfl rfl rfl ?_
      refine W.any (.assign rfl) rfl rfl rfl ?_
      refine W.nil ?_
      refine E.thenN ?_
      refine WC.ret ?_
      refine E.ret1 rfl rfl ?_
      exact ⟨_, _, by rw [show min (32 * i) n = n by omega], (ol.mono L0_0.size).cast (by omega) (by rw [stream_take key n i hin]), Ll⟩

theorem rseal_ok (key : List Byte) (hk : key.length = 32) {A : Option Addr} {n c : Nat} {xs : List Byte} (w : World) (hS : Sb w A n xs) (hn : n ≤ 65536) : Calls Try.prog 47 #[.agg (key.map u8v).toArray, .slice A n c] w fun e w' => ∃ A' c', e = .returned (.slice A' (n + 8) c') ∧ Own w' w.heap.size 5 1 A' (n + 8) c' ((sealB key xs).map u8v) ∧ Le w w' := by
  refine enter Try.func47 rfl rfl ?_
  have L0 := Le.refl w
  refine WC.seq ?_
  refine WC.region ?_
  refine W.ef rfl rfl rfl ?_
  refine Ef.boxA rfl ?_
  intro g0_0 w0_0 hg0_0 b0_0 h0_0
  have L0_0 := L0.trans h0_0
  refine W.any (.assign rfl) rfl rfl rfl ?_
  refine W.nil ?_
  refine E.thenN ?_
  refine WC.seq ?_
  refine WC.seq ?_
  refine WC.region ?_
  refine W.any (.move rfl) rfl rfl rfl ?_
  refine W.rd (.len Try.underlying24 rfl) rfl rfl rfl ?_
  refine W.any (.dec (.gtr rfl rfl) (decide_eq_false (by omega))) rfl rfl rfl ?_
  refine W.nil ?_
  refine E.thenN ?_
  refine WC.condF rfl ?_
  refine WC.skip ?_
  refine E.thenN ?_
  refine WC.seq ?_
  refine WC.region ?_
  refine W.any (.move rfl) rfl rfl rfl ?_
  refine W.rd (.loadAll ag23 (by simp [hk]) rfl (b0_0)) rfl rfl rfl ?_
  refine W.any (.move rfl) rfl rfl rfl ?_
  refine W.rd (.len Try.underlying24 rfl) rfl rfl rfl ?_
  refine W.ef rfl rfl rfl ?_
  refine Ef.call go74 rfl rfl (rstream_ok key hk n hn w0_0) ?_
  rintro _ w3_4 ⟨A3, c3, rfl, o3, h3_4⟩
  refine ⟨_, rfl, ?_⟩
  have L3_4 := L0_0.trans h3_4
  refine W.ef rfl rfl rfl ?_
  refine Ef.call go100 rfl rfl (rover_ok w3_4 (hS.le L3_4) o3.sb (by omega)) ?_
  rintro _ w3_5 ⟨A5, c5, rfl, o5, h3_5⟩
  refine ⟨_, rfl, ?_⟩
  have L3_5 := L3_4.trans h3_5
  have hov : xorB (stream key n) xs = overB key xs := by rw [overB, hS.len]
  rw [hov] at o5
  have hol := overB_length key xs
  have hxl := hS.len
  refine W.any (.assign rfl) rfl rfl rfl ?_
  refine W.nil ?_
  refine E.thenN ?_
  refine WC.seq ?_
  refine WC.region ?_
  refine W.any (.cutArr Try.underlying23 sz5 rfl) rfl rfl rfl ?_
  refine W.any (.move rfl) rfl rfl rfl ?_
  refine W.ef rfl rfl rfl ?_
  refine Ef.buildSliceN [_, _] Try.underlying135 el24 rfl (one2 _ _ _ _ _ _) rfl (by decide) (by decide) ?_
  intro g4_2 w4_2 hg4_2 b4_2 h4_2
  have L4_2 := L3_5.trans h4_2
  refine W.ef rfl rfl rfl ?_
  refine Ef.call go56 rfl rfl (rtag_ok _ nSeal w4_2 (ps := [key, overB key xs]) rfl (b4_2.sl (s := 1) (n := 2) rfl) (.cons ((b0_0.le (h3_4.trans (h3_5.trans h4_2))).sb hk) (.cons ((o5.le h4_2).sb.cast (by omega) rfl) (.nil _))) (by rw [tagLen2, hk, hol, hxl]; show 24 + 4 + 32 + n ≤ _; omega)) ?_
  rintro _ w4_3 ⟨rfl, h4_3⟩
  refine ⟨_, rfl, ?_⟩
  have L4_3 := L4_2.trans h4_3
  refine W.ef rfl rfl rfl ?_
  refine Ef.allocA z23 ?_
  intro g4_4 w4_4 hg4_4 b4_4 h4_4
  have L4_4 := L4_3.trans h4_4
  refine W.ef0 rfl rfl ?_
  refine Ef.storeAll sz23 (by simp [tag_length]) rfl rfl (b4_4) (by simp [tag_length]) (all_u8v _) ?_
  intro w4_5 b4_5 h4_5
  have L4_5 : Le w w4_5 := L4_4.then_ h4_5 (fun q hq => by cases hq; exact Nat.le_trans L4_3.size hg4_4)
  have ne5 : rowOf A5 c5 ≠ some g4_4 := fun he => by have := (o5.row he).2; have := h4_2.size; have := h4_3.size; omega
  have o5b := (o5.le (h4_2.trans (h4_3.trans h4_4))).ch h4_5 (fun q hq => by cases hq; exact ne5)
  refine W.nil ?_
  refine E.thenN ?_
  refine WC.seq ?_
  refine WC.region ?_
  refine W.any (.move rfl) rfl rfl rfl ?_
  refine W.any (.cutArrH 8 Try.underlying23 sz5 rfl rfl rfl (by decide)) rfl rfl rfl ?_
  refine W.ef rfl rfl rfl ?_
  refine Ef.append Try.underlying24 el5 rfl (o5b) rfl (((b4_5.sb (tag_length _ _)).cutH 8 (by decide)).src Try.underlying24 _) (by omega) (by unfold maxLen; omega) (Nat.le_trans h3_5.size (Nat.le_trans h4_2.size (Nat.le_trans h4_3.size (Nat.le_trans h4_4.size h4_5.size)))) ?_
  intro A5_2 c5_2 w5_2 o5_2 h5_2 at5_2
  have L5_2 : Le w w5_2 := L4_5.then_ h5_2 (fun q hq => Nat.le_trans L3_4.size (o5.row hq).1)
  refine W.any (.assign rfl) rfl rfl rfl ?_
  refine W.nil ?_
  refine E.thenN ?_
  refine WC.ret ?_
  refine E.ret1 rfl rfl ?_
  exact ⟨_, _, rfl, (o5_2.mono (Nat.le_trans L0_0.size h3_4.size)).cast rfl (by rw [sealB, List.map_append]; rfl), L5_2⟩

theorem rstream_ok8 (key : List Byte) (hk : key.length = 32) (n : Nat) (h8 : 8 ≤ n) (hn : n ≤ 65544) (w : World) : Calls Try.prog 74 #[.agg (key.map u8v).toArray, .int .i64 ((n : Int) - 8)] w fun e w' => ∃ A' c', e = .returned (.slice A' (n - 8) c') ∧ Own w' w.heap.size 5 1 A' (n - 8) c' ((stream key (n - 8)).map u8v) ∧ Le w w' := by
  have := rstream_ok key hk (n - 8) (by omega) w
  rwa [show ((n - 8 : Nat) : Int) = (n : Int) - 8 by omega] at this

theorem ropen_yes (key : List Byte) (hk : key.length = 32) {A : Option Addr} {n c : Nat} {xs : List Byte} (w : World) (hS : Sb w A n xs) (h8 : 8 ≤ n) (hn : n ≤ 65544) (hc : n ≤ c) (hf : fits key xs = true) : Calls Try.prog 53 #[.agg (key.map u8v).toArray, .slice A n c] w fun e w' => ∃ A' c', e = .returned (.tuple #[.slice A' (n - 8) c', .bool true]) ∧ Own w' w.heap.size 5 1 A' (n - 8) c' ((inner key xs).map u8v) ∧ Le w w' := by
  refine enter Try.func53 rfl rfl ?_
  have L0 := Le.refl w
  refine WC.seq ?_
  refine WC.region ?_
  refine W.ef rfl rfl rfl ?_
  refine Ef.boxA rfl ?_
  intro g0_0 w0_0 hg0_0 b0_0 h0_0
  have L0_0 := L0.trans h0_0
  refine W.any (.assign rfl) rfl rfl rfl ?_
  refine W.any (.assign rfl) rfl rfl rfl ?_
  refine W.nil ?_
  refine E.thenN ?_
  refine WC.seq ?_
  refine WC.region ?_
  refine W.any (.move rfl) rfl rfl rfl ?_
  refine W.rd (.len Try.underlying24 rfl) rfl rfl rfl ?_
  refine W.any (.sub rfl rfl (by omega)) rfl rfl rfl ?_
  refine W.any (.assign rfl) rfl rfl rfl ?_
  refine W.nil ?_
  refine E.thenN ?_
  refine WC.seq ?_
  refine WC.seq ?_
  refine WC.region ?_
  refine W.any (.move rfl) rfl rfl rfl ?_
  refine W.any (.dec (.lss rfl rfl) (decide_eq_false (by omega))) rfl rfl rfl ?_
  refine W.any (.move rfl) rfl rfl rfl ?_
  refine W.rdg (Any.rd (.move rfl) _) rfl rfl rfl (rfl) rfl rfl ?_
  refine W.rdg (Any.rd (.dec (.gtr rfl rfl) (decide_eq_false (by omega))) _) rfl rfl rfl (rfl) rfl rfl ?_
  refine W.any (.pickF rfl rfl rfl) rfl rfl rfl ?_
  refine W.nil ?_
  refine E.thenN ?_
  refine WC.condF rfl ?_
  refine WC.skip ?_
  refine E.thenN ?_
  refine WC.seq ?_
  refine WC.draw [0, 1, 2, 3, 4, 5, 6, 7] mixed (by kernel_rfl) ?_
  intro w4 d4
  have L4 := L0_0.trans d4
  refine G.any rfl rfl (.move rfl) rfl rfl rfl ?_
  refine G.any rfl rfl (.move rfl) rfl rfl rfl ?_
  refine G.any rfl rfl (.cutH (n - 8) Try.underlying24 sz5 rfl rfl (by omega) (by omega)) rfl rfl rfl ?_
  refine G.rd rfl rfl (.loadAll ag23 (by simp [hk]) rfl (b0_0.le d4)) rfl rfl rfl ?_
  refine G.any rfl rfl (.move rfl) rfl rfl rfl ?_
  refine G.ef rfl rfl rfl rfl rfl ?_
  refine Ef.call go74 rfl rfl (rstream_ok8 key hk n h8 hn w4) ?_
  rintro _ w4_5 ⟨A4, c4, rfl, o4, h4_5⟩
  refine ⟨_, rfl, ?_⟩
  have L4_5 := L4.trans h4_5
  refine ⟨fun _ => h4_5, ?_⟩
  refine G.ef rfl rfl rfl rfl rfl ?_
  refine Ef.call go100 rfl rfl (rover_ok w4_5 ((hS.le L4_5).cutH (n - 8) (by omega)) o4.sb (by omega)) ?_
  rintro _ w4_6 ⟨A6, c6, rfl, o6, h4_6⟩
  refine ⟨_, rfl, ?_⟩
  have L4_6 := L4_5.trans h4_6
  refine ⟨fun _ => h4_6, ?_⟩
  have hin : xorB (stream key (n - 8)) (xs.take (n - 8)) = inner key xs := by rw [inner, overB, hS.len, List.length_take, hS.len, show min (n - 8) n = n - 8 by omega]
  rw [hin] at o6
  refine G.any rfl rfl (.assign rfl) rfl rfl rfl ?_
  refine G.nil ?_
  refine E.thenN ?_
  refine WC.seq ?_
  refine WC.seq ?_
  refine WC.draw [0, 1, 4, 5, 2, 3, 6] mixed (by kernel_rfl) ?_
  intro w5 d5
  have L5 := L4_6.trans d5
  refine G.rd rfl rfl (.loadAll ag23 (by simp [hk]) rfl (b0_0.le (d4.trans (h4_5.trans (h4_6.trans d5))))) rfl rfl rfl ?_
  refine G.any rfl rfl (.move rfl) rfl rfl rfl ?_
  refine G.any rfl rfl (.move rfl) rfl rfl rfl ?_
  refine G.rd rfl rfl (.toStr Try.underlying24 Try.underlying5 Try.underlying9 rfl (hS.le L5)) rfl rfl rfl ?_
  refine G.ef rfl rfl rfl rfl rfl ?_
  refine Ef.call go47 rfl rfl (rseal_ok key hk w5 (o6.le d5).sb (by omega)) ?_
  rintro _ w5_2 ⟨A7, c7, rfl, o7, h5_2⟩
  refine ⟨_, rfl, ?_⟩
  have L5_2 := L5.trans h5_2
  refine ⟨fun _ => h5_2, ?_⟩
  refine G.rd rfl rfl (.toStr Try.underlying24 Try.underlying5 Try.underlying9 rfl o7.sb) rfl rfl rfl ?_
  refine G.any rfl rfl (.dec (.neqStr rfl rfl) (show _ = false from by rw [strOf_eq, seal_fits key xs (by rw [hS.len]; exact h8), hf] <;> rfl)) rfl rfl rfl ?_
  refine G.nil ?_
  refine E.thenN ?_
  refine WC.condF rfl ?_
  refine WC.skip ?_
  refine E.thenN ?_
  refine WC.seq ?_
  refine WC.region ?_
  refine W.any (.move rfl) rfl rfl rfl ?_
  refine W.any (.assign rfl) rfl rfl rfl ?_
  refine W.any (.assign rfl) rfl rfl rfl ?_
  refine W.nil ?_
  refine E.thenN ?_
  refine WC.ret ?_
  refine E.ret2 rfl rfl rfl ?_
  exact ⟨_, _, rfl, (o6.le (d5.trans h5_2)).mono (Nat.le_trans L4.size h4_5.size), L5_2⟩

theorem ropen_no (key : List Byte) (hk : key.length = 32) {A : Option Addr} {n c : Nat} {xs : List Byte} (w : World) (hS : Sb w A n xs) (h8 : 8 ≤ n) (hn : n ≤ 65544) (hc : n ≤ c) (hf : fits key xs = false) : Calls Try.prog 53 #[.agg (key.map u8v).toArray, .slice A n c] w fun e w' => e = .returned (.tuple #[.slice none 0 0, .bool false]) ∧ Le w w' := by
  refine enter Try.func53 rfl rfl ?_
  have L0 := Le.refl w
  refine WC.seq ?_
  refine WC.region ?_
  refine W.ef rfl rfl rfl ?_
  refine Ef.boxA rfl ?_
  intro g0_0 w0_0 hg0_0 b0_0 h0_0
  have L0_0 := L0.trans h0_0
  refine W.any (.assign rfl) rfl rfl rfl ?_
  refine W.any (.assign rfl) rfl rfl rfl ?_
  refine W.nil ?_
  refine E.thenN ?_
  refine WC.seq ?_
  refine WC.region ?_
  refine W.any (.move rfl) rfl rfl rfl ?_
  refine W.rd (.len Try.underlying24 rfl) rfl rfl rfl ?_
  refine W.any (.sub rfl rfl (by omega)) rfl rfl rfl ?_
  refine W.any (.assign rfl) rfl rfl rfl ?_
  refine W.nil ?_
  refine E.thenN ?_
  refine WC.seq ?_
  refine WC.seq ?_
  refine WC.region ?_
  refine W.any (.move rfl) rfl rfl rfl ?_
  refine W.any (.dec (.lss rfl rfl) (decide_eq_false (by omega))) rfl rfl rfl ?_
  refine W.any (.move rfl) rfl rfl rfl ?_
  refine W.rdg (Any.rd (.move rfl) _) rfl rfl rfl (rfl) rfl rfl ?_
  refine W.rdg (Any.rd (.dec (.gtr rfl rfl) (decide_eq_false (by omega))) _) rfl rfl rfl (rfl) rfl rfl ?_
  refine W.any (.pickF rfl rfl rfl) rfl rfl rfl ?_
  refine W.nil ?_
  refine E.thenN ?_
  refine WC.condF rfl ?_
  refine WC.skip ?_
  refine E.thenN ?_
  refine WC.seq ?_
  refine WC.draw [0, 1, 2, 3, 4, 5, 6, 7] mixed (by kernel_rfl) ?_
  intro w4 d4
  have L4 := L0_0.trans d4
  refine G.any rfl rfl (.move rfl) rfl rfl rfl ?_
  refine G.any rfl rfl (.move rfl) rfl rfl rfl ?_
  refine G.any rfl rfl (.cutH (n - 8) Try.underlying24 sz5 rfl rfl (by omega) (by omega)) rfl rfl rfl ?_
  refine G.rd rfl rfl (.loadAll ag23 (by simp [hk]) rfl (b0_0.le d4)) rfl rfl rfl ?_
  refine G.any rfl rfl (.move rfl) rfl rfl rfl ?_
  refine G.ef rfl rfl rfl rfl rfl ?_
  refine Ef.call go74 rfl rfl (rstream_ok8 key hk n h8 hn w4) ?_
  rintro _ w4_5 ⟨A4, c4, rfl, o4, h4_5⟩
  refine ⟨_, rfl, ?_⟩
  have L4_5 := L4.trans h4_5
  refine ⟨fun _ => h4_5, ?_⟩
  refine G.ef rfl rfl rfl rfl rfl ?_
  refine Ef.call go100 rfl rfl (rover_ok w4_5 ((hS.le L4_5).cutH (n - 8) (by omega)) o4.sb (by omega)) ?_
  rintro _ w4_6 ⟨A6, c6, rfl, o6, h4_6⟩
  refine ⟨_, rfl, ?_⟩
  have L4_6 := L4_5.trans h4_6
  refine ⟨fun _ => h4_6, ?_⟩
  have hin : xorB (stream key (n - 8)) (xs.take (n - 8)) = inner key xs := by rw [inner, overB, hS.len, List.length_take, hS.len, show min (n - 8) n = n - 8 by omega]
  rw [hin] at o6
  refine G.any rfl rfl (.assign rfl) rfl rfl rfl ?_
  refine G.nil ?_
  refine E.thenN ?_
  refine WC.seq ?_
  refine WC.seq ?_
  refine WC.draw [0, 1, 4, 5, 2, 3, 6] mixed (by kernel_rfl) ?_
  intro w5 d5
  have L5 := L4_6.trans d5
  refine G.rd rfl rfl (.loadAll ag23 (by simp [hk]) rfl (b0_0.le (d4.trans (h4_5.trans (h4_6.trans d5))))) rfl rfl rfl ?_
  refine G.any rfl rfl (.move rfl) rfl rfl rfl ?_
  refine G.any rfl rfl (.move rfl) rfl rfl rfl ?_
  refine G.rd rfl rfl (.toStr Try.underlying24 Try.underlying5 Try.underlying9 rfl (hS.le L5)) rfl rfl rfl ?_
  refine G.ef rfl rfl rfl rfl rfl ?_
  refine Ef.call go47 rfl rfl (rseal_ok key hk w5 (o6.le d5).sb (by omega)) ?_
  rintro _ w5_2 ⟨A7, c7, rfl, o7, h5_2⟩
  refine ⟨_, rfl, ?_⟩
  have L5_2 := L5.trans h5_2
  refine ⟨fun _ => h5_2, ?_⟩
  refine G.rd rfl rfl (.toStr Try.underlying24 Try.underlying5 Try.underlying9 rfl o7.sb) rfl rfl rfl ?_
  refine G.any rfl rfl (.dec (.neqStr rfl rfl) (show _ = true from by rw [strOf_eq, seal_fits key xs (by rw [hS.len]; exact h8), hf] <;> rfl)) rfl rfl rfl ?_
  refine G.nil ?_
  refine E.thenN ?_
  refine WC.condT rfl ?_
  refine WC.seq ?_
  refine WC.region ?_
  refine W.any (.assign rfl) rfl rfl rfl ?_
  refine W.any (.assign rfl) rfl rfl rfl ?_
  refine W.nil ?_
  refine E.thenN ?_
  refine WC.ret ?_
  refine E.thenR ?_
  refine E.ret2 rfl rfl rfl ?_
  exact ⟨rfl, L5_2⟩
end Go.Proofs.Ytpmjdiccekkadaa
