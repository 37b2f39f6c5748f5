/- The document's own Tag and PutHash, and what a hop seals by, walked. -/
import Derived.Test.YtpmjdiccekkadaaRef04
import Derived.Test.YtpmjdiccekkadaaFault
namespace Go.Proofs.Ytpmjdiccekkadaa
open Go Go.Sx Go.Hsp
set_option maxRecDepth 20000
theorem take_snoc (xs key : List Byte) (k : Nat) (h : k < key.length) : (xs ++ key.take k).map u8v ++ [u8v (key.getD k 0)] = (xs ++ key.take (k + 1)).map u8v := by
  have e : key.take (k + 1) = key.take k ++ [key.getD k 0] := by rw [List.take_add_one, List.getElem?_eq_getElem h, show key.getD k 0 = key[k] by simp [List.getD, h]]; rfl
  rw [e, ← List.append_assoc, List.map_append (l₁ := xs ++ key.take k)]; rfl

set_option maxHeartbeats 1000000 in
theorem rtag_ok {A : Option Addr} {n c : Nat} {vs : List Value} {ps : List (List Byte)} (name : ByteArray) (nm : List Byte) (w : World) (hnm : byteCells name = nm.map u8v) (hV : Sl w 1 A n vs) (hP : Parts w vs ps) (hT : (tagBytes nm ps).length ≤ 1099511627776) : Calls Try.prog 56 #[.string name, .slice A n c] w fun e w' => e = .returned (.agg ((tag nm ps).map u8v).toArray) ∧ Le w w' := by
  have hns : name.size = nm.length := by have := congrArg List.length hnm; simpa [byteCells_length] using this
  have hnl : nm.length = name.size := hns.symm
  have hvl := hV.1
  have hpl := hP.1
  have hpn := tagBytes_parts nm ps
  have hle := tagTo_le nm ps 0
  rw [tagTo_zero] at hle
  simp [be8_length] at hle
  refine enter Try.func56 rfl rfl ?_
  have L0 := Le.refl w
  refine WC.seq ?_
  refine WC.region ?_
  refine W.ef rfl rfl rfl ?_
  refine Ef.allocA z23 ?_
  intro g0_0 w0_0 hg0_0 b0_0 h0_0
  have L0_0 := L0.trans h0_0
  have b0 : Blk w0_0 g0_0 23 ((List.replicate 32 0#8).map u8v).toArray := b0_0
  have lt0 := b0.lt
  refine W.nil ?_
  refine E.thenN ?_
  refine WC.seq ?_
  refine WC.region ?_
  refine W.any (.move rfl) rfl rfl rfl ?_
  refine W.rd (.lenStr Try.underlying9 rfl) rfl rfl rfl ?_
  refine W.rd (.convEq (i' := (name.size : Int)) (isS Try.underlying3) Try.underlying47 rfl (by rw [wrap_u64]; omega)) rfl rfl rfl ?_
  refine W.ef rfl rfl rfl ?_
  refine Ef.call go102 rfl rfl (rlong_ok name.size w0_0 (by omega)) ?_
  rintro _ w1_3 ⟨A1, c1, rfl, o1, h1_3⟩
  refine ⟨_, rfl, ?_⟩
  have L1_3 := L0_0.trans h1_3
  refine W.any (.move rfl) rfl rfl rfl ?_
  refine W.ef rfl rfl rfl ?_
  refine Ef.strBytes Try.underlying9 Try.underlying24 Try.underlying5 rfl ?_
  intro A2 c2 w1_5 s2 _ h1_5
  have L1_5 := L1_3.trans h1_5
  refine W.ef rfl rfl rfl ?_
  refine Ef.append Try.underlying24 el5 rfl (o1.le h1_5) rfl (s2.src Try.underlying24 (by decide) _ (fun u hu => by rw [hnm] at hu; exact all_u8v _ u hu)) (by omega) (by unfold maxLen; omega) (Nat.le_trans h1_3.size h1_5.size) ?_
  intro A1_6 c1_6 w1_6 o1_6 h1_6 at1_6
  have L1_6 : Le w w1_6 := L1_5.then_ h1_6 (fun q hq => Nat.le_trans L0_0.size (o1.row hq).1)
  have o3 := o1_6.mono (Nat.le_refl _)
  have b0 := b0.le (h1_3.trans h1_5) |>.ch h1_6 (fun he => by have := (o1.row he).1; omega)
  refine W.any (.assign rfl) rfl rfl rfl ?_
  refine W.nil ?_
  refine E.thenN ?_
  refine WC.seq ?_
  refine WC.seq ?_
  refine WC.region ?_
  refine W.any (.assign rfl) rfl rfl rfl ?_
  refine W.nil ?_
  refine E.thenN ?_
  refine WC.block ?_
  refine WC.loop (ι := Nat × Option Addr × Nat) (fun ⟨k, A3, c3⟩ => [(1, .slice A n c), (4, .pointer (some ⟨g0_0, 0, none⟩)), (5, .slice A3 (tagTo nm ps k).length c3), (6, .int .i64 (k : Int))]) (fun ⟨k, A3, c3⟩ wl => k ≤ n ∧ Le w0_0 wl ∧ Own wl w0_0.heap.size 5 1 A3 (tagTo nm ps k).length c3 ((tagTo nm ps k).map u8v)) (fun ⟨k, A3, c3⟩ => n - k) (0, A1_6, c1_6) ?_ ?_ ?_
  · exact .cons rfl (.cons rfl (.cons' rfl (slice_eq (by rw [tagTo_zero]; simp [be8_length, hnl])) (.cons rfl (.nil _))))
  · exact ⟨Nat.zero_le _, (h1_3.trans h1_5).then_ h1_6 (fun q hq => (o1.row hq).1), o3.cast (by rw [tagTo_zero]; simp [be8_length, hnl]) (by rw [tagTo_zero, hnm, hnl]; simp)⟩
  · rintro ⟨k, A3, c3⟩ wl ⟨hk, Ll, ol⟩
    have hTk : (tagTo nm ps k).length ≤ 1099511627776 := Nat.le_trans (tagTo_le nm ps k) hT
    refine WC.seq ?_
    refine WC.seq ?_
    refine WC.region ?_
    refine W.any (.move rfl) rfl rfl rfl ?_
    refine W.any (.move rfl) rfl rfl rfl ?_
    refine W.rd (.len Try.underlying135 rfl) rfl rfl rfl ?_
    refine W.any (.lss rfl rfl) rfl rfl rfl ?_
    refine W.nil ?_
    refine E.thenN ?_
    refine WC.cond rfl (fun c0 => ?_) (fun c0 => ?_)
    · have hkn : k < n := by omega
      obtain ⟨q, hq⟩ : ∃ q, ps[k]? = some q := ⟨_, List.getElem?_eq_getElem (by omega)⟩
      obtain ⟨v, hv⟩ : ∃ v, vs[k]? = some v := ⟨_, List.getElem?_eq_getElem (by omega)⟩
      obtain ⟨Aq, cq, rfl, hq8⟩ := hP.2 k v q hv hq
      have hsucc := tagTo_succ nm ps k q hq
      have hTk1 : (tagTo nm ps (k + 1)).length ≤ 1099511627776 := Nat.le_trans (tagTo_le nm ps (k + 1)) hT
      have hsl : (tagTo nm ps (k + 1)).length = (tagTo nm ps k).length + 8 + q.length := by rw [hsucc]; simp [be8_length]; omega
      refine WC.skip ?_
      refine E.thenN ?_
      refine WC.seq ?_
      refine WC.block ?_
      refine WC.seq ?_
      refine WC.region ?_
      refine W.any (.move rfl) rfl rfl rfl ?_
      refine W.any (.move rfl) rfl rfl rfl ?_
      refine W.any (.idxS1 (k) Try.underlying135 sz24 rfl rfl (hV.isSome hkn (by decide)) (rfl) (by omega)) rfl rfl rfl ?_
      refine W.rd (.loadS na24 rfl (hV.le (L0_0.trans Ll)) (hv)) rfl rfl rfl ?_
      refine W.rd (.len Try.underlying24 rfl) rfl rfl rfl ?_
      refine W.rd (.convEq (i' := (q.length : Int)) (isS Try.underlying3) Try.underlying47 rfl (by rw [wrap_u64]; omega)) rfl rfl rfl ?_
      refine W.ef rfl rfl rfl ?_
      refine Ef.call go102 rfl rfl (rlong_ok q.length wl (by omega)) ?_
      rintro _ w5_6 ⟨A4, c4, rfl, o4, h5_6⟩
      refine ⟨_, rfl, ?_⟩
      have L5_6 := (L0_0.trans Ll).trans h5_6
      refine W.any (.assign rfl) rfl rfl rfl ?_
      refine W.nil ?_
      refine E.thenN ?_
      refine WC.seq ?_
      refine WC.region ?_
      refine W.any (.move rfl) rfl rfl rfl ?_
      refine W.any (.move rfl) rfl rfl rfl ?_
      refine W.ef rfl rfl rfl ?_
      refine Ef.append Try.underlying24 el5 rfl (ol.le h5_6) rfl (o4.sb.src Try.underlying24 _) (by omega) (by unfold maxLen; omega) (Nat.le_trans Ll.size h5_6.size) ?_
      intro A6_2 c6_2 w6_2 o6_2 h6_2 at6_2
      have L6_2 : Le w w6_2 := L5_6.then_ h6_2 (fun q hq => Nat.le_trans L0_0.size (ol.row hq).1)
      refine W.any (.assign rfl) rfl rfl rfl ?_
      refine W.nil ?_
      refine E.thenN ?_
      refine WC.region ?_
      refine W.any (.move rfl) rfl rfl rfl ?_
      refine W.any (.move rfl) rfl rfl rfl ?_
      refine W.any (.move rfl) rfl rfl rfl ?_
      refine W.any (.idxS1 (k) Try.underlying135 sz24 rfl rfl (hV.isSome hkn (by decide)) (rfl) (by omega)) rfl rfl rfl ?_
      refine W.rd (.loadS na24 rfl (hV.le L6_2) (hv)) rfl rfl rfl ?_
      refine W.ef rfl rfl rfl ?_
      refine Ef.append Try.underlying24 el5 rfl (o6_2) rfl ((hq8.le L6_2).src Try.underlying24 _) (by omega) (by unfold maxLen; omega) (Nat.le_trans (Nat.le_trans Ll.size h5_6.size) h6_2.size) ?_
      intro A7_5 c7_5 w7_5 o7_5 h7_5 at7_5
      have L7_5 : Le w w7_5 := L6_2.then_ h7_5 (fun q hq => Nat.le_trans L0_0.size (o6_2.row hq).1)
      refine W.any (.assign rfl) rfl rfl rfl ?_
      refine W.nil ?_
      refine E.blkN ?_
      refine E.thenN ?_
      refine WC.region ?_
      refine W.any (.move rfl) rfl rfl rfl ?_
      refine W.any (.add rfl rfl (by omega)) rfl rfl rfl ?_
      refine W.any (.assign rfl) rfl rfl rfl ?_
      refine W.nil ?_
      refine E.again (k + 1, A7_5, c7_5) (.cons rfl (.cons rfl (.cons' rfl (slice_eq (by rw [hsucc]; simp [be8_length]; omega)) (.cons rfl (.nil _))))) ?_ ?_
      · exact ⟨by omega, (Le.then_ (Le.then_ (Ll.trans h5_6) h6_2 (fun q hq => (ol.row hq).1)) h7_5 (fun q hq => (o6_2.row hq).1)), o7_5.cast (by rw [hsucc]; simp [be8_length]; omega) (by rw [hsucc]; simp)⟩
      · first | omega | (simp only []; omega)
    · have hkn : k = n := by omega
      refine WC.exit ?_
      refine E.thenX ?_
      refine E.thenX ?_
      refine E.blkH ?_
      refine E.thenN ?_
      refine WC.seq ?_
      refine WC.region ?_
      refine W.any (.move rfl) rfl rfl rfl ?_
      refine W.ef rfl rfl rfl ?_
      refine Ef.call go103 rfl rfl (rsum_ok wl ol.sb (by omega)) ?_
      rintro _ w8_1 ⟨rfl, h8_1⟩
      refine ⟨_, rfl, ?_⟩
      have L8_1 := (L0_0.trans Ll).trans h8_1
      refine W.ef0 rfl rfl ?_
      refine Ef.storeAll sz23 (by simp [sum_length]) rfl rfl (b0_0.le (Ll.trans h8_1)) (by simp [sum_length]) (all_u8v _) ?_
      intro w8_2 b8_2 h8_2
      have L8_2 : Le w w8_2 := L8_1.then_ h8_2 (fun q hq => by cases hq; exact hg0_0)
      refine W.nil ?_
      refine E.thenN ?_
      refine WC.ret ?_
      refine E.retC rfl rfl b8_2 ag23 (by simp [sum_length]) ?_
      exact ⟨by rw [tag, tagTo_all nm ps k (by omega)], L8_2⟩

theorem puthash_ok (key : List Byte) (hk : key.length = 32) {A : Option Addr} {n c : Nat} {xs : List Byte} (w : World) (hS : Sb w A n xs) (hn : n ≤ 35184372088832) : Calls Try.prog 57 #[.slice A n c, .agg (key.map u8v).toArray] w fun e w' => ∃ A' c', e = .returned (.slice A' (n + 32) c') ∧ Own w' w.heap.size 5 1 A' (n + 32) c' ((xs ++ key).map u8v) ∧ Le w w' := by
  refine enter Try.func57 rfl rfl ?_
  have L0 := Le.refl w
  refine WC.seq ?_
  refine WC.region ?_
  refine W.ef rfl rfl rfl ?_
  refine Ef.boxA rfl ?_
  intro g0_0 w0_0 hg0_0 b0_0 h0_0
  have L0_0 := L0.trans h0_0
  refine W.any (.assign rfl) rfl rfl rfl ?_
  refine W.nil ?_
  refine E.thenN ?_
  refine WC.seq ?_
  refine WC.region ?_
  refine W.ef rfl rfl rfl ?_
  refine Ef.buildSlice0 Try.underlying24 el5 ?_
  intro g1_0 w1_0 hg1_0 b1_0 h1_0
  have L1_0 := L0_0.trans h1_0
  refine W.any (.move rfl) rfl rfl rfl ?_
  refine W.ef rfl rfl rfl ?_
  refine Ef.append Try.underlying24 el5 rfl (Own.empty w1_0 w0_0.heap.size 5 1 _) rfl ((hS.le L1_0).src Try.underlying24 _) (by omega) (by unfold maxLen; omega) (h1_0.size) ?_
  intro A1_2 c1_2 w1_2 o1_2 h1_2 at1_2
  have L1_2 : Le w w1_2 := L1_0.then_ h1_2 (fun q hq => by rw [rowOf_zero] at hq; cases hq)
  have b0 := (b0_0.le h1_0).ch h1_2 (by rw [rowOf_zero]; simp)
  have lt0 := b0_0.lt
  refine W.any (.assign rfl) rfl rfl rfl ?_
  refine W.nil ?_
  refine E.thenN ?_
  refine WC.seq ?_
  refine WC.seq ?_
  refine WC.region ?_
  refine W.any (.assign rfl) rfl rfl rfl ?_
  refine W.nil ?_
  refine E.thenN ?_
  refine WC.block ?_
  refine WC.loop (ι := Nat × Option Addr × Nat) (fun ⟨k, A1, c1⟩ => [(3, .pointer (some ⟨g0_0, 0, none⟩)), (5, .slice A1 (n + k) c1), (6, .int .i64 (k : Int))]) (fun ⟨k, A1, c1⟩ wl => k ≤ 32 ∧ Le w0_0 wl ∧ Own wl w0_0.heap.size 5 1 A1 (n + k) c1 ((xs ++ key.take k).map u8v)) (fun ⟨k, A1, c1⟩ => 32 - k) (0, A1_2, c1_2) ?_ ?_ ?_
  · exact .cons rfl (.cons' rfl (slice_eq (by omega)) (.cons rfl (.nil _)))
  · exact ⟨by omega, h1_0.then_ h1_2 (fun q hq => by rw [rowOf_zero] at hq; cases hq), o1_2.cast (by omega) (by simp)⟩
  · rintro ⟨k, A1, c1⟩ wl ⟨hk2, Ll, ol⟩
    refine WC.seq ?_
    refine WC.seq ?_
    refine WC.region ?_
    refine W.any (.move rfl) rfl rfl rfl ?_
    refine W.any (.lss rfl rfl) rfl rfl rfl ?_
    refine W.nil ?_
    refine E.thenN ?_
    refine WC.cond rfl (fun c0 => ?_) (fun c0 => ?_)
    · refine WC.skip ?_
      refine E.thenN ?_
      refine WC.seq ?_
      refine WC.block ?_
      refine WC.region ?_
      refine W.any (.move rfl) rfl rfl rfl ?_
      refine W.any (.move rfl) rfl rfl rfl ?_
      refine W.any (.idxA1 (k) Try.underlying23 sz5 rfl rfl (rfl) (by omega)) rfl rfl rfl ?_
      refine W.rd (.loadB na5 rfl (b0_0.le Ll) (getbA _ (by omega))) rfl rfl rfl ?_
      refine W.ef rfl rfl rfl ?_
      refine Ef.buildSlice1 Try.underlying24 el5 rfl rfl ?_
      intro g5_4 w5_4 hg5_4 b5_4 h5_4
      have L5_4 := (L0_0.trans Ll).trans h5_4
      refine W.ef rfl rfl rfl ?_
      refine Ef.append Try.underlying24 el5 rfl (ol.le h5_4) rfl (b5_4.src1 Try.underlying24 rfl) (by omega) (by unfold maxLen; omega) (Nat.le_trans Ll.size h5_4.size) ?_
      intro A5_5 c5_5 w5_5 o5_5 h5_5 at5_5
      have L5_5 : Le w w5_5 := L5_4.then_ h5_5 (fun q hq => Nat.le_trans L0_0.size (ol.row hq).1)
      refine W.any (.assign rfl) rfl rfl rfl ?_
      refine W.nil ?_
      refine E.blkN ?_
      refine E.thenN ?_
      refine WC.region ?_
      refine W.any (.move rfl) rfl rfl rfl ?_
      refine W.any (.add rfl rfl (by omega)) rfl rfl rfl ?_
      refine W.any (.assign rfl) rfl rfl rfl ?_
      refine W.nil ?_
      refine E.again (k + 1, A5_5, c5_5) (.cons rfl (.cons rfl (.cons rfl (.nil _)))) ?_ ?_
      · exact ⟨by omega, (Ll.trans h5_4).then_ h5_5 (fun q hq => (ol.row hq).1), o5_5.cast rfl (take_snoc xs key k (by omega))⟩
      · first | omega | (simp only []; omega)
    · have hk32 : k = 32 := by omega
      subst hk32
      refine WC.exit ?_
      refine E.thenX ?_
      refine E.thenX ?_
      refine E.blkH ?_
      refine E.thenN ?_
      refine WC.seq ?_
      refine WC.region ?_
      refine W.any (.move rfl) rfl rfl rfl ?_
      refine W.any (.assign rfl) rfl rfl rfl ?_
      refine W.nil ?_
      refine E.thenN ?_
      refine WC.ret ?_
      refine E.ret1 rfl rfl ?_
      exact ⟨_, _, rfl, (ol.mono L0_0.size).cast rfl (by rw [List.take_of_length_le (by omega)]), (L0_0.trans Ll)⟩

theorem rby_ok (key : List Byte) (hk : key.length = 32) (w : World) : Calls Try.prog 25 #[.agg (key.map u8v).toArray] w fun e w' => e = .returned (.agg ((byB key).map u8v).toArray) ∧ Le w w' := by
  refine enter Try.func25 rfl rfl ?_
  have L0 := Le.refl w
  refine WC.seq ?_
  refine WC.region ?_
  refine W.ef rfl rfl rfl ?_
  refine Ef.boxA rfl ?_
  intro g0_0 w0_0 hg0_0 b0_0 h0_0
  have L0_0 := L0.trans h0_0
  refine W.ef rfl rfl rfl ?_
  refine Ef.allocA z23 ?_
  intro g0_1 w0_1 hg0_1 b0_1 h0_1
  have L0_1 := L0_0.trans h0_1
  refine W.nil ?_
  refine E.thenN ?_
  refine WC.seq ?_
  refine WC.region ?_
  refine W.ef rfl rfl rfl ?_
  refine Ef.buildSlice0 Try.underlying24 el5 ?_
  intro g1_0 w1_0 hg1_0 b1_0 h1_0
  have L1_0 := L0_1.trans h1_0
  refine W.rd (.loadAll ag23 (by simp [hk]) rfl (b0_0.le (h0_1.trans h1_0))) rfl rfl rfl ?_
  refine W.ef rfl rfl rfl ?_
  refine Ef.call go57 rfl rfl (puthash_ok key hk (xs := []) w1_0 (Sl.nil _ _ _) (by decide)) ?_
  rintro _ w1_2 ⟨A2, c2, rfl, o2, h1_2⟩
  refine ⟨_, rfl, ?_⟩
  have L1_2 := L1_0.trans h1_2
  have s2 : Sb w1_2 A2 key.length key := o2.sb.cast (by rw [hk]) (by simp)
  refine W.ef rfl rfl rfl ?_
  refine Ef.buildSlice1 Try.underlying135 el24 rfl rfl ?_
  intro g1_3 w1_3 hg1_3 b1_3 h1_3
  have L1_3 := L1_2.trans h1_3
  refine W.ef rfl rfl rfl ?_
  refine Ef.call go56 rfl rfl (rtag_ok _ nFault w1_3 (ps := [key]) rfl (b1_3.sl (s := 1) (n := 1) rfl) (.cons (s2.le h1_3 |>.cast hk rfl) (.nil _)) (by rw [tagLen1, hk]; decide)) ?_
  rintro _ w1_4 ⟨rfl, h1_4⟩
  refine ⟨_, rfl, ?_⟩
  have L1_4 := L1_3.trans h1_4
  refine W.ef0 rfl rfl ?_
  refine Ef.storeAll sz23 (by simp [tag_length]) rfl rfl ((b0_1.le (h1_0.trans (h1_2.trans h1_3))).le h1_4) (by simp [tag_length]) (all_u8v _) ?_
  intro w1_5 b1_5 h1_5
  have L1_5 : Le w w1_5 := L1_4.then_ h1_5 (fun q hq => by cases hq; exact Nat.le_trans L0_0.size hg0_1)
  refine W.nil ?_
  refine E.thenN ?_
  refine WC.ret ?_
  refine E.retC rfl rfl b1_5 ag23 (by simp [tag_length]) ?_
  exact ⟨rfl, L1_5⟩
end Go.Proofs.Ytpmjdiccekkadaa
