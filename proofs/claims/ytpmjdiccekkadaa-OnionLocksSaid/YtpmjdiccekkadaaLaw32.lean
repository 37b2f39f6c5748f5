/- The statements' own helpers of layer 32, walked: Same, back, small. -/
import Derived.Test.YtpmjdiccekkadaaFault2
import Derived.Test.YtpmjdiccekkadaaFlaw
namespace Go.Proofs.Ytpmjdiccekkadaa
open Go Go.Sx Go.Hsp
set_option maxRecDepth 20000
theorem same_ok {A C : Option Addr} {n m c d : Nat} {xs ys : List Byte} (w : World) (hx : Sb w A n xs) (hy : Sb w C m ys) (hn : n ≤ 1000000000) : Calls Try.prog 22 #[.slice A n c, .slice C m d] w fun e w' => e = .returned (.bool (decide (xs = ys))) ∧ Le w w' := by
  have hxl := hx.len
  have hyl := hy.len
  refine enter Try.func22 rfl rfl ?_
  have L0 := Le.refl w
  refine WC.seq ?_
  refine WC.region ?_
  refine W.any (.assign rfl) rfl rfl rfl ?_
  refine W.nil ?_
  refine E.thenN ?_
  refine WC.seq ?_
  refine WC.seq ?_
  refine WC.region ?_
  refine W.any (.move rfl) rfl rfl rfl ?_
  refine W.rd (.len Try.underlying24 rfl) rfl rfl rfl ?_
  refine W.any (.move rfl) rfl rfl rfl ?_
  refine W.rd (.len Try.underlying24 rfl) rfl rfl rfl ?_
  by_cases hnm : n = m
  · refine W.any (.dec (.neq rfl rfl) (decide_eq_false (by omega))) rfl rfl rfl ?_
    refine W.nil ?_
    refine E.thenN ?_
    refine WC.condF rfl ?_
    refine WC.skip ?_
    refine E.thenN ?_
    refine WC.seq ?_
    refine WC.seq ?_
    refine WC.region ?_
    refine W.any (.assign rfl) rfl rfl rfl ?_
    refine W.nil ?_
    refine E.thenN ?_
    refine WC.block ?_
    refine WC.loop (ι := Nat) (fun k => [(0, .slice A n c), (1, .slice C m d), (5, .int .i64 (k : Int))]) (fun k wl => k ≤ n ∧ Le w wl ∧ xs.take k = ys.take k) (fun k => n - k) 0 ?_ ?_ ?_
    · exact .cons rfl (.cons rfl (.cons rfl (.nil _)))
    · exact ⟨Nat.zero_le _, L0, by simp⟩
    · rintro k wl ⟨hk, Ll, hz⟩
      refine WC.seq ?_
      refine WC.seq ?_
      refine WC.region ?_
      refine W.any (.move rfl) rfl rfl rfl ?_
      refine W.any (.move rfl) rfl rfl rfl ?_
      refine W.rd (.len Try.underlying24 rfl) rfl rfl rfl ?_
      refine W.any (.lss rfl rfl) rfl rfl rfl ?_
      refine W.nil ?_
      refine E.thenN ?_
      refine WC.cond rfl (fun c1 => ?_) (fun c1 => ?_)
      · have hxk : xs[k]? = some (xs.getD k 0) := by rw [List.getD_eq_getElem?_getD, List.getElem?_eq_getElem (by omega)]; rfl
        have hyk : ys[k]? = some (ys.getD k 0) := by rw [List.getD_eq_getElem?_getD, List.getElem?_eq_getElem (by omega)]; rfl
        refine WC.skip ?_
        refine E.thenN ?_
        refine WC.seq ?_
        refine WC.block ?_
        refine WC.seq ?_
        refine WC.draw [0, 1, 2, 3, 4, 5, 6, 7, 8] mixed (by kernel_rfl) ?_
        intro w6 d6
        have L6 := Ll.trans d6
        refine G.any rfl rfl (.move rfl) rfl rfl rfl ?_
        refine G.any rfl rfl (.move rfl) rfl rfl rfl ?_
        refine G.any rfl rfl (.idxS1 (k) Try.underlying24 sz5 rfl rfl (hx.isSome (by omega)) (rfl) (by omega)) rfl rfl rfl ?_
        refine G.rd rfl rfl (.loadS na5 rfl (hx.le L6) (getb xs (by omega))) rfl rfl rfl ?_
        refine G.any rfl rfl (.move rfl) rfl rfl rfl ?_
        refine G.any rfl rfl (.move rfl) rfl rfl rfl ?_
        refine G.any rfl rfl (.idxS1 (k) Try.underlying24 sz5 rfl rfl (hy.isSome (by omega)) (rfl) (by omega)) rfl rfl rfl ?_
        refine G.rd rfl rfl (.loadS na5 rfl (hy.le L6) (getb ys (by omega))) rfl rfl rfl ?_
        refine G.any rfl rfl (.neq8 rfl rfl) rfl rfl rfl ?_
        refine G.nil ?_
        refine E.thenN ?_
        refine WC.cond rfl (fun c2 => ?_) (fun c2 => ?_)
        · refine WC.seq ?_
          refine WC.region ?_
          refine W.any (.assign rfl) rfl rfl rfl ?_
          refine W.nil ?_
          refine E.thenN ?_
          refine WC.ret ?_
          refine E.blkR ?_
          refine E.thenR ?_
          refine E.thenR ?_
          refine E.blkR ?_
          refine E.thenR ?_
          refine E.ret1 rfl rfl ?_
          exact ⟨by rw [decide_eq_false (fun e => c2 (by rw [e]))], L6⟩
        · refine WC.skip ?_
          refine E.blkN ?_
          refine E.thenN ?_
          refine WC.region ?_
          refine W.any (.move rfl) rfl rfl rfl ?_
          refine W.any (.add rfl rfl (by omega)) rfl rfl rfl ?_
          refine W.any (.assign rfl) rfl rfl rfl ?_
          refine W.nil ?_
          refine E.again (k + 1) (.cons rfl (.cons rfl (.cons rfl (.nil _)))) ?_ ?_
          · exact ⟨by omega, L6, by rw [List.take_add_one, List.take_add_one, hz, hxk, hyk, show xs.getD k 0 = ys.getD k 0 from Decidable.of_not_not c2]⟩
          · first | omega | (simp only []; omega)
      · have hkn : k = n := by omega
        refine WC.exit ?_
        refine E.thenX ?_
        refine E.thenX ?_
        refine E.blkH ?_
        refine E.thenN ?_
        refine WC.seq ?_
        refine WC.region ?_
        refine W.any (.assign rfl) rfl rfl rfl ?_
        refine W.nil ?_
        refine E.thenN ?_
        refine WC.ret ?_
        refine E.ret1 rfl rfl ?_
        exact ⟨by rw [List.take_of_length_le (by omega), List.take_of_length_le (by omega)] at hz; rw [decide_eq_true hz], Ll⟩
  · refine W.any (.dec (.neq rfl rfl) (decide_eq_true (by omega))) rfl rfl rfl ?_
    refine W.nil ?_
    refine E.thenN ?_
    refine WC.condT rfl ?_
    refine WC.seq ?_
    refine WC.region ?_
    refine W.any (.assign rfl) rfl rfl rfl ?_
    refine W.nil ?_
    refine E.thenN ?_
    refine WC.ret ?_
    refine E.thenR ?_
    refine E.ret1 rfl rfl ?_
    exact ⟨by rw [decide_eq_false (fun e => hnm (by rw [← hxl, e, hyl]))], L0⟩

theorem back_ok {A Ap : Option Addr} {nk ck n c h : Nat} {keys : List (List Byte)} {p : List Byte} (w : World) (hK : Ks w 32 A nk keys) (hS : Sb w Ap n p) (hn : n ≤ 1000000) (hc : n ≤ c) (hh : h ≤ nk) (h9 : h ≤ 1000) : Calls Try.prog 23 #[.slice A nk ck, .int .i64 ((h : Int) - 1), .slice Ap n c] w fun e w' => ∃ A' k c', e = .returned (.tuple #[.slice A' k c', .bool (backB keys h p).2]) ∧ Sb w' A' k (backB keys h p).1 ∧ k ≤ c' ∧ Le w w' := by
  refine enter Try.func23 rfl rfl ?_
  have L0 := Le.refl w
  refine WC.seq ?_
  refine WC.region ?_
  refine W.any (.assign rfl) rfl rfl rfl ?_
  refine W.any (.assign rfl) rfl rfl rfl ?_
  refine W.nil ?_
  refine E.thenN ?_
  refine WC.seq ?_
  refine WC.seq ?_
  refine WC.region ?_
  refine W.any (.move rfl) rfl rfl rfl ?_
  refine W.any (.assign rfl) rfl rfl rfl ?_
  refine W.nil ?_
  refine E.thenN ?_
  refine WC.block ?_
  refine WC.loop (ι := Nat × Option Addr × Nat × Nat × List Byte) (fun ⟨i, Al, nl, cl, q⟩ => [(0, .slice A nk ck), (2, .slice Al nl cl), (8, .int .i64 ((i : Int) - 1))]) (fun ⟨i, Al, nl, cl, q⟩ wl => i ≤ h ∧ Le w wl ∧ Sb wl Al nl q ∧ nl ≤ cl ∧ nl + 8 * i ≤ n + 8 * h ∧ backB keys i q = backB keys h p) (fun ⟨i, Al, nl, cl, q⟩ => i) (h, Ap, n, c, p) ?_ ?_ ?_
  · exact .cons rfl (.cons rfl (.cons rfl (.nil _)))
  · exact ⟨Nat.le_refl _, L0, hS.le L0, hc, Nat.le_refl _, rfl⟩
  · rintro ⟨i, Al, nl, cl, q⟩ wl ⟨hi, Ll, hb, hcl, hnl, hu⟩
    refine WC.seq ?_
    refine WC.seq ?_
    refine WC.region ?_
    refine W.any (.move rfl) rfl rfl rfl ?_
    refine W.any (.geq rfl rfl) rfl rfl rfl ?_
    refine W.nil ?_
    refine E.thenN ?_
    refine WC.cond rfl (fun c0 => ?_) (fun c0 => ?_)
    · have hi1 : i = (i - 1) + 1 := by omega
      obtain ⟨kk, hkk⟩ : ∃ kk, keys[i - 1]? = some kk := ⟨_, List.getElem?_eq_getElem (by have := hK.1; omega)⟩
      have hkl : kk.length = 32 := hK.2.1 kk (List.mem_of_getElem? hkk)
      have hk' : keys.getD (i - 1) [] = kk := by rw [List.getD_eq_getElem?_getD, hkk]; rfl
      refine WC.skip ?_
      refine E.thenN ?_
      refine WC.seq ?_
      refine WC.block ?_
      refine WC.seq ?_
      refine WC.region ?_
      refine W.any (.move rfl) rfl rfl rfl ?_
      refine W.any (.move rfl) rfl rfl rfl ?_
      refine W.any (.idxS (i - 1) Try.underlying25 sz23 rfl rfl (hK.2.2.isSome (j := i - 1) (by omega) (by decide)) (by omega) (by omega)) rfl rfl rfl ?_
      refine W.rd (.loadK ag23 rfl (hK.le Ll) hkk (by decide)) rfl rfl rfl ?_
      refine W.any (.move rfl) rfl rfl rfl ?_
      refine W.ef rfl rfl rfl ?_
      refine Ef.call go18 rfl rfl (add_ok kk q hkl wl hb (by omega)) ?_
      rintro _ w4_5 ⟨A1, n1, c1, rfl, sb1, hc1, h4_5⟩
      refine ⟨_, rfl, ?_⟩
      have L4_5 := Ll.trans h4_5
      have hql := hb.len
      have hn1 := sb1.len
      refine W.any (.move rfl) rfl rfl rfl ?_
      refine W.any (.extract rfl rfl) rfl rfl rfl ?_
      refine W.any (.extract rfl rfl) rfl rfl rfl ?_
      refine W.any (.assign rfl) rfl rfl rfl ?_
      refine W.any (.assign rfl) rfl rfl rfl ?_
      refine W.nil ?_
      refine E.thenN ?_
      refine WC.seq ?_
      refine WC.seq ?_
      refine WC.region ?_
      refine W.any (.move rfl) rfl rfl rfl ?_
      by_cases hz : (addB kk q).2 = 0
      · refine W.any (.dec (.neq rfl rfl) (decide_eq_false (fun h => h hz))) rfl rfl rfl ?_
        refine W.any (.move rfl) rfl rfl rfl ?_
        have hlen := addB_len kk q hz
        refine W.rdg (Any.rd (.move rfl) _) rfl rfl rfl (rfl) rfl rfl ?_
        refine W.rdg (.len Try.underlying24 rfl) rfl rfl rfl (rfl) rfl rfl ?_
        refine W.rdg (Any.rd (.move rfl) _) rfl rfl rfl (rfl) rfl rfl ?_
        refine W.rdg (.len Try.underlying24 rfl) rfl rfl rfl (rfl) rfl rfl ?_
        refine W.rdg (Any.rd (.add rfl rfl (by omega)) _) rfl rfl rfl (rfl) rfl rfl ?_
        refine W.rdg (Any.rd (.dec (.neq rfl rfl) (decide_eq_false (by omega))) _) rfl rfl rfl (rfl) rfl rfl ?_
        refine W.any (.pickF rfl rfl rfl) rfl rfl rfl ?_
        refine W.nil ?_
        refine E.thenN ?_
        refine WC.condF rfl ?_
        refine WC.skip ?_
        refine E.thenN ?_
        refine WC.region ?_
        refine W.any (.move rfl) rfl rfl rfl ?_
        refine W.any (.assign rfl) rfl rfl rfl ?_
        refine W.nil ?_
        refine E.blkN ?_
        refine E.thenN ?_
        refine WC.region ?_
        refine W.any (.move rfl) rfl rfl rfl ?_
        refine W.any (.sub rfl rfl (by omega)) rfl rfl rfl ?_
        refine W.any (.assign rfl) rfl rfl rfl ?_
        refine W.nil ?_
        refine E.again (i - 1, A1, n1, c1, (addB kk q).1) (.cons rfl (.cons rfl (.cons' rfl (int_eq (by omega)) (.nil _)))) ?_ ?_
        · exact ⟨by omega, L4_5, sb1, hc1, by omega, by rw [← hu, hi1, backB, hk', if_pos hz]; rfl⟩
        · first | omega | (simp only []; omega)
      · refine W.any (.dec (.neq rfl rfl) (decide_eq_true hz)) rfl rfl rfl ?_
        refine W.any (.move rfl) rfl rfl rfl ?_
        refine W.skip rfl rfl rfl (rfl) rfl rfl ?_
        refine W.skip rfl rfl rfl (rfl) rfl rfl ?_
        refine W.skip rfl rfl rfl (rfl) rfl rfl ?_
        refine W.skip rfl rfl rfl (rfl) rfl rfl ?_
        refine W.skip rfl rfl rfl (rfl) rfl rfl ?_
        refine W.skip rfl rfl rfl (rfl) rfl rfl ?_
        refine W.any (.pickT rfl rfl rfl) rfl rfl rfl ?_
        refine W.nil ?_
        refine E.thenN ?_
        refine WC.condT rfl ?_
        refine WC.seq ?_
        refine WC.region ?_
        refine W.any (.assign rfl) rfl rfl rfl ?_
        refine W.any (.assign rfl) rfl rfl rfl ?_
        refine W.nil ?_
        refine E.thenN ?_
        refine WC.ret ?_
        refine E.thenR ?_
        refine E.blkR ?_
        refine E.thenR ?_
        refine E.thenR ?_
        refine E.blkR ?_
        refine E.thenR ?_
        refine E.ret2 rfl rfl rfl ?_
        exact ⟨none, 0, 0, by rw [← hu, hi1, backB, hk', if_neg hz], by rw [← hu, hi1, backB, hk', if_neg hz]; exact Sl.nil _ _ _, Nat.le_refl _, L4_5⟩
    · have hi0 : i = 0 := by omega
      subst hi0
      rw [backB] at hu
      refine WC.exit ?_
      refine E.thenX ?_
      refine E.thenX ?_
      refine E.blkH ?_
      refine E.thenN ?_
      refine WC.seq ?_
      refine WC.region ?_
      refine W.any (.move rfl) rfl rfl rfl ?_
      refine W.any (.assign rfl) rfl rfl rfl ?_
      refine W.any (.assign rfl) rfl rfl rfl ?_
      refine W.nil ?_
      refine E.thenN ?_
      refine WC.ret ?_
      refine E.ret2 rfl rfl rfl ?_
      exact ⟨Al, nl, cl, by rw [← hu], by rw [← hu]; exact hb, hcl, Ll⟩

theorem made8 (n : Nat) : madeCells (Value.int .u8 0).cells (n * 1) = ((List.replicate n 0#8).map u8v).toArray := by
  apply Array.ext'
  rw [show (Value.int .u8 0).cells = #[Value.int .u8 0] from rfl, toList_madeCells_one, Nat.mul_one, List.map_replicate]
  rfl
def kS (i : Byte) : List Byte := i :: List.replicate 31 0
def keysS : List (List Byte) := [kS 1, kS 2, kS 3, kS 4]
def fullS : List Byte := [102, 117, 108, 108]
theorem full_eq {a : Nat × List Byte × Int} (h : a = (2, fullS, 0)) : ((strOf a.2.1).toList == ByteArray.toList ⟨#[102, 117, 108, 108]⟩) = true := by
  rw [h, show strOf (2, fullS, (0 : Int)).2.1 = ⟨#[102, 117, 108, 108]⟩ from rfl]; exact beq_self_eq_true _
theorem kS_len (i : Byte) : (kS i).length = 32 := rfl
theorem keysS_len : ∀ q ∈ keysS, q.length = 32 := by
  intro q hq; simp [keysS] at hq; rcases hq with rfl | rfl | rfl | rfl <;> rfl
theorem size4 : ∀ v ∈ [Value.agg ((kS 1).map u8v).toArray, .agg ((kS 2).map u8v).toArray, .agg ((kS 3).map u8v).toArray, .agg ((kS 4).map u8v).toArray], v.cells.size = 32 := by
  intro v hv; simp at hv; rcases hv with rfl | rfl | rfl | rfl <;> rfl
theorem one4 (a b c d : Byte) : ∀ v ∈ [u8v a, u8v b, u8v c, u8v d], v.oneCell' = true := by
  intro v hv; simp at hv; rcases hv with rfl | rfl | rfl | rfl <;> rfl
theorem small_facts : (makeB (kS 3) fullS).2 = 0 ∧ (addB (kS 2) (makeB (kS 3) fullS).1).2 = 0 ∧ (addB (kS 1) (addB (kS 2) (makeB (kS 3) fullS).1).1).2 = 0 ∧ (addB (kS 1) (addB (kS 2) (makeB (kS 3) fullS).1).1).1.length = 80 ∧ readB keysS (addB (kS 1) (addB (kS 2) (makeB (kS 3) fullS).1).1).1 = (2, fullS, 0) ∧ readB [kS 1, kS 2] (addB (kS 1) (addB (kS 2) (makeB (kS 3) fullS).1).1).1 = (0, [], 2) ∧ (makeB (kS 1) (List.replicate 56 0)).2 = 1 := by
  have e1 : makeB (kS 3) fullS = (sealB (byB (kS 3)) (rowB fullS), 0) := by rw [makeB, if_pos (by decide)]
  have l1 : (sealB (byB (kS 3)) (rowB fullS)).length = 64 := by rw [sealB_length, rowB_length _ (by decide)]
  have e2 : addB (kS 2) (sealB (byB (kS 3)) (rowB fullS)) = (sealB (byB (kS 2)) (sealB (byB (kS 3)) (rowB fullS)), 0) := addB_of _ _ 0 l1 (by decide)
  have l2 : (sealB (byB (kS 2)) (sealB (byB (kS 3)) (rowB fullS))).length = 72 := by rw [sealB_length, l1]
  have e3 : addB (kS 1) (sealB (byB (kS 2)) (sealB (byB (kS 3)) (rowB fullS))) = (sealB (byB (kS 1)) (sealB (byB (kS 2)) (sealB (byB (kS 3)) (rowB fullS))), 0) := addB_of _ _ 1 l2 (by decide)
  have l3 : (sealB (byB (kS 1)) (sealB (byB (kS 2)) (sealB (byB (kS 3)) (rowB fullS)))).length = 80 := by rw [sealB_length, l2]
  have E1 : (makeB (kS 3) fullS).1 = sealB (byB (kS 3)) (rowB fullS) := by rw [e1]
  have E2 : addB (kS 2) (makeB (kS 3) fullS).1 = (sealB (byB (kS 2)) (sealB (byB (kS 3)) (rowB fullS)), 0) := by rw [E1]; exact e2
  have E3 : addB (kS 1) (addB (kS 2) (makeB (kS 3) fullS).1).1 = (sealB (byB (kS 1)) (sealB (byB (kS 2)) (sealB (byB (kS 3)) (rowB fullS))), 0) := by rw [E2]; exact e3
  refine ⟨by rw [e1], by rw [E2], by rw [E3], by rw [E3]; exact l3, ?_, ?_, ?_⟩
  · rw [E3]; exact read_back keysS 2 fullS (by decide) (by decide) (by decide)
  · rw [E3]
    show readB [kS 1, kS 2] (sealB (byB (kS 1)) (sealB (byB (kS 2)) (sealB (byB (kS 3)) (rowB fullS)))) = _
    rw [readB, l3, stepB_of 80 2 rfl (by decide), if_pos (.inr (by decide))]
  · rw [makeB, if_neg (by simp)]

set_option maxHeartbeats 1000000 in
theorem small_ok (w : World) : Calls Try.prog 15 #[] w fun e w' => e = .returned (.bool true) ∧ Le w w' := by
  obtain ⟨f1, f2, f3, f4, f5, f6, f7⟩ := small_facts
  have e1 : (makeB (kS 3) fullS).1.length = 64 := by rw [makeB, if_pos (by decide), sealB_length, rowB_length _ (by decide)]
  have e2 : (addB (kS 2) (makeB (kS 3) fullS).1).1.length = 72 := by rw [addB_len _ _ f2, e1]
  refine enter Try.func15 rfl rfl ?_
  have L0 := Le.refl w
  refine WC.seq ?_
  refine WC.region ?_
  refine W.any (.assign rfl) rfl rfl rfl ?_
  refine W.nil ?_
  refine E.thenN ?_
  refine WC.seq ?_
  refine WC.region ?_
  refine W.any (.buildA (cells := ((kS 1).map u8v).toArray) Try.underlying23 sz5 z23 rfl (by kernel_rfl)) rfl rfl rfl ?_
  refine W.any (.buildA (cells := ((kS 2).map u8v).toArray) Try.underlying23 sz5 z23 rfl (by kernel_rfl)) rfl rfl rfl ?_
  refine W.any (.buildA (cells := ((kS 3).map u8v).toArray) Try.underlying23 sz5 z23 rfl (by kernel_rfl)) rfl rfl rfl ?_
  refine W.any (.buildA (cells := ((kS 4).map u8v).toArray) Try.underlying23 sz5 z23 rfl (by kernel_rfl)) rfl rfl rfl ?_
  refine W.ef rfl rfl rfl ?_
  refine Ef.buildSliceV [_, _, _, _] Try.underlying25 el23 rfl size4 rfl (by decide) (by decide) ?_
  intro g1_4 w1_4 hg1_4 b1_4 h1_4
  have L1_4 := L0.trans h1_4
  have hK : Ks w1_4 32 (some ⟨g1_4, 0, none⟩) 4 keysS := ⟨rfl, keysS_len, b1_4.sl (s := 32) (n := 4) rfl⟩
  refine W.any (.assign rfl) rfl rfl rfl ?_
  refine W.nil ?_
  refine E.thenN ?_
  refine WC.seq ?_
  refine WC.region ?_
  refine W.any (.move rfl) rfl rfl rfl ?_
  refine W.any (.idxS (2) Try.underlying25 sz23 rfl rfl (rfl) (rfl) (by decide)) rfl rfl rfl ?_
  refine W.rd (.loadK ag23 rfl hK (q := kS 3) rfl (by decide)) rfl rfl rfl ?_
  refine W.ef rfl rfl rfl ?_
  refine Ef.buildSliceN [u8v 102, u8v 117, u8v 108, u8v 108] Try.underlying24 el5 rfl (one4 _ _ _ _) rfl (by decide) (by decide) ?_
  intro g2_3 w2_3 hg2_3 b2_3 h2_3
  have L2_3 := L1_4.trans h2_3
  refine W.ef rfl rfl rfl ?_
  refine Ef.constBytes Try.underlying24 Try.underlying5 rfl (xs := fullS) b2_3 rfl ?_
  intro w2_4 sF h2_4
  have L2_4 : Le w w2_4 := L2_3.then_ h2_4 (fun q hq => by cases hq; exact Nat.le_trans L1_4.size hg2_3)
  have hK : Ks w2_4 32 (some ⟨g1_4, 0, none⟩) 4 keysS := ⟨rfl, keysS_len, (hK.le h2_3).2.2.ch h2_4 (fun q hq => by cases hq; simp [blkOf]; have := b1_4.lt; omega)⟩
  refine W.ef rfl rfl rfl ?_
  refine Ef.call go16 rfl rfl (make_ok (kS 3) fullS rfl w2_4 sF) ?_
  rintro _ w2_5 ⟨A2_5, n2_5, c2_5, rfl, s2_5, k2_5, h2_5⟩
  refine ⟨_, rfl, ?_⟩
  have L2_5 := L2_4.trans h2_5
  refine W.any (.move rfl) rfl rfl rfl ?_
  refine W.any (.extract rfl rfl) rfl rfl rfl ?_
  refine W.any (.extract rfl rfl) rfl rfl rfl ?_
  refine W.any (.assign rfl) rfl rfl rfl ?_
  refine W.any (.assign rfl) rfl rfl rfl ?_
  refine W.nil ?_
  refine E.thenN ?_
  refine WC.seq ?_
  refine WC.region ?_
  refine W.any (.move rfl) rfl rfl rfl ?_
  refine W.any (.idxS (1) Try.underlying25 sz23 rfl rfl (rfl) (rfl) (by decide)) rfl rfl rfl ?_
  refine W.rd (.loadK ag23 rfl (hK.le h2_5) (q := kS 2) rfl (by decide)) rfl rfl rfl ?_
  refine W.any (.move rfl) rfl rfl rfl ?_
  refine W.ef rfl rfl rfl ?_
  refine Ef.call go18 rfl rfl (add_ok (kS 2) _ rfl w2_5 s2_5 (by have := s2_5.len; rw [← this, e1]; decide)) ?_
  rintro _ w3_4 ⟨A3_4, n3_4, c3_4, rfl, s3_4, k3_4, h3_4⟩
  refine ⟨_, rfl, ?_⟩
  have L3_4 := L2_5.trans h3_4
  refine W.any (.move rfl) rfl rfl rfl ?_
  refine W.any (.extract rfl rfl) rfl rfl rfl ?_
  refine W.any (.extract rfl rfl) rfl rfl rfl ?_
  refine W.any (.assign rfl) rfl rfl rfl ?_
  refine W.any (.assign rfl) rfl rfl rfl ?_
  refine W.nil ?_
  refine E.thenN ?_
  refine WC.seq ?_
  refine WC.region ?_
  refine W.any (.move rfl) rfl rfl rfl ?_
  refine W.any (.idxS (0) Try.underlying25 sz23 rfl rfl (rfl) (rfl) (by decide)) rfl rfl rfl ?_
  refine W.rd (.loadK ag23 rfl (hK.le (h2_5.trans h3_4)) (q := kS 1) rfl (by decide)) rfl rfl rfl ?_
  refine W.any (.move rfl) rfl rfl rfl ?_
  refine W.ef rfl rfl rfl ?_
  refine Ef.call go18 rfl rfl (add_ok (kS 1) _ rfl w3_4 s3_4 (by have := s3_4.len; rw [← this, e2]; decide)) ?_
  rintro _ w4_4 ⟨A4_4, n4_4, c4_4, rfl, s4_4, k4_4, h4_4⟩
  refine ⟨_, rfl, ?_⟩
  have L4_4 := L3_4.trans h4_4
  refine W.any (.move rfl) rfl rfl rfl ?_
  refine W.any (.extract rfl rfl) rfl rfl rfl ?_
  refine W.any (.extract rfl rfl) rfl rfl rfl ?_
  refine W.any (.assign rfl) rfl rfl rfl ?_
  refine W.any (.assign rfl) rfl rfl rfl ?_
  refine W.nil ?_
  refine E.thenN ?_
  refine WC.seq ?_
  refine WC.region ?_
  refine W.any (.move rfl) rfl rfl rfl ?_
  refine W.any (.move rfl) rfl rfl rfl ?_
  refine W.ef rfl rfl rfl ?_
  refine Ef.call go20 rfl rfl (read_ok w4_4 (hK.le (h2_5.trans (h3_4.trans h4_4))) s4_4 (by have := s4_4.len; rw [← this, f4]; decide) k4_4) ?_
  rintro _ w5_2 ⟨A5, n5, c5, rfl, s5, h5_2⟩
  refine ⟨_, rfl, ?_⟩
  have L5_2 := L4_4.trans h5_2
  refine W.any (.move rfl) rfl rfl rfl ?_
  refine W.any (.extract rfl rfl) rfl rfl rfl ?_
  refine W.any (.extract rfl rfl) rfl rfl rfl ?_
  refine W.any (.extract rfl rfl) rfl rfl rfl ?_
  refine W.any (.assign rfl) rfl rfl rfl ?_
  refine W.any (.assign rfl) rfl rfl rfl ?_
  refine W.any (.assign rfl) rfl rfl rfl ?_
  refine W.nil ?_
  refine E.thenN ?_
  refine WC.seq ?_
  refine WC.region ?_
  refine W.any (.move rfl) rfl rfl rfl ?_
  refine W.any (.cutH (2) Try.underlying25 sz23 rfl rfl (rfl) (by decide)) rfl rfl rfl ?_
  refine W.any (.move rfl) rfl rfl rfl ?_
  refine W.ef rfl rfl rfl ?_
  refine Ef.call go20 rfl rfl (read_ok (keys := [kS 1, kS 2]) w5_2 ⟨rfl, fun q hq => keysS_len q (by simp [keysS] at *; rcases hq with rfl | rfl <;> simp), ((hK.le (h2_5.trans (h3_4.trans (h4_4.trans h5_2)))).2.2.cut 4 0 2 (by decide) (by decide) (by decide))⟩ (s4_4.le h5_2) (by have := s4_4.len; rw [← this, f4]; decide) k4_4) ?_
  rintro _ w6_3 ⟨A6, n6, c6, rfl, s6, h6_3⟩
  refine ⟨_, rfl, ?_⟩
  have L6_3 := L5_2.trans h6_3
  refine W.any (.move rfl) rfl rfl rfl ?_
  refine W.any (.extract rfl rfl) rfl rfl rfl ?_
  refine W.any (.extract rfl rfl) rfl rfl rfl ?_
  refine W.any (.extract rfl rfl) rfl rfl rfl ?_
  refine W.any (.assign rfl) rfl rfl rfl ?_
  refine W.any (.assign rfl) rfl rfl rfl ?_
  refine W.any (.assign rfl) rfl rfl rfl ?_
  refine W.nil ?_
  refine E.thenN ?_
  refine WC.seq ?_
  refine WC.draw [0, 1, 2, 3, 4, 5, 6, 7, 8, 9] mixed (by kernel_rfl) ?_
  intro w7 d7
  have L7 := L6_3.trans d7
  refine G.any rfl rfl (.move rfl) rfl rfl rfl ?_
  refine G.any rfl rfl (.idxS (0) Try.underlying25 sz23 rfl rfl (rfl) (rfl) (by decide)) rfl rfl rfl ?_
  refine G.rd rfl rfl (.loadK ag23 rfl (hK.le (h2_5.trans (h3_4.trans (h4_4.trans (h5_2.trans (h6_3.trans d7)))))) (q := kS 1) rfl (by decide)) rfl rfl rfl ?_
  refine G.ef rfl rfl rfl rfl rfl ?_
  refine Ef.makeSlice 56 56 Try.underlying24 el5 rfl rfl rfl rfl (by decide) (by decide) (by decide) ?_
  intro g7_3 w7_3 hg7_3 b7_3 h7_3
  have L7_3 := L7.trans h7_3
  refine ⟨fun _ => h7_3, ?_⟩
  have sM : Sb w7_3 (some ⟨g7_3, 0, none⟩) 56 (List.replicate 56 0#8) := (b7_3.cast (made8 56) : Blk w7_3 g7_3 5 ((List.replicate 56 0#8).map u8v).toArray).sb rfl
  refine G.ef rfl rfl rfl rfl rfl ?_
  refine Ef.call go16 rfl rfl (make_ok (kS 1) _ rfl w7_3 sM) ?_
  rintro _ w7_4 ⟨A7_4, n7_4, c7_4, rfl, s7_4, k7_4, h7_4⟩
  refine ⟨_, rfl, ?_⟩
  have L7_4 := L7_3.trans h7_4
  refine ⟨fun _ => h7_4, ?_⟩
  refine G.any rfl rfl (.move rfl) rfl rfl rfl ?_
  refine G.any rfl rfl (.extract rfl rfl) rfl rfl rfl ?_
  refine G.any rfl rfl (.extract rfl rfl) rfl rfl rfl ?_
  refine G.any rfl rfl (.assign rfl) rfl rfl rfl ?_
  refine G.any rfl rfl (.assign rfl) rfl rfl rfl ?_
  refine G.nil ?_
  refine E.thenN ?_
  refine WC.seq ?_
  refine WC.region ?_
  refine W.any (.move rfl) rfl rfl rfl ?_
  refine W.any (.dec (.eql rfl rfl) (decide_eq_true f1)) rfl rfl rfl ?_
  refine W.any (.move rfl) rfl rfl rfl ?_
  refine W.rdg (Any.rd (.move rfl) _) rfl rfl rfl (rfl) rfl rfl ?_
  refine W.rdg (Any.rd (.dec (.eql rfl rfl) (decide_eq_true f2)) _) rfl rfl rfl (rfl) rfl rfl ?_
  refine W.any (.pickT rfl rfl rfl) rfl rfl rfl ?_
  refine W.any (.move rfl) rfl rfl rfl ?_
  refine W.rdg (Any.rd (.move rfl) _) rfl rfl rfl (rfl) rfl rfl ?_
  refine W.rdg (Any.rd (.dec (.eql rfl rfl) (decide_eq_true f3)) _) rfl rfl rfl (rfl) rfl rfl ?_
  refine W.any (.pickT rfl rfl rfl) rfl rfl rfl ?_
  refine W.any (.move rfl) rfl rfl rfl ?_
  refine W.rdg (Any.rd (.move rfl) _) rfl rfl rfl (rfl) rfl rfl ?_
  refine W.rdg (Any.rd (.dec (.eql rfl rfl) (decide_eq_true (by rw [f5] <;> rfl))) _) rfl rfl rfl (rfl) rfl rfl ?_
  refine W.any (.pickT rfl rfl rfl) rfl rfl rfl ?_
  refine W.any (.move rfl) rfl rfl rfl ?_
  refine W.rdg (Any.rd (.move rfl) _) rfl rfl rfl (rfl) rfl rfl ?_
  refine W.rdg (.len Try.underlying24 rfl) rfl rfl rfl (rfl) rfl rfl ?_
  refine W.rdg (Any.rd (.dec (.eql rfl rfl) (decide_eq_true (by rw [← s4_4.len, f4] <;> rfl))) _) rfl rfl rfl (rfl) rfl rfl ?_
  refine W.any (.pickT rfl rfl rfl) rfl rfl rfl ?_
  refine W.any (.move rfl) rfl rfl rfl ?_
  refine W.rdg (Any.rd (.move rfl) _) rfl rfl rfl (rfl) rfl rfl ?_
  refine W.rdg (Any.rd (.dec (.eql rfl rfl) (decide_eq_true (by rw [f5] <;> rfl))) _) rfl rfl rfl (rfl) rfl rfl ?_
  refine W.any (.pickT rfl rfl rfl) rfl rfl rfl ?_
  refine W.any (.move rfl) rfl rfl rfl ?_
  refine W.rdg (Any.rd (.move rfl) _) rfl rfl rfl (rfl) rfl rfl ?_
  refine W.rdg (.toStr Try.underlying24 Try.underlying5 Try.underlying9 rfl (s5.le (h6_3.trans (d7.trans (h7_3.trans h7_4))))) rfl rfl rfl (rfl) rfl rfl ?_
  refine W.rdg (Any.rd (.dec (.eqlStr rfl rfl) (full_eq f5)) _) rfl rfl rfl (rfl) rfl rfl ?_
  refine W.any (.pickT rfl rfl rfl) rfl rfl rfl ?_
  refine W.any (.move rfl) rfl rfl rfl ?_
  refine W.rdg (Any.rd (.move rfl) _) rfl rfl rfl (rfl) rfl rfl ?_
  refine W.rdg (Any.rd (.dec (.eql rfl rfl) (decide_eq_true (by rw [f6] <;> rfl))) _) rfl rfl rfl (rfl) rfl rfl ?_
  refine W.any (.pickT rfl rfl rfl) rfl rfl rfl ?_
  refine W.any (.move rfl) rfl rfl rfl ?_
  refine W.rdg (Any.rd (.move rfl) _) rfl rfl rfl (rfl) rfl rfl ?_
  refine W.rdg (Any.rd (.dec (.eql rfl rfl) (decide_eq_true f7)) _) rfl rfl rfl (rfl) rfl rfl ?_
  refine W.any (.pickT rfl rfl rfl) rfl rfl rfl ?_
  refine W.any (.assign rfl) rfl rfl rfl ?_
  refine W.nil ?_
  refine E.thenN ?_
  refine WC.ret ?_
  refine E.ret1 rfl rfl ?_
  exact ⟨rfl, L7_4⟩
end Go.Proofs.Ytpmjdiccekkadaa
