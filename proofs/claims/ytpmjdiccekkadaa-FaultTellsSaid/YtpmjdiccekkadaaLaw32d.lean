/- The statement FaultLayers walked: it answers true and leaves old memory as it was. -/
import Derived.Test.YtpmjdiccekkadaaLaw32
import Derived.Test.YtpmjdiccekkadaaRef04b
namespace Go.Proofs.Ytpmjdiccekkadaa
open Go Go.Sx Go.Hsp
set_option maxRecDepth 20000
theorem flatK_length : ∀ (keys : List (List Byte)), (∀ q ∈ keys, q.length = 32) → ((keys.map fun q => q.map u8v).flatten).length = keys.length * 32
  | [], _ => by simp
  | q :: keys, h => by
    have := flatK_length keys (fun r hr => h r (by simp [hr]))
    simp only [List.map_cons, List.flatten_cons, List.length_append, List.length_map, this, h q (by simp), List.length_cons]
    omega
theorem Ks.tail {w : World} {A : Option Addr} {m c : Nat} {q : List Byte} {keys : List (List Byte)} (h : Ks w 32 A m (q :: keys)) (hc : m ≤ c) : Ks w 32 (cutA A c 1 32) (m - 1) keys := by
  have hm : m = keys.length + 1 := by have := h.1; simpa using this.symm
  refine ⟨by omega, fun r hr => h.2.1 r (by simp [hr]), ?_⟩
  have hq : q.length = 32 := h.2.1 q (by simp)
  have hl : ((keys.map fun q => q.map u8v).flatten).length = keys.length * 32 := flatK_length keys (fun r hr => h.2.1 r (by simp [hr]))
  have := h.2.2.cut c 1 m (by omega) (Nat.le_refl _) hc
  rw [List.map_cons, List.flatten_cons, List.drop_append_of_le_length (by simp [hq]), List.drop_of_length_le (by simp [hq]), List.nil_append, List.take_of_length_le (by rw [hl]; omega)] at this
  exact this
theorem unw_cons (k : List Byte) (ks : List (List Byte)) : ∀ (m a : Nat) (l : List Byte), unw (k :: ks) m (a + 1) l = ((unw ks m a l).1 + 1, (unw ks m a l).2)
  | 0, a, l => rfl
  | m + 1, a, l => by
    rw [unw, unw, show (k :: ks).getD (a + 1) [] = ks.getD a [] from rfl]
    split
    · exact unw_cons k ks m (a + 1) _
    · rfl
theorem stepB_le (n : Nat) : (stepB n).toNat ≤ 7 := by
  rw [stepB]; split <;> omega
theorem readB_le (keys : List (List Byte)) (p : List Byte) : (readB keys p).1 ≤ 7 := by
  have := stepB_le p.length
  rw [readB]
  split
  · exact Nat.zero_le _
  · split
    · rename_i h; exact Nat.le_trans h this
    · rw [readRow]; split <;> exact this
theorem readRow_fst (n : Nat) (l : List Byte) : readRow (n + 1) l = ((readRow n l).1 + 1, (readRow n l).2.1, (readRow n l).2.2) := by
  rw [readRow, readRow]; split <;> rfl
theorem layers_no (k : List Byte) (ks : List (List Byte)) (p : List Byte) (s : Nat) (hs : p.length = 64 + 8 * s) (h7 : s ≤ 7) (hk : s < ks.length + 1) (hf : fits (byB k) p = false) : readB (k :: ks) p = (0, [], 18) := by
  have hu : unw (k :: ks) (s + 1) 0 p = (0, p) := by rw [unw, show (k :: ks).getD 0 [] = k from rfl, hf]; rfl
  rw [readB, stepB_of _ s hs h7, if_neg (by simp; omega), Int.toNat_natCast, hu, if_pos (Nat.zero_le _)]
theorem layers_yes (k : List Byte) (ks : List (List Byte)) (p : List Byte) (s : Nat) (hs : p.length = 64 + 8 * (s + 1)) (h7 : s + 1 ≤ 7) (hk : s < ks.length) (hf : fits (byB k) p = true) (hi : (inner (byB k) p).length = 64 + 8 * s) :
    readB (k :: ks) p = ((readB ks (inner (byB k) p)).1 + 1, (readB ks (inner (byB k) p)).2.1, (readB ks (inner (byB k) p)).2.2) := by
  have hu : unw (k :: ks) (s + 1 + 1) 0 p = ((unw ks (s + 1) 0 (inner (byB k) p)).1 + 1, (unw ks (s + 1) 0 (inner (byB k) p)).2) := by
    rw [unw, show (k :: ks).getD 0 [] = k from rfl, if_pos hf]
    exact unw_cons k ks (s + 1) 0 _
  have hR : readB ks (inner (byB k) p) = if (unw ks (s + 1) 0 (inner (byB k) p)).1 ≤ s then ((unw ks (s + 1) 0 (inner (byB k) p)).1, [], 18) else readRow s (unw ks (s + 1) 0 (inner (byB k) p)).2 := by
    rw [readB, stepB_of _ s hi (by omega), if_neg (by simp; omega), Int.toNat_natCast]
  have hL : readB (k :: ks) p = if (unw ks (s + 1) 0 (inner (byB k) p)).1 + 1 ≤ s + 1 then ((unw ks (s + 1) 0 (inner (byB k) p)).1 + 1, [], 18) else readRow (s + 1) (unw ks (s + 1) 0 (inner (byB k) p)).2 := by
    rw [readB, stepB_of _ (s + 1) hs h7, if_neg (by simp; omega), Int.toNat_natCast, hu]
  rw [hL, hR]
  by_cases h : (unw ks (s + 1) 0 (inner (byB k) p)).1 ≤ s
  · rw [if_pos h, if_pos (by omega)]
  · rw [if_neg h, if_neg (by omega)]
    exact readRow_fst s _
theorem readB_len (keys : List (List Byte)) (p : List Byte) : (readB keys p).2.1.length ≤ 55 := by
  rw [readB]
  split
  · simp
  · split
    · simp
    · rw [readRow]
      split
      · rename_i h; exact Nat.le_trans (List.length_take_le _ _) h.1
      · simp

theorem FaultLayers_ok {A Ap : Option Addr} {nk ck n c : Nat} {keys : List (List Byte)} {p : List Byte} (w : World) (hK : Ks w 32 A nk keys) (hS : Sb w Ap n p) (hck : nk ≤ ck) (hc : n ≤ c) (hnk : nk ≤ 9223372036854775807) (hnr : n ≤ 9223372036854775807) : Calls Try.prog 6 #[.slice A nk ck, .slice Ap n c] w fun e w' => e = .returned (.bool true) ∧ Le w w' := by
  refine enter Try.func6 rfl rfl ?_
  have L0 := Le.refl w
  refine WC.seq ?_
  refine WC.region ?_
  refine W.any (.assign rfl) rfl rfl rfl ?_
  refine W.nil ?_
  refine E.thenN ?_
  refine WC.seq ?_
  refine WC.region ?_
  refine W.ef rfl rfl rfl ?_
  refine Ef.call go15 rfl rfl (small_ok w) ?_
  rintro _ w1_0 ⟨rfl, h1_0⟩
  refine ⟨_, rfl, ?_⟩
  have L1_0 := L0.trans h1_0
  refine W.any (.assign rfl) rfl rfl rfl ?_
  refine W.nil ?_
  refine E.thenN ?_
  refine WC.seq ?_
  refine WC.seq ?_
  refine WC.region ?_
  refine W.any (.move rfl) rfl rfl rfl ?_
  refine W.rd (.len Try.underlying25 rfl) rfl rfl rfl ?_
  by_cases q1 : 8 < nk
  · refine W.any (.dec (.gtr rfl rfl) (decide_eq_true (by omega))) rfl rfl rfl ?_
    refine W.any (.move rfl) rfl rfl rfl ?_
    refine W.skip rfl rfl rfl (rfl) rfl rfl ?_
    refine W.skip rfl rfl rfl (rfl) rfl rfl ?_
    refine W.skip rfl rfl rfl (rfl) rfl rfl ?_
    refine W.any (.pickT rfl rfl rfl) rfl rfl rfl ?_
    refine W.any (.move rfl) rfl rfl rfl ?_
    refine W.skip rfl rfl rfl (rfl) rfl rfl ?_
    refine W.skip rfl rfl rfl (rfl) rfl rfl ?_
    refine W.skip rfl rfl rfl (rfl) rfl rfl ?_
    refine W.any (.pickT rfl rfl rfl) rfl rfl rfl ?_
    refine W.any (.move rfl) rfl rfl rfl ?_
    refine W.skip rfl rfl rfl (rfl) rfl rfl ?_
    refine W.skip rfl rfl rfl (rfl) rfl rfl ?_
    refine W.skip rfl rfl rfl (rfl) rfl rfl ?_
    refine W.skip rfl rfl rfl (rfl) rfl rfl ?_
    refine W.skip rfl rfl rfl (rfl) rfl rfl ?_
    refine W.skip rfl rfl rfl (rfl) rfl rfl ?_
    refine W.skip rfl rfl rfl (rfl) rfl rfl ?_
    refine W.skip rfl rfl rfl (rfl) rfl rfl ?_
    refine W.any (.pickT rfl rfl rfl) rfl rfl rfl ?_
    refine W.any (.move rfl) rfl rfl rfl ?_
    refine W.skip rfl rfl rfl (rfl) rfl rfl ?_
    refine W.skip rfl rfl rfl (rfl) rfl rfl ?_
    refine W.skip rfl rfl rfl (rfl) rfl rfl ?_
    refine W.skip rfl rfl rfl (rfl) rfl rfl ?_
    refine W.any (.pickT rfl rfl rfl) rfl rfl rfl ?_
    refine W.nil ?_
    refine E.thenN ?_
    refine WC.condT rfl ?_
    refine WC.seq ?_
    refine WC.region ?_
    refine W.any (.move rfl) rfl rfl rfl ?_
    refine W.any (.assign rfl) rfl rfl rfl ?_
    refine W.nil ?_
    refine E.thenN ?_
    refine WC.ret ?_
    refine E.thenR ?_
    refine E.ret1 rfl rfl ?_
    exact ⟨rfl, L1_0⟩
  · refine W.any (.dec (.gtr rfl rfl) (decide_eq_false (by omega))) rfl rfl rfl ?_
    refine W.any (.move rfl) rfl rfl rfl ?_
    refine W.rdg (Any.rd (.move rfl) _) rfl rfl rfl (rfl) rfl rfl ?_
    refine W.rdg (.len Try.underlying25 rfl) rfl rfl rfl (rfl) rfl rfl ?_
    by_cases q2 : nk < 2
    · refine W.rdg (Any.rd (.dec (.lss rfl rfl) (decide_eq_true (by omega))) _) rfl rfl rfl (rfl) rfl rfl ?_
      refine W.any (.pickF rfl rfl rfl) rfl rfl rfl ?_
      refine W.any (.move rfl) rfl rfl rfl ?_
      refine W.skip rfl rfl rfl (rfl) rfl rfl ?_
      refine W.skip rfl rfl rfl (rfl) rfl rfl ?_
      refine W.skip rfl rfl rfl (rfl) rfl rfl ?_
      refine W.any (.pickT rfl rfl rfl) rfl rfl rfl ?_
      refine W.any (.move rfl) rfl rfl rfl ?_
      refine W.skip rfl rfl rfl (rfl) rfl rfl ?_
      refine W.skip rfl rfl rfl (rfl) rfl rfl ?_
      refine W.skip rfl rfl rfl (rfl) rfl rfl ?_
      refine W.skip rfl rfl rfl (rfl) rfl rfl ?_
      refine W.skip rfl rfl rfl (rfl) rfl rfl ?_
      refine W.skip rfl rfl rfl (rfl) rfl rfl ?_
      refine W.skip rfl rfl rfl (rfl) rfl rfl ?_
      refine W.skip rfl rfl rfl (rfl) rfl rfl ?_
      refine W.any (.pickT rfl rfl rfl) rfl rfl rfl ?_
      refine W.any (.move rfl) rfl rfl rfl ?_
      refine W.skip rfl rfl rfl (rfl) rfl rfl ?_
      refine W.skip rfl rfl rfl (rfl) rfl rfl ?_
      refine W.skip rfl rfl rfl (rfl) rfl rfl ?_
      refine W.skip rfl rfl rfl (rfl) rfl rfl ?_
      refine W.any (.pickT rfl rfl rfl) rfl rfl rfl ?_
      refine W.nil ?_
      refine E.thenN ?_
      refine WC.condT rfl ?_
      refine WC.seq ?_
      refine WC.region ?_
      refine W.any (.move rfl) rfl rfl rfl ?_
      refine W.any (.assign rfl) rfl rfl rfl ?_
      refine W.nil ?_
      refine E.thenN ?_
      refine WC.ret ?_
      refine E.thenR ?_
      refine E.ret1 rfl rfl ?_
      exact ⟨rfl, L1_0⟩
    · refine W.rdg (Any.rd (.dec (.lss rfl rfl) (decide_eq_false (by omega))) _) rfl rfl rfl (rfl) rfl rfl ?_
      refine W.any (.pickF rfl rfl rfl) rfl rfl rfl ?_
      refine W.any (.move rfl) rfl rfl rfl ?_
      refine W.rdg (Any.rd (.move rfl) _) rfl rfl rfl (rfl) rfl rfl ?_
      refine W.rdg (.len Try.underlying24 rfl) rfl rfl rfl (rfl) rfl rfl ?_
      by_cases q3 : n < 72
      · refine W.rdg (Any.rd (.dec (.lss rfl rfl) (decide_eq_true (by omega))) _) rfl rfl rfl (rfl) rfl rfl ?_
        refine W.any (.pickF rfl rfl rfl) rfl rfl rfl ?_
        refine W.any (.move rfl) rfl rfl rfl ?_
        refine W.skip rfl rfl rfl (rfl) rfl rfl ?_
        refine W.skip rfl rfl rfl (rfl) rfl rfl ?_
        refine W.skip rfl rfl rfl (rfl) rfl rfl ?_
        refine W.skip rfl rfl rfl (rfl) rfl rfl ?_
        refine W.skip rfl rfl rfl (rfl) rfl rfl ?_
        refine W.skip rfl rfl rfl (rfl) rfl rfl ?_
        refine W.skip rfl rfl rfl (rfl) rfl rfl ?_
        refine W.skip rfl rfl rfl (rfl) rfl rfl ?_
        refine W.any (.pickT rfl rfl rfl) rfl rfl rfl ?_
        refine W.any (.move rfl) rfl rfl rfl ?_
        refine W.skip rfl rfl rfl (rfl) rfl rfl ?_
        refine W.skip rfl rfl rfl (rfl) rfl rfl ?_
        refine W.skip rfl rfl rfl (rfl) rfl rfl ?_
        refine W.skip rfl rfl rfl (rfl) rfl rfl ?_
        refine W.any (.pickT rfl rfl rfl) rfl rfl rfl ?_
        refine W.nil ?_
        refine E.thenN ?_
        refine WC.condT rfl ?_
        refine WC.seq ?_
        refine WC.region ?_
        refine W.any (.move rfl) rfl rfl rfl ?_
        refine W.any (.assign rfl) rfl rfl rfl ?_
        refine W.nil ?_
        refine E.thenN ?_
        refine WC.ret ?_
        refine E.thenR ?_
        refine E.ret1 rfl rfl ?_
        exact ⟨rfl, L1_0⟩
      · refine W.rdg (Any.rd (.dec (.lss rfl rfl) (decide_eq_false (by omega))) _) rfl rfl rfl (rfl) rfl rfl ?_
        refine W.any (.pickF rfl rfl rfl) rfl rfl rfl ?_
        refine W.any (.move rfl) rfl rfl rfl ?_
        refine W.rdg (Any.rd (.move rfl) _) rfl rfl rfl (rfl) rfl rfl ?_
        refine W.rdg (.len Try.underlying24 rfl) rfl rfl rfl (rfl) rfl rfl ?_
        refine W.rdg (Any.rd (.move rfl) _) rfl rfl rfl (rfl) rfl rfl ?_
        refine W.rdg (.len Try.underlying25 rfl) rfl rfl rfl (rfl) rfl rfl ?_
        refine W.rdg (Any.rd (.sub rfl rfl (by omega)) _) rfl rfl rfl (rfl) rfl rfl ?_
        refine W.rdg (Any.rd (.mul rfl rfl (by omega)) _) rfl rfl rfl (rfl) rfl rfl ?_
        refine W.rdg (Any.rd (.add rfl rfl (by omega)) _) rfl rfl rfl (rfl) rfl rfl ?_
        by_cases q4 : 64 + 8 * (nk - 1) < n
        · refine W.rdg (Any.rd (.dec (.gtr rfl rfl) (decide_eq_true (by omega))) _) rfl rfl rfl (rfl) rfl rfl ?_
          refine W.any (.pickF rfl rfl rfl) rfl rfl rfl ?_
          refine W.any (.move rfl) rfl rfl rfl ?_
          refine W.skip rfl rfl rfl (rfl) rfl rfl ?_
          refine W.skip rfl rfl rfl (rfl) rfl rfl ?_
          refine W.skip rfl rfl rfl (rfl) rfl rfl ?_
          refine W.skip rfl rfl rfl (rfl) rfl rfl ?_
          refine W.any (.pickT rfl rfl rfl) rfl rfl rfl ?_
          refine W.nil ?_
          refine E.thenN ?_
          refine WC.condT rfl ?_
          refine WC.seq ?_
          refine WC.region ?_
          refine W.any (.move rfl) rfl rfl rfl ?_
          refine W.any (.assign rfl) rfl rfl rfl ?_
          refine W.nil ?_
          refine E.thenN ?_
          refine WC.ret ?_
          refine E.thenR ?_
          refine E.ret1 rfl rfl ?_
          exact ⟨rfl, L1_0⟩
        · refine W.rdg (Any.rd (.dec (.gtr rfl rfl) (decide_eq_false (by omega))) _) rfl rfl rfl (rfl) rfl rfl ?_
          refine W.any (.pickF rfl rfl rfl) rfl rfl rfl ?_
          refine W.any (.move rfl) rfl rfl rfl ?_
          refine W.rdg (Any.rd (.move rfl) _) rfl rfl rfl (rfl) rfl rfl ?_
          refine W.rdg (.len Try.underlying24 rfl) rfl rfl rfl (rfl) rfl rfl ?_
          refine W.rdg (Any.rd (.rem rfl rfl (by omega)) _) rfl rfl rfl (rfl) rfl rfl ?_
          by_cases q5 : n % 8 ≠ 0
          · refine W.rdg (Any.rd (.dec (.neq rfl rfl) (decide_eq_true (by omega))) _) rfl rfl rfl (rfl) rfl rfl ?_
            refine W.any (.pickF rfl rfl rfl) rfl rfl rfl ?_
            refine W.nil ?_
            refine E.thenN ?_
            refine WC.condT rfl ?_
            refine WC.seq ?_
            refine WC.region ?_
            refine W.any (.move rfl) rfl rfl rfl ?_
            refine W.any (.assign rfl) rfl rfl rfl ?_
            refine W.nil ?_
            refine E.thenN ?_
            refine WC.ret ?_
            refine E.thenR ?_
            refine E.ret1 rfl rfl ?_
            exact ⟨rfl, L1_0⟩
          · refine W.rdg (Any.rd (.dec (.neq rfl rfl) (decide_eq_false (by omega))) _) rfl rfl rfl (rfl) rfl rfl ?_
            refine W.any (.pickF rfl rfl rfl) rfl rfl rfl ?_
            refine W.nil ?_
            refine E.thenN ?_
            refine WC.condF rfl ?_
            refine WC.skip ?_
            refine E.thenN ?_
            refine WC.seq ?_
            refine WC.region ?_
            have hkl := hK.1
            have hpl := hS.len
            obtain ⟨k0, ks, rfl⟩ : ∃ k0 ks, keys = k0 :: ks := by cases keys with | nil => simp at hkl; omega | cons a b => exact ⟨a, b, rfl⟩
            have hk0 : k0.length = 32 := hK.2.1 k0 (by simp)
            simp at hkl
            obtain ⟨s, hs⟩ : ∃ s, n = 64 + 8 * (s + 1) := ⟨(n - 72) / 8, by omega⟩
            refine W.any (.move rfl) rfl rfl rfl ?_
            refine W.any (.move rfl) rfl rfl rfl ?_
            refine W.ef rfl rfl rfl ?_
            refine Ef.call go20 rfl rfl (read_ok w1_0 (hK.le L1_0) (hS.le L1_0) (by omega) hc) ?_
            rintro _ w4_2 ⟨A4, n4, c4, rfl, s4, h4_2⟩
            refine ⟨_, rfl, ?_⟩
            have L4_2 := L1_0.trans h4_2
            have hn4 := s4.len
            refine W.any (.move rfl) rfl rfl rfl ?_
            refine W.any (.extract rfl rfl) rfl rfl rfl ?_
            refine W.any (.extract rfl rfl) rfl rfl rfl ?_
            refine W.any (.extract rfl rfl) rfl rfl rfl ?_
            refine W.any (.assign rfl) rfl rfl rfl ?_
            refine W.any (.assign rfl) rfl rfl rfl ?_
            refine W.any (.assign rfl) rfl rfl rfl ?_
            refine W.nil ?_
            refine E.thenN ?_
            refine WC.seq ?_
            refine WC.region ?_
            refine W.any (.move rfl) rfl rfl rfl ?_
            refine W.any (.idxS (0) Try.underlying25 sz23 rfl rfl (hK.2.2.isSome (j := 0) (by omega) (by decide)) (rfl) (by omega)) rfl rfl rfl ?_
            refine W.rd (.loadK ag23 rfl (hK.le L4_2) (q := k0) rfl (by decide)) rfl rfl rfl ?_
            refine W.ef rfl rfl rfl ?_
            refine Ef.call go25 rfl rfl (rby_ok k0 hk0 w4_2) ?_
            rintro _ w5_3 ⟨rfl, h5_3⟩
            refine ⟨_, rfl, ?_⟩
            have L5_3 := L4_2.trans h5_3
            refine W.any (.move rfl) rfl rfl rfl ?_
            by_cases hf : fits (byB k0) p = true
            · refine W.ef rfl rfl rfl ?_
              refine Ef.call go24 rfl rfl (open_yes (byB k0) (byB_length _) w5_3 (hS.le L5_3) (by omega) (by omega) hc hf) ?_
              rintro _ w5_5 ⟨A5, c5, rfl, o5, h5_5⟩
              refine ⟨_, rfl, ?_⟩
              have L5_5 := L5_3.trans h5_5
              have hil : (inner (byB k0) p).length = n - 8 := o5.sb.len
              have hly := layers_yes k0 ks p s (by omega) (by omega) (by omega) hf (by omega)
              have hle7 := readB_le ks (inner (byB k0) p)
              refine W.any (.move rfl) rfl rfl rfl ?_
              refine W.any (.extract rfl rfl) rfl rfl rfl ?_
              refine W.any (.extract rfl rfl) rfl rfl rfl ?_
              refine W.any (.assign rfl) rfl rfl rfl ?_
              refine W.any (.assign rfl) rfl rfl rfl ?_
              refine W.nil ?_
              refine E.thenN ?_
              refine WC.seq ?_
              refine WC.seq ?_
              refine WC.region ?_
              refine W.any (.move rfl) rfl rfl rfl ?_
              refine W.any (.not rfl) rfl rfl rfl ?_
              refine W.nil ?_
              refine E.thenN ?_
              refine WC.condF rfl ?_
              refine WC.skip ?_
              refine E.thenN ?_
              refine WC.seq ?_
              refine WC.region ?_
              refine W.any (.move rfl) rfl rfl rfl ?_
              refine W.any (.cutL (1) Try.underlying25 sz23 rfl rfl (rfl) (by omega) (by omega)) rfl rfl rfl ?_
              refine W.any (.move rfl) rfl rfl rfl ?_
              refine W.ef rfl rfl rfl ?_
              refine Ef.call go20 rfl rfl (read_ok (keys := ks) w5_5 (Ks.tail (hK.le L5_5) hck) o5.sb (by omega) o5.cap.1) ?_
              rintro _ w8_3 ⟨A8, n8, c8, rfl, s8, h8_3⟩
              refine ⟨_, rfl, ?_⟩
              have L8_3 := L5_5.trans h8_3
              refine W.any (.move rfl) rfl rfl rfl ?_
              refine W.any (.extract rfl rfl) rfl rfl rfl ?_
              refine W.any (.extract rfl rfl) rfl rfl rfl ?_
              refine W.any (.extract rfl rfl) rfl rfl rfl ?_
              refine W.any (.assign rfl) rfl rfl rfl ?_
              refine W.any (.assign rfl) rfl rfl rfl ?_
              refine W.any (.assign rfl) rfl rfl rfl ?_
              refine W.nil ?_
              refine E.thenN ?_
              refine WC.seq ?_
              refine WC.region ?_
              refine W.any (.move rfl) rfl rfl rfl ?_
              refine W.any (.move rfl) rfl rfl rfl ?_
              refine W.rdg (Any.rd (.move rfl) _) rfl rfl rfl (rfl) rfl rfl ?_
              refine W.rdg (Any.rd (.move rfl) _) rfl rfl rfl (rfl) rfl rfl ?_
              refine W.rdg (Any.rd (.add rfl rfl (by omega)) _) rfl rfl rfl (rfl) rfl rfl ?_
              refine W.rdg (Any.rd (.dec (.eql rfl rfl) (decide_eq_true (by rw [hly] <;> simp))) _) rfl rfl rfl (rfl) rfl rfl ?_
              refine W.any (.pickT rfl rfl rfl) rfl rfl rfl ?_
              refine W.any (.move rfl) rfl rfl rfl ?_
              refine W.rdg (Any.rd (.move rfl) _) rfl rfl rfl (rfl) rfl rfl ?_
              refine W.rdg (Any.rd (.move rfl) _) rfl rfl rfl (rfl) rfl rfl ?_
              refine W.rdg (Any.rd (.dec (.eql rfl rfl) (decide_eq_true (by rw [hly]))) _) rfl rfl rfl (rfl) rfl rfl ?_
              refine W.any (.pickT rfl rfl rfl) rfl rfl rfl ?_
              refine W.any (.move rfl) rfl rfl rfl ?_
              refine W.rdg (Any.rd (.move rfl) _) rfl rfl rfl (rfl) rfl rfl ?_
              refine W.rdg (Any.rd (.move rfl) _) rfl rfl rfl (rfl) rfl rfl ?_
              refine W.efg rfl rfl rfl (rfl) rfl rfl ?_
              refine Ef.call go22 rfl rfl (same_ok w8_3 (s4.le (h5_3.trans (h5_5.trans h8_3))) s8 (by have := readB_len (k0 :: ks) p; omega)) ?_
              rintro _ w9_15 ⟨e, h9_15⟩
              rw [decide_eq_true (by rw [hly])] at e; subst e
              refine ⟨_, rfl, ?_⟩
              have L9_15 := L8_3.trans h9_15
              refine W.any (.pickT rfl rfl rfl) rfl rfl rfl ?_
              refine W.any (.assign rfl) rfl rfl rfl ?_
              refine W.nil ?_
              refine E.thenN ?_
              refine WC.ret ?_
              refine E.ret1 rfl rfl ?_
              exact ⟨rfl, L9_15⟩
            · refine W.ef rfl rfl rfl ?_
              refine Ef.call go24 rfl rfl (open_no (byB k0) (byB_length _) w5_3 (hS.le L5_3) (by omega) (by omega) hc (by simpa using hf)) ?_
              rintro _ w5_5 ⟨rfl, h5_5⟩
              refine ⟨_, rfl, ?_⟩
              have L5_5 := L5_3.trans h5_5
              have hly := layers_no k0 ks p (s + 1) (by omega) (by omega) (by omega) (by simpa using hf)
              rw [hly] at hn4
              refine W.any (.move rfl) rfl rfl rfl ?_
              refine W.any (.extract rfl rfl) rfl rfl rfl ?_
              refine W.any (.extract rfl rfl) rfl rfl rfl ?_
              refine W.any (.assign rfl) rfl rfl rfl ?_
              refine W.any (.assign rfl) rfl rfl rfl ?_
              refine W.nil ?_
              refine E.thenN ?_
              refine WC.seq ?_
              refine WC.seq ?_
              refine WC.region ?_
              refine W.any (.move rfl) rfl rfl rfl ?_
              refine W.any (.not rfl) rfl rfl rfl ?_
              refine W.nil ?_
              refine E.thenN ?_
              refine WC.condT rfl ?_
              refine WC.seq ?_
              refine WC.region ?_
              refine W.any (.move rfl) rfl rfl rfl ?_
              refine W.any (.move rfl) rfl rfl rfl ?_
              refine W.rdg (Any.rd (.move rfl) _) rfl rfl rfl (rfl) rfl rfl ?_
              refine W.rdg (Any.rd (.dec (.eql rfl rfl) (decide_eq_true (by rw [hly] <;> rfl))) _) rfl rfl rfl (rfl) rfl rfl ?_
              refine W.any (.pickT rfl rfl rfl) rfl rfl rfl ?_
              refine W.any (.move rfl) rfl rfl rfl ?_
              refine W.rdg (Any.rd (.move rfl) _) rfl rfl rfl (rfl) rfl rfl ?_
              refine W.rdg (Any.rd (.dec (.eql rfl rfl) (decide_eq_true (by rw [hly] <;> rfl))) _) rfl rfl rfl (rfl) rfl rfl ?_
              refine W.any (.pickT rfl rfl rfl) rfl rfl rfl ?_
              refine W.any (.move rfl) rfl rfl rfl ?_
              refine W.rdg (Any.rd (.move rfl) _) rfl rfl rfl (rfl) rfl rfl ?_
              refine W.rdg (.len Try.underlying24 rfl) rfl rfl rfl (rfl) rfl rfl ?_
              refine W.rdg (Any.rd (.dec (.eql rfl rfl) (decide_eq_true (by have : n4 = 0 := hn4.symm; omega))) _) rfl rfl rfl (rfl) rfl rfl ?_
              refine W.any (.pickT rfl rfl rfl) rfl rfl rfl ?_
              refine W.any (.assign rfl) rfl rfl rfl ?_
              refine W.nil ?_
              refine E.thenN ?_
              refine WC.ret ?_
              refine E.thenR ?_
              refine E.ret1 rfl rfl ?_
              exact ⟨rfl, L5_5⟩
end Go.Proofs.Ytpmjdiccekkadaa
