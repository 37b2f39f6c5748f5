/- The statements FaultSteps and FaultSpoiled walked: they answer true and leave old memory as it was. -/
import Derived.Test.YtpmjdiccekkadaaLaw32
namespace Go.Proofs.Ytpmjdiccekkadaa
open Go Go.Sx Go.Hsp
set_option maxRecDepth 20000
theorem FaultSteps_ok (key r : List Byte) (hk : key.length = 32) {Ar : Option Addr} {nr cr : Nat} {many : Int} (w : World) (hS : Sb w Ar nr r) (hnr : nr ≤ 9223372036854775807) (hh : -9223372036854775808 ≤ many ∧ many ≤ 9223372036854775807) : Calls Try.prog 7 #[.agg (key.map u8v).toArray, .slice Ar nr cr, .int .i64 many] w fun e w' => e = .returned (.bool true) ∧ Le w w' := by
  refine enter Try.func7 rfl rfl ?_
  have L0 := Le.refl w
  refine WC.seq ?_
  refine WC.region ?_
  refine W.ef rfl rfl rfl ?_
  refine Ef.boxA rfl ?_
  intro g0_0 w0_0 hg0_0 b0_0 h0_0
  have L0_0 := L0.trans h0_0
  refine W.any (.assign rfl) rfl rfl rfl ?_
  refine W.nil ?_
  refine E.thenN ?_
  refine WC.seq ?_
  refine WC.region ?_
  refine W.ef rfl rfl rfl ?_
  refine Ef.call go15 rfl rfl (small_ok w0_0) ?_
  rintro _ w1_0 ⟨rfl, h1_0⟩
  refine ⟨_, rfl, ?_⟩
  have L1_0 := L0_0.trans h1_0
  refine W.any (.assign rfl) rfl rfl rfl ?_
  refine W.nil ?_
  refine E.thenN ?_
  refine WC.seq ?_
  refine WC.region ?_
  refine W.rd (.loadAll ag23 (by simp [hk]) rfl (b0_0.le h1_0)) rfl rfl rfl ?_
  refine W.any (.move rfl) rfl rfl rfl ?_
  refine W.ef rfl rfl rfl ?_
  refine Ef.call go16 rfl rfl (make_ok key r hk w1_0 (hS.le L1_0)) ?_
  rintro _ w2_2 ⟨A2_2, n2_2, c2_2, rfl, s2_2, k2_2, h2_2⟩
  refine ⟨_, rfl, ?_⟩
  have L2_2 := L1_0.trans h2_2
  refine W.any (.move rfl) rfl rfl rfl ?_
  refine W.any (.extract rfl rfl) rfl rfl rfl ?_
  refine W.any (.extract rfl rfl) rfl rfl rfl ?_
  refine W.any (.assign rfl) rfl rfl rfl ?_
  refine W.any (.assign rfl) rfl rfl rfl ?_
  refine W.nil ?_
  refine E.thenN ?_
  refine WC.seq ?_
  refine WC.seq ?_
  refine WC.region ?_
  refine W.any (.move rfl) rfl rfl rfl ?_
  refine W.rd (.len Try.underlying24 rfl) rfl rfl rfl ?_
  by_cases q1 : 55 < nr
  · refine W.any (.dec (.gtr rfl rfl) (decide_eq_true (by omega))) rfl rfl rfl ?_
    refine W.any (.move rfl) rfl rfl rfl ?_
    refine W.skip rfl rfl rfl (rfl) rfl rfl ?_
    refine W.skip rfl rfl rfl (rfl) rfl rfl ?_
    refine W.any (.pickT rfl rfl rfl) rfl rfl rfl ?_
    refine W.any (.move rfl) rfl rfl rfl ?_
    refine W.skip rfl rfl rfl (rfl) rfl rfl ?_
    refine W.skip rfl rfl rfl (rfl) rfl rfl ?_
    refine W.any (.pickT rfl rfl rfl) rfl rfl rfl ?_
    refine W.nil ?_
    refine E.thenN ?_
    refine WC.condT rfl ?_
    refine WC.seq ?_
    refine WC.region ?_
    have hm : makeB key r = ([], 1) := by rw [makeB, if_neg (by have := hS.len; omega)]
    have hl0 := s2_2.len
    rw [hm] at hl0
    refine W.any (.move rfl) rfl rfl rfl ?_
    refine W.any (.move rfl) rfl rfl rfl ?_
    refine W.rdg (Any.rd (.move rfl) _) rfl rfl rfl (rfl) rfl rfl ?_
    refine W.rdg (.len Try.underlying24 rfl) rfl rfl rfl (rfl) rfl rfl ?_
    refine W.rdg (Any.rd (.dec (.leq rfl rfl) (decide_eq_false (by omega))) _) rfl rfl rfl (rfl) rfl rfl ?_
    refine W.rdg (Any.rd (.move rfl) _) rfl rfl rfl (rfl) rfl rfl ?_
    refine W.rdg (Any.rd (.move rfl) _) rfl rfl rfl (rfl) rfl rfl ?_
    refine W.rdg (Any.rd (.dec (.eql rfl rfl) (decide_eq_true (by rw [hm]))) _) rfl rfl rfl (rfl) rfl rfl ?_
    refine W.rdg (Any.rd (.move rfl) _) rfl rfl rfl (rfl) rfl rfl ?_
    refine W.rdg (Any.rd (.move rfl) _) rfl rfl rfl (rfl) rfl rfl ?_
    refine W.rdg (.len Try.underlying24 rfl) rfl rfl rfl (rfl) rfl rfl ?_
    refine W.rdg (Any.rd (.dec (.eql rfl rfl) (decide_eq_true (by have : n2_2 = 0 := hl0.symm; omega))) _) rfl rfl rfl (rfl) rfl rfl ?_
    refine W.rdg (Any.rd (.pickT rfl rfl rfl) _) rfl rfl rfl (rfl) rfl rfl ?_
    refine W.rdg (Any.rd (.pickF rfl rfl rfl) _) rfl rfl rfl (rfl) rfl rfl ?_
    refine W.any (.pickT rfl rfl rfl) rfl rfl rfl ?_
    refine W.any (.assign rfl) rfl rfl rfl ?_
    refine W.nil ?_
    refine E.thenN ?_
    refine WC.ret ?_
    refine E.thenR ?_
    refine E.ret1 rfl rfl ?_
    exact ⟨rfl, L2_2⟩
  · refine W.any (.dec (.gtr rfl rfl) (decide_eq_false (by omega))) rfl rfl rfl ?_
    refine W.any (.move rfl) rfl rfl rfl ?_
    refine W.rdg (Any.rd (.move rfl) _) rfl rfl rfl (rfl) rfl rfl ?_
    by_cases q2 : many < 0
    · refine W.rdg (Any.rd (.dec (.lss rfl rfl) (decide_eq_true (by omega))) _) rfl rfl rfl (rfl) rfl rfl ?_
      refine W.any (.pickF rfl rfl rfl) rfl rfl rfl ?_
      refine W.any (.move rfl) rfl rfl rfl ?_
      refine W.skip rfl rfl rfl (rfl) rfl rfl ?_
      refine W.skip rfl rfl rfl (rfl) rfl rfl ?_
      refine W.any (.pickT rfl rfl rfl) rfl rfl rfl ?_
      refine W.nil ?_
      refine E.thenN ?_
      refine WC.condT rfl ?_
      refine WC.seq ?_
      refine WC.region ?_
      refine W.any (.move rfl) rfl rfl rfl ?_
      refine W.any (.move rfl) rfl rfl rfl ?_
      refine W.rdg (Any.rd (.move rfl) _) rfl rfl rfl (rfl) rfl rfl ?_
      refine W.rdg (.len Try.underlying24 rfl) rfl rfl rfl (rfl) rfl rfl ?_
      refine W.rdg (Any.rd (.dec (.leq rfl rfl) (decide_eq_true (by omega))) _) rfl rfl rfl (rfl) rfl rfl ?_
      refine W.rdg (Any.rd (.move rfl) _) rfl rfl rfl (rfl) rfl rfl ?_
      refine W.skip rfl rfl rfl (rfl) rfl rfl ?_
      refine W.skip rfl rfl rfl (rfl) rfl rfl ?_
      refine W.skip rfl rfl rfl (rfl) rfl rfl ?_
      refine W.skipu rfl rfl rfl rfl rfl ?_
      refine W.skipu rfl rfl rfl rfl rfl ?_
      refine W.skipu rfl rfl rfl rfl rfl ?_
      refine W.skip rfl rfl rfl (rfl) rfl rfl ?_
      refine W.rdg (Any.rd (.pickT rfl rfl rfl) _) rfl rfl rfl (rfl) rfl rfl ?_
      refine W.any (.pickT rfl rfl rfl) rfl rfl rfl ?_
      refine W.any (.assign rfl) rfl rfl rfl ?_
      refine W.nil ?_
      refine E.thenN ?_
      refine WC.ret ?_
      refine E.thenR ?_
      refine E.ret1 rfl rfl ?_
      exact ⟨rfl, L2_2⟩
    · refine W.rdg (Any.rd (.dec (.lss rfl rfl) (decide_eq_false (by omega))) _) rfl rfl rfl (rfl) rfl rfl ?_
      refine W.any (.pickF rfl rfl rfl) rfl rfl rfl ?_
      refine W.any (.move rfl) rfl rfl rfl ?_
      refine W.rdg (Any.rd (.move rfl) _) rfl rfl rfl (rfl) rfl rfl ?_
      by_cases q3 : 20 < many
      · refine W.rdg (Any.rd (.dec (.gtr rfl rfl) (decide_eq_true (by omega))) _) rfl rfl rfl (rfl) rfl rfl ?_
        refine W.any (.pickF rfl rfl rfl) rfl rfl rfl ?_
        refine W.nil ?_
        refine E.thenN ?_
        refine WC.condT rfl ?_
        refine WC.seq ?_
        refine WC.region ?_
        refine W.any (.move rfl) rfl rfl rfl ?_
        refine W.any (.move rfl) rfl rfl rfl ?_
        refine W.rdg (Any.rd (.move rfl) _) rfl rfl rfl (rfl) rfl rfl ?_
        refine W.rdg (.len Try.underlying24 rfl) rfl rfl rfl (rfl) rfl rfl ?_
        refine W.rdg (Any.rd (.dec (.leq rfl rfl) (decide_eq_true (by omega))) _) rfl rfl rfl (rfl) rfl rfl ?_
        refine W.rdg (Any.rd (.move rfl) _) rfl rfl rfl (rfl) rfl rfl ?_
        refine W.skip rfl rfl rfl (rfl) rfl rfl ?_
        refine W.skip rfl rfl rfl (rfl) rfl rfl ?_
        refine W.skip rfl rfl rfl (rfl) rfl rfl ?_
        refine W.skipu rfl rfl rfl rfl rfl ?_
        refine W.skipu rfl rfl rfl rfl rfl ?_
        refine W.skipu rfl rfl rfl rfl rfl ?_
        refine W.skip rfl rfl rfl (rfl) rfl rfl ?_
        refine W.rdg (Any.rd (.pickT rfl rfl rfl) _) rfl rfl rfl (rfl) rfl rfl ?_
        refine W.any (.pickT rfl rfl rfl) rfl rfl rfl ?_
        refine W.any (.assign rfl) rfl rfl rfl ?_
        refine W.nil ?_
        refine E.thenN ?_
        refine WC.ret ?_
        refine E.thenR ?_
        refine E.ret1 rfl rfl ?_
        exact ⟨rfl, L2_2⟩
      · refine W.rdg (Any.rd (.dec (.gtr rfl rfl) (decide_eq_false (by omega))) _) rfl rfl rfl (rfl) rfl rfl ?_
        refine W.any (.pickF rfl rfl rfl) rfl rfl rfl ?_
        refine W.nil ?_
        refine E.thenN ?_
        refine WC.condF rfl ?_
        refine WC.skip ?_
        refine E.thenN ?_
        refine WC.seq ?_
        refine WC.seq ?_
        refine WC.region ?_
        obtain ⟨m, rfl⟩ : ∃ m : Nat, many = m := ⟨many.toNat, by omega⟩
        have hm : makeB key r = (sealB (byB key) (rowB r), 0) := by rw [makeB, if_pos (by have := hS.len; omega)]
        have hl0 := s2_2.len
        have hl1 : (makeB key r).1.length = 64 := by rw [hm]; show (sealB _ _).length = _; rw [sealB_length, rowB_length r (by have := hS.len; omega)]
        refine W.any (.assign rfl) rfl rfl rfl ?_
        refine W.nil ?_
        refine E.thenN ?_
        refine WC.block ?_
        refine WC.loop (ι := Nat × Option Addr × Nat × Nat × List Byte) (fun ⟨i, Al, nl, cl, q⟩ => [(2, .int .i64 (m : Int)), (3, .pointer (some ⟨g0_0, 0, none⟩)), (7, .bool true), (8, .slice Al nl cl), (9, .int .i64 (makeB key r).2), (10, .int .i64 (i : Int))]) (fun ⟨i, Al, nl, cl, q⟩ wl => i ≤ m ∧ Le w0_0 wl ∧ Sb wl Al nl q ∧ nl ≤ cl ∧ nl = 64 + 8 * min i 7) (fun ⟨i, Al, nl, cl, q⟩ => m - i) (0, A2_2, n2_2, c2_2, (makeB key r).1) ?_ ?_ ?_
        · exact .cons rfl (.cons rfl (.cons rfl (.cons rfl (.cons rfl (.cons rfl (.nil _))))))
        · exact ⟨Nat.zero_le _, h1_0.trans h2_2, s2_2, k2_2, by omega⟩
        · rintro ⟨i, Al, nl, cl, q⟩ wl ⟨hi, Ll, hb, hcl, hnl⟩
          refine WC.seq ?_
          refine WC.seq ?_
          refine WC.region ?_
          refine W.any (.move rfl) rfl rfl rfl ?_
          refine W.any (.move rfl) rfl rfl rfl ?_
          refine W.any (.lss rfl rfl) rfl rfl rfl ?_
          refine W.nil ?_
          refine E.thenN ?_
          refine WC.cond rfl (fun c1 => ?_) (fun c1 => ?_)
          · refine WC.skip ?_
            refine E.thenN ?_
            refine WC.seq ?_
            refine WC.block ?_
            refine WC.seq ?_
            refine WC.region ?_
            refine W.rd (.loadAll ag23 (by simp [hk]) rfl (b0_0.le Ll)) rfl rfl rfl ?_
            refine W.any (.move rfl) rfl rfl rfl ?_
            refine W.ef rfl rfl rfl ?_
            refine Ef.call go18 rfl rfl (add_ok key q hk wl hb (by omega)) ?_
            rintro _ w8_2 ⟨A8_2, n8_2, c8_2, rfl, s8_2, k8_2, h8_2⟩
            refine ⟨_, rfl, ?_⟩
            have L8_2 := (L0_0.trans Ll).trans h8_2
            have hql := hb.len
            have hal := s8_2.len
            refine W.any (.move rfl) rfl rfl rfl ?_
            refine W.any (.extract rfl rfl) rfl rfl rfl ?_
            refine W.any (.extract rfl rfl) rfl rfl rfl ?_
            refine W.any (.assign rfl) rfl rfl rfl ?_
            refine W.any (.assign rfl) rfl rfl rfl ?_
            refine W.nil ?_
            refine E.thenN ?_
            refine WC.seq ?_
            refine WC.seq ?_
            refine WC.region ?_
            refine W.any (.move rfl) rfl rfl rfl ?_
            refine W.any (.geq rfl rfl) rfl rfl rfl ?_
            refine W.nil ?_
            refine E.thenN ?_
            refine WC.cond rfl (fun c2 => ?_) (fun c2 => ?_)
            · have hz : addB key q = ([], 2) := by rw [addB, stepB_of q.length 7 (by omega) (by omega), if_neg (by omega)]
              rw [hz] at hal
              have hn0 : n8_2 = 0 := hal.symm
              refine WC.seq ?_
              refine WC.seq ?_
              refine WC.region ?_
              refine W.any (.move rfl) rfl rfl rfl ?_
              refine W.any (.dec (.neq rfl rfl) (decide_eq_false (fun h => h (by rw [hz])))) rfl rfl rfl ?_
              refine W.any (.move rfl) rfl rfl rfl ?_
              refine W.rdg (Any.rd (.move rfl) _) rfl rfl rfl (rfl) rfl rfl ?_
              refine W.rdg (.len Try.underlying24 rfl) rfl rfl rfl (rfl) rfl rfl ?_
              refine W.rdg (Any.rd (.dec (.neq rfl rfl) (decide_eq_false (by omega))) _) rfl rfl rfl (rfl) rfl rfl ?_
              refine W.any (.pickF rfl rfl rfl) rfl rfl rfl ?_
              refine W.nil ?_
              refine E.thenN ?_
              refine WC.condF rfl ?_
              refine WC.skip ?_
              refine E.thenN ?_
              refine WC.exit ?_
              refine E.thenX ?_
              refine E.blkH ?_
              refine E.thenN ?_
              refine WC.region ?_
              refine W.any (.move rfl) rfl rfl rfl ?_
              refine W.any (.add rfl rfl (by omega)) rfl rfl rfl ?_
              refine W.any (.assign rfl) rfl rfl rfl ?_
              refine W.nil ?_
              refine E.again (i + 1, Al, nl, cl, q) (.cons rfl (.cons rfl (.cons rfl (.cons rfl (.cons rfl (.cons rfl (.nil _))))))) ?_ ?_
              · exact ⟨by omega, Ll.trans h8_2, hb.le h8_2, hcl, by omega⟩
              · first | omega | (simp only []; omega)
            · have hz := addB_of key q i (by omega) (by omega)
              have hz2 : (addB key q).2 = 0 := by rw [hz]
              have hlen := addB_len key q hz2
              refine WC.skip ?_
              refine E.thenN ?_
              refine WC.seq ?_
              refine WC.seq ?_
              refine WC.region ?_
              refine W.any (.move rfl) rfl rfl rfl ?_
              refine W.any (.dec (.neq rfl rfl) (decide_eq_false (fun h => h hz2))) rfl rfl rfl ?_
              refine W.any (.move rfl) rfl rfl rfl ?_
              refine W.rdg (Any.rd (.move rfl) _) rfl rfl rfl (rfl) rfl rfl ?_
              refine W.rdg (.len Try.underlying24 rfl) rfl rfl rfl (rfl) rfl rfl ?_
              refine W.rdg (Any.rd (.move rfl) _) rfl rfl rfl (rfl) rfl rfl ?_
              refine W.rdg (Any.rd (.mul rfl rfl (by omega)) _) rfl rfl rfl (rfl) rfl rfl ?_
              refine W.rdg (Any.rd (.add rfl rfl (by omega)) _) rfl rfl rfl (rfl) rfl rfl ?_
              refine W.rdg (Any.rd (.dec (.neq rfl rfl) (decide_eq_false (by omega))) _) rfl rfl rfl (rfl) rfl rfl ?_
              refine W.any (.pickF rfl rfl rfl) rfl rfl rfl ?_
              refine W.nil ?_
              refine E.thenN ?_
              refine WC.condF rfl ?_
              refine WC.skip ?_
              refine E.thenN ?_
              refine WC.region ?_
              refine W.any (.move rfl) rfl rfl rfl ?_
              refine W.any (.assign rfl) rfl rfl rfl ?_
              refine W.nil ?_
              refine E.blkN ?_
              refine E.thenN ?_
              refine WC.region ?_
              refine W.any (.move rfl) rfl rfl rfl ?_
              refine W.any (.add rfl rfl (by omega)) rfl rfl rfl ?_
              refine W.any (.assign rfl) rfl rfl rfl ?_
              refine W.nil ?_
              refine E.again (i + 1, A8_2, n8_2, c8_2, (addB key q).1) (.cons rfl (.cons rfl (.cons rfl (.cons rfl (.cons rfl (.cons rfl (.nil _))))))) ?_ ?_
              · exact ⟨by omega, Ll.trans h8_2, s8_2, k8_2, by omega⟩
              · first | omega | (simp only []; omega)
          · refine WC.exit ?_
            refine E.thenX ?_
            refine E.thenX ?_
            refine E.blkH ?_
            refine E.thenN ?_
            refine WC.seq ?_
            refine WC.region ?_
            refine W.any (.move rfl) rfl rfl rfl ?_
            refine W.any (.move rfl) rfl rfl rfl ?_
            refine W.rdg (Any.rd (.move rfl) _) rfl rfl rfl (rfl) rfl rfl ?_
            refine W.rdg (Any.rd (.dec (.eql rfl rfl) (decide_eq_true (by rw [hm]))) _) rfl rfl rfl (rfl) rfl rfl ?_
            refine W.any (.pickT rfl rfl rfl) rfl rfl rfl ?_
            refine W.any (.assign rfl) rfl rfl rfl ?_
            refine W.nil ?_
            refine E.thenN ?_
            refine WC.ret ?_
            refine E.ret1 rfl rfl ?_
            exact ⟨rfl, (L0_0.trans Ll)⟩

theorem back_ok2 {A Ap : Option Addr} {nk ck n c h : Nat} {keys : List (List Byte)} {p : List Byte} (w : World) (hK : Ks w 32 A nk keys) (hS : Sb w Ap n p) (hn : n ≤ 1000000) (hc : n ≤ c) (hh : h < nk) (h9 : h < 1000) : Calls Try.prog 23 #[.slice A nk ck, .int .i64 (h : Int), .slice Ap n c] w fun e w' => ∃ A' k c', e = .returned (.tuple #[.slice A' k c', .bool (backB keys (h + 1) p).2]) ∧ Sb w' A' k (backB keys (h + 1) p).1 ∧ k ≤ c' ∧ Le w w' := by
  have := back_ok (h := h + 1) (ck := ck) w hK hS hn hc hh (by omega)
  rwa [show ((h + 1 : Nat) : Int) - 1 = (h : Int) by omega] at this
theorem spoiled (keys : List (List Byte)) (h : Nat) (p : List Byte) (hb : (backB keys (h + 1) p).2 = true) :
    (backB keys (h + 1) p).1.length ≤ 128 ∧ (((readB keys (backB keys (h + 1) p).1).2.2 = 2 ∧ (readB keys (backB keys (h + 1) p).1).1 = 0 ∧ (readB keys (backB keys (h + 1) p).1).2.1 = []) ∨
    (h < (readB keys (backB keys (h + 1) p).1).1 ∧ ((readB keys (backB keys (h + 1) p).1).2.2 = 0 ∨ (readB keys (backB keys (h + 1) p).1).2.1 = []))) := by
  obtain ⟨e, h0 | ⟨s, hs, h7⟩⟩ := backB_ok keys (h + 1) p hb
  · omega
  · rw [e]
    have hl : (wrapF keys 0 (h + 1) p).length = 64 + 8 * (s + (h + 1)) := by rw [wrapF_length, hs]; omega
    refine ⟨by omega, ?_⟩
    have hst := stepB_of _ (s + (h + 1)) hl h7
    rw [readB, hst]
    split
    · exact .inl ⟨rfl, rfl, rfl⟩
    · have hu := unw_wrapF keys (h + 1) (s + 1) 0 p
      rw [show ((s + (h + 1) : Nat) : Int).toNat + 1 = h + 1 + (s + 1) by omega, hu, Nat.zero_add]
      have hle := unw_le keys (s + 1) (h + 1) p
      right
      split
      · exact ⟨by show h < (unw keys (s + 1) (h + 1) p).1; omega, .inr rfl⟩
      · rw [readRow]
        split
        · exact ⟨by show h < ((s + (h + 1) : Nat) : Int).toNat; omega, .inl rfl⟩
        · exact ⟨by show h < ((s + (h + 1) : Nat) : Int).toNat; omega, .inr rfl⟩

theorem FaultSpoiled_ok {A Ap : Option Addr} {nk ck n c : Nat} {sp : Int} {keys : List (List Byte)} {p : List Byte} (w : World) (hK : Ks w 32 A nk keys) (hS : Sb w Ap n p) (hc : n ≤ c) (hnk : nk ≤ 9223372036854775807) (hnr : n ≤ 9223372036854775807) (hh : -9223372036854775808 ≤ sp ∧ sp ≤ 9223372036854775807) : Calls Try.prog 5 #[.slice A nk ck, .int .i64 sp, .slice Ap n c] w fun e w' => e = .returned (.bool true) ∧ Le w w' := by
  refine enter Try.func5 rfl rfl ?_
  have L0 := Le.refl w
  refine WC.seq ?_
  refine WC.region ?_
  refine W.any (.assign rfl) rfl rfl rfl ?_
  refine W.nil ?_
  refine E.thenN ?_
  refine WC.seq ?_
  refine WC.region ?_
  refine W.ef rfl rfl rfl ?_
  refine Ef.call go15 rfl rfl (small_ok w) ?_
  rintro _ w1_0 ⟨rfl, h1_0⟩
  refine ⟨_, rfl, ?_⟩
  have L1_0 := L0.trans h1_0
  refine W.any (.assign rfl) rfl rfl rfl ?_
  refine W.nil ?_
  refine E.thenN ?_
  refine WC.seq ?_
  refine WC.seq ?_
  refine WC.region ?_
  refine W.any (.move rfl) rfl rfl rfl ?_
  refine W.rd (.len Try.underlying25 rfl) rfl rfl rfl ?_
  by_cases q1 : 8 < nk
  · refine W.any (.dec (.gtr rfl rfl) (decide_eq_true (by omega))) rfl rfl rfl ?_
    refine W.any (.move rfl) rfl rfl rfl ?_
    refine W.skip rfl rfl rfl (rfl) rfl rfl ?_
    refine W.skip rfl rfl rfl (rfl) rfl rfl ?_
    refine W.any (.pickT rfl rfl rfl) rfl rfl rfl ?_
    refine W.any (.move rfl) rfl rfl rfl ?_
    refine W.skip rfl rfl rfl (rfl) rfl rfl ?_
    refine W.skip rfl rfl rfl (rfl) rfl rfl ?_
    refine W.skip rfl rfl rfl (rfl) rfl rfl ?_
    refine W.skip rfl rfl rfl (rfl) rfl rfl ?_
    refine W.any (.pickT rfl rfl rfl) rfl rfl rfl ?_
    refine W.any (.move rfl) rfl rfl rfl ?_
    refine W.skip rfl rfl rfl (rfl) rfl rfl ?_
    refine W.skip rfl rfl rfl (rfl) rfl rfl ?_
    refine W.skip rfl rfl rfl (rfl) rfl rfl ?_
    refine W.any (.pickT rfl rfl rfl) rfl rfl rfl ?_
    refine W.nil ?_
    refine E.thenN ?_
    refine WC.condT rfl ?_
    refine WC.seq ?_
    refine WC.region ?_
    refine W.any (.move rfl) rfl rfl rfl ?_
    refine W.any (.assign rfl) rfl rfl rfl ?_
    refine W.nil ?_
    refine E.thenN ?_
    refine WC.ret ?_
    refine E.thenR ?_
    refine E.ret1 rfl rfl ?_
    exact ⟨rfl, L1_0⟩
  · refine W.any (.dec (.gtr rfl rfl) (decide_eq_false (by omega))) rfl rfl rfl ?_
    refine W.any (.move rfl) rfl rfl rfl ?_
    refine W.rdg (Any.rd (.move rfl) _) rfl rfl rfl (rfl) rfl rfl ?_
    by_cases q2 : sp < 0
    · refine W.rdg (Any.rd (.dec (.lss rfl rfl) (decide_eq_true (by omega))) _) rfl rfl rfl (rfl) rfl rfl ?_
      refine W.any (.pickF rfl rfl rfl) rfl rfl rfl ?_
      refine W.any (.move rfl) rfl rfl rfl ?_
      refine W.skip rfl rfl rfl (rfl) rfl rfl ?_
      refine W.skip rfl rfl rfl (rfl) rfl rfl ?_
      refine W.skip rfl rfl rfl (rfl) rfl rfl ?_
      refine W.skip rfl rfl rfl (rfl) rfl rfl ?_
      refine W.any (.pickT rfl rfl rfl) rfl rfl rfl ?_
      refine W.any (.move rfl) rfl rfl rfl ?_
      refine W.skip rfl rfl rfl (rfl) rfl rfl ?_
      refine W.skip rfl rfl rfl (rfl) rfl rfl ?_
      refine W.skip rfl rfl rfl (rfl) rfl rfl ?_
      refine W.any (.pickT rfl rfl rfl) rfl rfl rfl ?_
      refine W.nil ?_
      refine E.thenN ?_
      refine WC.condT rfl ?_
      refine WC.seq ?_
      refine WC.region ?_
      refine W.any (.move rfl) rfl rfl rfl ?_
      refine W.any (.assign rfl) rfl rfl rfl ?_
      refine W.nil ?_
      refine E.thenN ?_
      refine WC.ret ?_
      refine E.thenR ?_
      refine E.ret1 rfl rfl ?_
      exact ⟨rfl, L1_0⟩
    · refine W.rdg (Any.rd (.dec (.lss rfl rfl) (decide_eq_false (by omega))) _) rfl rfl rfl (rfl) rfl rfl ?_
      refine W.any (.pickF rfl rfl rfl) rfl rfl rfl ?_
      refine W.any (.move rfl) rfl rfl rfl ?_
      refine W.rdg (Any.rd (.move rfl) _) rfl rfl rfl (rfl) rfl rfl ?_
      refine W.rdg (Any.rd (.move rfl) _) rfl rfl rfl (rfl) rfl rfl ?_
      refine W.rdg (.len Try.underlying25 rfl) rfl rfl rfl (rfl) rfl rfl ?_
      by_cases q3 : (nk : Int) ≤ sp
      · refine W.rdg (Any.rd (.dec (.geq rfl rfl) (decide_eq_true (by omega))) _) rfl rfl rfl (rfl) rfl rfl ?_
        refine W.any (.pickF rfl rfl rfl) rfl rfl rfl ?_
        refine W.any (.move rfl) rfl rfl rfl ?_
        refine W.skip rfl rfl rfl (rfl) rfl rfl ?_
        refine W.skip rfl rfl rfl (rfl) rfl rfl ?_
        refine W.skip rfl rfl rfl (rfl) rfl rfl ?_
        refine W.any (.pickT rfl rfl rfl) rfl rfl rfl ?_
        refine W.nil ?_
        refine E.thenN ?_
        refine WC.condT rfl ?_
        refine WC.seq ?_
        refine WC.region ?_
        refine W.any (.move rfl) rfl rfl rfl ?_
        refine W.any (.assign rfl) rfl rfl rfl ?_
        refine W.nil ?_
        refine E.thenN ?_
        refine WC.ret ?_
        refine E.thenR ?_
        refine E.ret1 rfl rfl ?_
        exact ⟨rfl, L1_0⟩
      · refine W.rdg (Any.rd (.dec (.geq rfl rfl) (decide_eq_false (by omega))) _) rfl rfl rfl (rfl) rfl rfl ?_
        refine W.any (.pickF rfl rfl rfl) rfl rfl rfl ?_
        refine W.any (.move rfl) rfl rfl rfl ?_
        refine W.rdg (Any.rd (.move rfl) _) rfl rfl rfl (rfl) rfl rfl ?_
        refine W.rdg (.len Try.underlying24 rfl) rfl rfl rfl (rfl) rfl rfl ?_
        by_cases q4 : 300 < n
        · refine W.rdg (Any.rd (.dec (.gtr rfl rfl) (decide_eq_true (by omega))) _) rfl rfl rfl (rfl) rfl rfl ?_
          refine W.any (.pickF rfl rfl rfl) rfl rfl rfl ?_
          refine W.nil ?_
          refine E.thenN ?_
          refine WC.condT rfl ?_
          refine WC.seq ?_
          refine WC.region ?_
          refine W.any (.move rfl) rfl rfl rfl ?_
          refine W.any (.assign rfl) rfl rfl rfl ?_
          refine W.nil ?_
          refine E.thenN ?_
          refine WC.ret ?_
          refine E.thenR ?_
          refine E.ret1 rfl rfl ?_
          exact ⟨rfl, L1_0⟩
        · refine W.rdg (Any.rd (.dec (.gtr rfl rfl) (decide_eq_false (by omega))) _) rfl rfl rfl (rfl) rfl rfl ?_
          refine W.any (.pickF rfl rfl rfl) rfl rfl rfl ?_
          refine W.nil ?_
          refine E.thenN ?_
          refine WC.condF rfl ?_
          refine WC.skip ?_
          refine E.thenN ?_
          refine WC.seq ?_
          refine WC.region ?_
          obtain ⟨h, rfl⟩ : ∃ h : Nat, sp = h := ⟨sp.toNat, by omega⟩
          refine W.any (.move rfl) rfl rfl rfl ?_
          refine W.any (.move rfl) rfl rfl rfl ?_
          refine W.any (.move rfl) rfl rfl rfl ?_
          refine W.ef rfl rfl rfl ?_
          refine Ef.call go23 rfl rfl (back_ok2 (h := h) w1_0 (hK.le L1_0) (hS.le L1_0) (by omega) hc (by omega) (by omega)) ?_
          rintro _ w4_3 ⟨A4_3, n4_3, c4_3, rfl, s4_3, k4_3, h4_3⟩
          refine ⟨_, rfl, ?_⟩
          have L4_3 := L1_0.trans h4_3
          refine W.any (.move rfl) rfl rfl rfl ?_
          refine W.any (.extract rfl rfl) rfl rfl rfl ?_
          refine W.any (.extract rfl rfl) rfl rfl rfl ?_
          refine W.any (.assign rfl) rfl rfl rfl ?_
          refine W.any (.assign rfl) rfl rfl rfl ?_
          refine W.nil ?_
          refine E.thenN ?_
          refine WC.seq ?_
          refine WC.seq ?_
          refine WC.region ?_
          by_cases hb : (backB keys (h + 1) p).2 = true
          · refine W.any (.dec (.move rfl) (hb)) rfl rfl rfl ?_
            refine W.any (.not rfl) rfl rfl rfl ?_
            refine W.nil ?_
            refine E.thenN ?_
            refine WC.condF rfl ?_
            refine WC.skip ?_
            refine E.thenN ?_
            refine WC.seq ?_
            refine WC.region ?_
            obtain ⟨g1, g2⟩ := spoiled keys h p hb
            refine W.any (.move rfl) rfl rfl rfl ?_
            refine W.any (.move rfl) rfl rfl rfl ?_
            refine W.ef rfl rfl rfl ?_
            refine Ef.call go20 rfl rfl (read_ok w4_3 (hK.le L4_3) s4_3 (by rw [← s4_3.len]; omega) k4_3) ?_
            rintro _ w7_2 ⟨A7, n7, c7, rfl, s7, h7_2⟩
            refine ⟨_, rfl, ?_⟩
            have L7_2 := L4_3.trans h7_2
            have hn7 := s7.len
            refine W.any (.move rfl) rfl rfl rfl ?_
            refine W.any (.extract rfl rfl) rfl rfl rfl ?_
            refine W.any (.extract rfl rfl) rfl rfl rfl ?_
            refine W.any (.extract rfl rfl) rfl rfl rfl ?_
            refine W.any (.assign rfl) rfl rfl rfl ?_
            refine W.any (.assign rfl) rfl rfl rfl ?_
            refine W.any (.assign rfl) rfl rfl rfl ?_
            refine W.nil ?_
            refine E.thenN ?_
            refine WC.seq ?_
            refine WC.seq ?_
            refine WC.region ?_
            refine W.any (.move rfl) rfl rfl rfl ?_
            by_cases qa : (readB keys (backB keys (h + 1) p).1).2.2 = 2
            · refine W.any (.dec (.eql rfl rfl) (decide_eq_true (by omega))) rfl rfl rfl ?_
              refine W.any (.move rfl) rfl rfl rfl ?_
              refine W.rdg (Any.rd (.move rfl) _) rfl rfl rfl (rfl) rfl rfl ?_
              by_cases qb : (readB keys (backB keys (h + 1) p).1).1 = 0
              · refine W.rdg (Any.rd (.dec (.eql rfl rfl) (decide_eq_true (by omega))) _) rfl rfl rfl (rfl) rfl rfl ?_
                refine W.any (.pickT rfl rfl rfl) rfl rfl rfl ?_
                refine W.nil ?_
                refine E.thenN ?_
                refine WC.condT rfl ?_
                refine WC.seq ?_
                refine WC.region ?_
                refine W.any (.move rfl) rfl rfl rfl ?_
                refine W.any (.move rfl) rfl rfl rfl ?_
                refine W.rdg (Any.rd (.move rfl) _) rfl rfl rfl (rfl) rfl rfl ?_
                refine W.rdg (.len Try.underlying24 rfl) rfl rfl rfl (rfl) rfl rfl ?_
                refine W.rdg (Any.rd (.dec (.eql rfl rfl) (decide_eq_true (by rcases g2 with ⟨_, _, g⟩ | ⟨g, _⟩ <;> first | omega | (rw [g] at hn7; simp at hn7; omega)))) _) rfl rfl rfl (rfl) rfl rfl ?_
                refine W.any (.pickT rfl rfl rfl) rfl rfl rfl ?_
                refine W.any (.assign rfl) rfl rfl rfl ?_
                refine W.nil ?_
                refine E.thenN ?_
                refine WC.ret ?_
                refine E.thenR ?_
                refine E.ret1 rfl rfl ?_
                exact ⟨rfl, L7_2⟩
              · refine W.rdg (Any.rd (.dec (.eql rfl rfl) (decide_eq_false (by omega))) _) rfl rfl rfl (rfl) rfl rfl ?_
                refine W.any (.pickT rfl rfl rfl) rfl rfl rfl ?_
                refine W.nil ?_
                refine E.thenN ?_
                refine WC.condF rfl ?_
                refine WC.skip ?_
                refine E.thenN ?_
                refine WC.seq ?_
                refine WC.region ?_
                refine W.any (.move rfl) rfl rfl rfl ?_
                refine W.any (.move rfl) rfl rfl rfl ?_
                refine W.rdg (Any.rd (.move rfl) _) rfl rfl rfl (rfl) rfl rfl ?_
                refine W.rdg (Any.rd (.move rfl) _) rfl rfl rfl (rfl) rfl rfl ?_
                refine W.rdg (Any.rd (.dec (.gtr rfl rfl) (decide_eq_true (by rcases g2 with ⟨g, g', _⟩ | ⟨g, _⟩ <;> omega))) _) rfl rfl rfl (rfl) rfl rfl ?_
                refine W.any (.pickT rfl rfl rfl) rfl rfl rfl ?_
                refine W.any (.move rfl) rfl rfl rfl ?_
                refine W.rdg (Any.rd (.move rfl) _) rfl rfl rfl (rfl) rfl rfl ?_
                by_cases qc : (readB keys (backB keys (h + 1) p).1).2.2 = 0
                · refine W.rdg (Any.rd (.dec (.eql rfl rfl) (decide_eq_true (by omega))) _) rfl rfl rfl (rfl) rfl rfl ?_
                  refine W.rdg (Any.rd (.move rfl) _) rfl rfl rfl (rfl) rfl rfl ?_
                  refine W.skip rfl rfl rfl (rfl) rfl rfl ?_
                  refine W.skip rfl rfl rfl (rfl) rfl rfl ?_
                  refine W.skip rfl rfl rfl (rfl) rfl rfl ?_
                  refine W.rdg (Any.rd (.pickT rfl rfl rfl) _) rfl rfl rfl (rfl) rfl rfl ?_
                  refine W.any (.pickT rfl rfl rfl) rfl rfl rfl ?_
                  refine W.any (.assign rfl) rfl rfl rfl ?_
                  refine W.nil ?_
                  refine E.thenN ?_
                  refine WC.ret ?_
                  refine E.ret1 rfl rfl ?_
                  exact ⟨rfl, L7_2⟩
                · refine W.rdg (Any.rd (.dec (.eql rfl rfl) (decide_eq_false (by omega))) _) rfl rfl rfl (rfl) rfl rfl ?_
                  refine W.rdg (Any.rd (.move rfl) _) rfl rfl rfl (rfl) rfl rfl ?_
                  refine W.rdg (Any.rd (.move rfl) _) rfl rfl rfl (rfl) rfl rfl ?_
                  refine W.rdg (.len Try.underlying24 rfl) rfl rfl rfl (rfl) rfl rfl ?_
                  refine W.rdg (Any.rd (.dec (.eql rfl rfl) (decide_eq_true (by rcases g2 with ⟨_, _, g⟩ | ⟨_, g | g⟩ <;> first | exact absurd g qc | (rw [g] at hn7; simp at hn7; omega)))) _) rfl rfl rfl (rfl) rfl rfl ?_
                  refine W.rdg (Any.rd (.pickF rfl rfl rfl) _) rfl rfl rfl (rfl) rfl rfl ?_
                  refine W.any (.pickT rfl rfl rfl) rfl rfl rfl ?_
                  refine W.any (.assign rfl) rfl rfl rfl ?_
                  refine W.nil ?_
                  refine E.thenN ?_
                  refine WC.ret ?_
                  refine E.ret1 rfl rfl ?_
                  exact ⟨rfl, L7_2⟩
            · refine W.any (.dec (.eql rfl rfl) (decide_eq_false (by omega))) rfl rfl rfl ?_
              refine W.any (.move rfl) rfl rfl rfl ?_
              refine W.skip rfl rfl rfl (rfl) rfl rfl ?_
              refine W.skip rfl rfl rfl (rfl) rfl rfl ?_
              refine W.any (.pickF rfl rfl rfl) rfl rfl rfl ?_
              refine W.nil ?_
              refine E.thenN ?_
              refine WC.condF rfl ?_
              refine WC.skip ?_
              refine E.thenN ?_
              refine WC.seq ?_
              refine WC.region ?_
              refine W.any (.move rfl) rfl rfl rfl ?_
              refine W.any (.move rfl) rfl rfl rfl ?_
              refine W.rdg (Any.rd (.move rfl) _) rfl rfl rfl (rfl) rfl rfl ?_
              refine W.rdg (Any.rd (.move rfl) _) rfl rfl rfl (rfl) rfl rfl ?_
              refine W.rdg (Any.rd (.dec (.gtr rfl rfl) (decide_eq_true (by rcases g2 with ⟨g, g', _⟩ | ⟨g, _⟩ <;> omega))) _) rfl rfl rfl (rfl) rfl rfl ?_
              refine W.any (.pickT rfl rfl rfl) rfl rfl rfl ?_
              refine W.any (.move rfl) rfl rfl rfl ?_
              refine W.rdg (Any.rd (.move rfl) _) rfl rfl rfl (rfl) rfl rfl ?_
              by_cases qc : (readB keys (backB keys (h + 1) p).1).2.2 = 0
              · refine W.rdg (Any.rd (.dec (.eql rfl rfl) (decide_eq_true (by omega))) _) rfl rfl rfl (rfl) rfl rfl ?_
                refine W.rdg (Any.rd (.move rfl) _) rfl rfl rfl (rfl) rfl rfl ?_
                refine W.skip rfl rfl rfl (rfl) rfl rfl ?_
                refine W.skip rfl rfl rfl (rfl) rfl rfl ?_
                refine W.skip rfl rfl rfl (rfl) rfl rfl ?_
                refine W.rdg (Any.rd (.pickT rfl rfl rfl) _) rfl rfl rfl (rfl) rfl rfl ?_
                refine W.any (.pickT rfl rfl rfl) rfl rfl rfl ?_
                refine W.any (.assign rfl) rfl rfl rfl ?_
                refine W.nil ?_
                refine E.thenN ?_
                refine WC.ret ?_
                refine E.ret1 rfl rfl ?_
                exact ⟨rfl, L7_2⟩
              · refine W.rdg (Any.rd (.dec (.eql rfl rfl) (decide_eq_false (by omega))) _) rfl rfl rfl (rfl) rfl rfl ?_
                refine W.rdg (Any.rd (.move rfl) _) rfl rfl rfl (rfl) rfl rfl ?_
                refine W.rdg (Any.rd (.move rfl) _) rfl rfl rfl (rfl) rfl rfl ?_
                refine W.rdg (.len Try.underlying24 rfl) rfl rfl rfl (rfl) rfl rfl ?_
                refine W.rdg (Any.rd (.dec (.eql rfl rfl) (decide_eq_true (by rcases g2 with ⟨_, _, g⟩ | ⟨_, g | g⟩ <;> first | exact absurd g qc | (rw [g] at hn7; simp at hn7; omega)))) _) rfl rfl rfl (rfl) rfl rfl ?_
                refine W.rdg (Any.rd (.pickF rfl rfl rfl) _) rfl rfl rfl (rfl) rfl rfl ?_
                refine W.any (.pickT rfl rfl rfl) rfl rfl rfl ?_
                refine W.any (.assign rfl) rfl rfl rfl ?_
                refine W.nil ?_
                refine E.thenN ?_
                refine WC.ret ?_
                refine E.ret1 rfl rfl ?_
                exact ⟨rfl, L7_2⟩
          · refine W.any (.dec (.move rfl) (by simpa using hb)) rfl rfl rfl ?_
            refine W.any (.not rfl) rfl rfl rfl ?_
            refine W.nil ?_
            refine E.thenN ?_
            refine WC.condT rfl ?_
            refine WC.seq ?_
            refine WC.region ?_
            refine W.any (.move rfl) rfl rfl rfl ?_
            refine W.any (.assign rfl) rfl rfl rfl ?_
            refine W.nil ?_
            refine E.thenN ?_
            refine WC.ret ?_
            refine E.thenR ?_
            refine E.ret1 rfl rfl ?_
            exact ⟨rfl, L4_3⟩
end Go.Proofs.Ytpmjdiccekkadaa
