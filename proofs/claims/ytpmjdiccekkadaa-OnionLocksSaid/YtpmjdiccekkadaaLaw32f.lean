/- The statement FaultOnion walked: it answers true and leaves old memory as it was. -/
import Derived.Test.YtpmjdiccekkadaaLaw32b
import Derived.Test.YtpmjdiccekkadaaWrap
import Derived.Test.YtpmjdiccekkadaaEqh
import Derived.Test.YtpmjdiccekkadaaOsp3
namespace Go.Proofs.Ytpmjdiccekkadaa
open Go Go.Sx Go.Hsp Go.Num Go.Osp
set_option maxRecDepth 20000
def ownF (k : Nat) : Nat := 1 + k % 2305843009213688668
def hopF (i : Nat) : Hop := ((i : Int), 0, 5, 9, 4, 0)
def hopsF (n : Nat) : List Hop := (List.range (n - 1)).map hopF ++ [(-1, 0, 5, 9, 4, 0)]
theorem ownF_ok (ks : List Nat) : ∀ k ∈ ks.map ownF, k ≠ 0 ∧ k < q := fun k hk => by
  obtain ⟨x, _, rfl⟩ := List.mem_map.1 hk
  have := Nat.mod_lt x (show 0 < 2305843009213688668 by decide)
  refine ⟨by unfold ownF; omega, ?_⟩
  show 1 + x % 2305843009213688668 < 2305843009213688669
  omega
theorem hopsF_length (n : Nat) (h : 1 ≤ n) : (hopsF n).length = n := by simp [hopsF]; omega
theorem hopsF_at (n i : Nat) (h : i < n) : (hopsF n).getD i noHop = (if i + 1 = n then (-1, 0, 5, 9, 4, 0) else hopF i) := by
  unfold hopsF
  rw [List.getD_eq_getElem?_getD]
  split
  · rename_i he
    rw [List.getElem?_append_right (by simp; omega)]
    simp [show i - (n - 1) = 0 by omega]
  · rename_i he
    rw [List.getElem?_append_left (by simp; omega)]
    simp [show i < n - 1 by omega]
theorem hopsF_ok (n : Nat) (pts : List Nat) (hl : pts.length = n) (h1 : 1 ≤ n) (h8 : n ≤ 8) : hopsOk pts (hopsF n) = true := by
  refine hopsOk_yes pts (hopsF n) (by rw [hopsF_length n h1, hl]) (fun i hi => ?_)
  rw [hopsF_length n h1] at hi ⊢
  rw [hopsF_at n i hi]
  have h4 : right 4 = true := right_four
  split
  · rename_i he
    have : mayB (-1, 0, 5, 9, 4, 0) = true := by simp [mayB, h4, q_pos]
    rw [this, Bool.true_and]
    exact decide_eq_true (decide_eq_decide.2 ⟨fun _ => he, fun _ => by decide⟩)
  · rename_i he
    have : mayB (hopF i) = true := by simp [mayB, hopF, h4, q_pos]; omega
    rw [this, Bool.true_and]
    exact decide_eq_true (decide_eq_decide.2 ⟨fun h => absurd h (by show ¬ ((i : Int) < 0); omega), fun h => absurd h he⟩)
theorem hopsF_wf (n : Nat) (h8 : n ≤ 8) : ∀ h ∈ hopsF n, HopOk h := fun h hh => by
  simp only [hopsF, List.mem_append, List.mem_map, List.mem_range, List.mem_singleton] at hh
  rcases hh with ⟨i, hi, rfl⟩ | rfl
  · exact ⟨by show I64 (i : Int); unfold I64; omega, by show I64 0; unfold I64; omega, by show I64 5; unfold I64; omega, by show I64 9; unfold I64; omega, by show 4 < _; decide, by show 0 < _; decide⟩
  · exact ⟨by show I64 (-1); unfold I64; omega, by show I64 0; unfold I64; omega, by show I64 5; unfold I64; omega, by show I64 9; unfold I64; omega, by show 4 < _; decide, by show 0 < _; decide⟩
theorem rowsF_len (k : Nat) : (((List.range k).map fun i => hopV (hopF i)).flatten).length = k * 6 := by
  rw [flat_length (k := 6) _ (fun r hr => by obtain ⟨i, _, rfl⟩ := List.mem_map.1 hr; rfl)]; simp
theorem rowsF_set (n : Nat) (h1 : 1 ≤ n) : (((List.range n).map fun i => hopV (hopF i)).flatten).set ((n - 1) * 6) (.int .i64 (-1)) = ((hopsF n).map hopV).flatten := by
  obtain ⟨m, rfl⟩ : ∃ m, n = m + 1 := ⟨n - 1, by omega⟩
  rw [List.range_succ, List.map_append, List.flatten_append, List.set_append_right _ _ (by rw [rowsF_len]; simp), rowsF_len]
  simp only [hopsF, Nat.add_sub_cancel, Nat.sub_self, List.map_append, List.flatten_append, List.map_map]
  rfl
theorem rowsF_snoc (k : Nat) : ((List.range (k + 1)).map fun i => hopV (hopF i)).flatten = ((List.range k).map fun i => hopV (hopF i)).flatten ++ hopV (hopF k) := by
  rw [List.range_succ, List.map_append, List.flatten_append]; simp
theorem ks_own {w : World} {base e : Nat} {A : Option Addr} {n c : Nat} {ks : List (List Byte)} (h : Sx.Own w base e 32 A n c ((ks.map fun q => q.map u8v).flatten)) (hl : ks.length = n) (h32 : ∀ q ∈ ks, q.length = 32) : Ks w 32 A n ks := ⟨hl, h32, h.sl⟩
theorem wrap_T (seed : List Byte) (hse : seed.length = 32) {A Ah : Option Addr} {n c nh ch : Nat} {ks : List Nat} {hs : List Hop} (w : World) (hK : Sl w 1 A n (ks.map pv)) (hks : ∀ k ∈ ks, k < 18446744073709551616) (hn : n ≤ 1000000) (hH : Rws w 6 Ah nh (hs.map hopV)) (hhs : ∀ h ∈ hs, HopOk h) (hnh : nh ≤ 1000000) (hok : (keysOk ks && hopsOk ks hs) = true) :
    Calls Try.prog 27 #[.slice A n c, .slice Ah nh ch, .agg (seed.map u8v).toArray] w fun e w' => ∃ A' c', e = .returned (.tuple #[.slice A' 680 c', .int .i64 0]) ∧ Sx.Own w' w.heap.size 5 1 A' 680 c' ((wrapB ks hs seed).map u8v) ∧ Le w w' :=
  (wrap_ok seed hse w hK hks hn hH hhs hnh).mono fun e w' ⟨hl, h⟩ => by
    rcases h with ⟨_, A', c', rfl, ho⟩ | ⟨h, _⟩
    · exact ⟨A', c', rfl, ho, hl⟩
    · rw [hok] at h; cases h

set_option maxHeartbeats 4000000 in
theorem FaultOnion_ok {A Ar : Option Addr} {n c nr cr : Nat} {hop : Int} {ks : List Nat} {seed r : List Byte} (hse : seed.length = 32) (w : World) (hK : Sl w 1 A n (ks.map pv)) (hS : Sb w Ar nr r) (hnk : n ≤ 9223372036854775807) (hnr : nr ≤ 9223372036854775807) (hh : -9223372036854775808 ≤ hop ∧ hop ≤ 9223372036854775807) : Calls Try.prog 14 #[.slice A n c, .agg (seed.map u8v).toArray, .int .i64 hop, .slice Ar nr cr] w fun e w' => e = .returned (.bool true) ∧ Le w w' := by
  refine enter Try.func14 rfl rfl ?_
  have L0 := Le.refl w
  refine WC.seq ?_
  refine WC.region ?_
  refine W.ef rfl rfl rfl ?_
  refine Ef.boxA rfl ?_
  intro g0_0 w0_0 hg0_0 b0_0 h0_0
  have L0_0 := L0.trans h0_0
  have LL := Le.refl w0_0
  have hK := hK.le h0_0
  have hS := hS.le h0_0
  refine W.any (.assign rfl) rfl rfl rfl ?_
  refine W.nil ?_
  refine E.thenN ?_
  refine WC.seq ?_
  refine WC.region ?_
  refine W.ef rfl rfl rfl ?_
  refine Ef.call go15 rfl rfl (small_ok w0_0) ?_
  rintro _ w1_0 ⟨rfl, h1_0⟩
  refine ⟨_, rfl, ?_⟩
  have L1_0 := LL.trans h1_0
  refine W.any (.assign rfl) rfl rfl rfl ?_
  refine W.nil ?_
  refine E.thenN ?_
  refine WC.seq ?_
  refine WC.seq ?_
  refine WC.region ?_
  refine W.any (.move rfl) rfl rfl rfl ?_
  refine W.rd (.len Try.underlying55 rfl) rfl rfl rfl ?_
  by_cases q1 : n < 1
  · refine W.any (.dec (.lss rfl rfl) (decide_eq_true (by omega))) rfl rfl rfl ?_
    refine W.any (.move rfl) rfl rfl rfl ?_
    refine W.skip rfl rfl rfl (rfl) rfl rfl ?_
    refine W.skip rfl rfl rfl (rfl) rfl rfl ?_
    refine W.skip rfl rfl rfl (rfl) rfl rfl ?_
    refine W.any (.pickT rfl rfl rfl) rfl rfl rfl ?_
    refine W.any (.move rfl) rfl rfl rfl ?_
    refine W.skip rfl rfl rfl (rfl) rfl rfl ?_
    refine W.skip rfl rfl rfl (rfl) rfl rfl ?_
    refine W.any (.pickT rfl rfl rfl) rfl rfl rfl ?_
    refine W.any (.move rfl) rfl rfl rfl ?_
    refine W.skip rfl rfl rfl (rfl) rfl rfl ?_
    refine W.skip rfl rfl rfl (rfl) rfl rfl ?_
    refine W.skip rfl rfl rfl (rfl) rfl rfl ?_
    refine W.skip rfl rfl rfl (rfl) rfl rfl ?_
    refine W.any (.pickT rfl rfl rfl) rfl rfl rfl ?_
    refine W.any (.move rfl) rfl rfl rfl ?_
    refine W.skip rfl rfl rfl (rfl) rfl rfl ?_
    refine W.skip rfl rfl rfl (rfl) rfl rfl ?_
    refine W.skip rfl rfl rfl (rfl) rfl rfl ?_
    refine W.any (.pickT rfl rfl rfl) rfl rfl rfl ?_
    refine W.nil ?_
    refine E.thenN ?_
    refine WC.condT rfl ?_
    refine WC.seq ?_
    refine WC.region ?_
    refine W.any (.move rfl) rfl rfl rfl ?_
    refine W.any (.assign rfl) rfl rfl rfl ?_
    refine W.nil ?_
    refine E.thenN ?_
    refine WC.ret ?_
    refine E.thenR ?_
    refine E.ret1 rfl rfl ?_
    exact ⟨rfl, h0_0.trans L1_0⟩
  · refine W.any (.dec (.lss rfl rfl) (decide_eq_false (by omega))) rfl rfl rfl ?_
    refine W.any (.move rfl) rfl rfl rfl ?_
    refine W.rdg (Any.rd (.move rfl) _) rfl rfl rfl (rfl) rfl rfl ?_
    refine W.rdg (.len Try.underlying55 rfl) rfl rfl rfl (rfl) rfl rfl ?_
    by_cases q2 : 8 < n
    · refine W.rdg (Any.rd (.dec (.gtr rfl rfl) (decide_eq_true (by omega))) _) rfl rfl rfl (rfl) rfl rfl ?_
      refine W.any (.pickF rfl rfl rfl) rfl rfl rfl ?_
      refine W.any (.move rfl) rfl rfl rfl ?_
      refine W.skip rfl rfl rfl (rfl) rfl rfl ?_
      refine W.skip rfl rfl rfl (rfl) rfl rfl ?_
      refine W.any (.pickT rfl rfl rfl) rfl rfl rfl ?_
      refine W.any (.move rfl) rfl rfl rfl ?_
      refine W.skip rfl rfl rfl (rfl) rfl rfl ?_
      refine W.skip rfl rfl rfl (rfl) rfl rfl ?_
      refine W.skip rfl rfl rfl (rfl) rfl rfl ?_
      refine W.skip rfl rfl rfl (rfl) rfl rfl ?_
      refine W.any (.pickT rfl rfl rfl) rfl rfl rfl ?_
      refine W.any (.move rfl) rfl rfl rfl ?_
      refine W.skip rfl rfl rfl (rfl) rfl rfl ?_
      refine W.skip rfl rfl rfl (rfl) rfl rfl ?_
      refine W.skip rfl rfl rfl (rfl) rfl rfl ?_
      refine W.any (.pickT rfl rfl rfl) rfl rfl rfl ?_
      refine W.nil ?_
      refine E.thenN ?_
      refine WC.condT rfl ?_
      refine WC.seq ?_
      refine WC.region ?_
      refine W.any (.move rfl) rfl rfl rfl ?_
      refine W.any (.assign rfl) rfl rfl rfl ?_
      refine W.nil ?_
      refine E.thenN ?_
      refine WC.ret ?_
      refine E.thenR ?_
      refine E.ret1 rfl rfl ?_
      exact ⟨rfl, h0_0.trans L1_0⟩
    · refine W.rdg (Any.rd (.dec (.gtr rfl rfl) (decide_eq_false (by omega))) _) rfl rfl rfl (rfl) rfl rfl ?_
      refine W.any (.pickF rfl rfl rfl) rfl rfl rfl ?_
      refine W.any (.move rfl) rfl rfl rfl ?_
      refine W.rdg (Any.rd (.move rfl) _) rfl rfl rfl (rfl) rfl rfl ?_
      by_cases q3 : hop < 0
      · refine W.rdg (Any.rd (.dec (.lss rfl rfl) (decide_eq_true (by omega))) _) rfl rfl rfl (rfl) rfl rfl ?_
        refine W.any (.pickF rfl rfl rfl) rfl rfl rfl ?_
        refine W.any (.move rfl) rfl rfl rfl ?_
        refine W.skip rfl rfl rfl (rfl) rfl rfl ?_
        refine W.skip rfl rfl rfl (rfl) rfl rfl ?_
        refine W.skip rfl rfl rfl (rfl) rfl rfl ?_
        refine W.skip rfl rfl rfl (rfl) rfl rfl ?_
        refine W.any (.pickT rfl rfl rfl) rfl rfl rfl ?_
        refine W.any (.move rfl) rfl rfl rfl ?_
        refine W.skip rfl rfl rfl (rfl) rfl rfl ?_
        refine W.skip rfl rfl rfl (rfl) rfl rfl ?_
        refine W.skip rfl rfl rfl (rfl) rfl rfl ?_
        refine W.any (.pickT rfl rfl rfl) rfl rfl rfl ?_
        refine W.nil ?_
        refine E.thenN ?_
        refine WC.condT rfl ?_
        refine WC.seq ?_
        refine WC.region ?_
        refine W.any (.move rfl) rfl rfl rfl ?_
        refine W.any (.assign rfl) rfl rfl rfl ?_
        refine W.nil ?_
        refine E.thenN ?_
        refine WC.ret ?_
        refine E.thenR ?_
        refine E.ret1 rfl rfl ?_
        exact ⟨rfl, h0_0.trans L1_0⟩
      · refine W.rdg (Any.rd (.dec (.lss rfl rfl) (decide_eq_false (by omega))) _) rfl rfl rfl (rfl) rfl rfl ?_
        refine W.any (.pickF rfl rfl rfl) rfl rfl rfl ?_
        refine W.any (.move rfl) rfl rfl rfl ?_
        refine W.rdg (Any.rd (.move rfl) _) rfl rfl rfl (rfl) rfl rfl ?_
        refine W.rdg (Any.rd (.move rfl) _) rfl rfl rfl (rfl) rfl rfl ?_
        refine W.rdg (.len Try.underlying55 rfl) rfl rfl rfl (rfl) rfl rfl ?_
        by_cases q4 : (n : Int) ≤ hop
        · refine W.rdg (Any.rd (.dec (.geq rfl rfl) (decide_eq_true (by omega))) _) rfl rfl rfl (rfl) rfl rfl ?_
          refine W.any (.pickF rfl rfl rfl) rfl rfl rfl ?_
          refine W.any (.move rfl) rfl rfl rfl ?_
          refine W.skip rfl rfl rfl (rfl) rfl rfl ?_
          refine W.skip rfl rfl rfl (rfl) rfl rfl ?_
          refine W.skip rfl rfl rfl (rfl) rfl rfl ?_
          refine W.any (.pickT rfl rfl rfl) rfl rfl rfl ?_
          refine W.nil ?_
          refine E.thenN ?_
          refine WC.condT rfl ?_
          refine WC.seq ?_
          refine WC.region ?_
          refine W.any (.move rfl) rfl rfl rfl ?_
          refine W.any (.assign rfl) rfl rfl rfl ?_
          refine W.nil ?_
          refine E.thenN ?_
          refine WC.ret ?_
          refine E.thenR ?_
          refine E.ret1 rfl rfl ?_
          exact ⟨rfl, h0_0.trans L1_0⟩
        · refine W.rdg (Any.rd (.dec (.geq rfl rfl) (decide_eq_false (by omega))) _) rfl rfl rfl (rfl) rfl rfl ?_
          refine W.any (.pickF rfl rfl rfl) rfl rfl rfl ?_
          refine W.any (.move rfl) rfl rfl rfl ?_
          refine W.rdg (Any.rd (.move rfl) _) rfl rfl rfl (rfl) rfl rfl ?_
          refine W.rdg (.len Try.underlying24 rfl) rfl rfl rfl (rfl) rfl rfl ?_
          by_cases q5 : 55 < nr
          · refine W.rdg (Any.rd (.dec (.gtr rfl rfl) (decide_eq_true (by omega))) _) rfl rfl rfl (rfl) rfl rfl ?_
            refine W.any (.pickF rfl rfl rfl) rfl rfl rfl ?_
            refine W.nil ?_
            refine E.thenN ?_
            refine WC.condT rfl ?_
            refine WC.seq ?_
            refine WC.region ?_
            refine W.any (.move rfl) rfl rfl rfl ?_
            refine W.any (.assign rfl) rfl rfl rfl ?_
            refine W.nil ?_
            refine E.thenN ?_
            refine WC.ret ?_
            refine E.thenR ?_
            refine E.ret1 rfl rfl ?_
            exact ⟨rfl, h0_0.trans L1_0⟩
          · refine W.rdg (Any.rd (.dec (.gtr rfl rfl) (decide_eq_false (by omega))) _) rfl rfl rfl (rfl) rfl rfl ?_
            refine W.any (.pickF rfl rfl rfl) rfl rfl rfl ?_
            refine W.nil ?_
            refine E.thenN ?_
            refine WC.condF rfl ?_
            refine WC.skip ?_
            refine E.thenN ?_
            refine WC.seq ?_
            refine WC.region ?_
            obtain ⟨h, rfl⟩ : ∃ h : Nat, hop = h := ⟨hop.toNat, by omega⟩
            have hkl := hK.1
            rw [List.length_map, Nat.mul_one] at hkl
            have hrl := hS.len
            obtain ⟨own, hown⟩ : ∃ own, own = ks.map ownF := ⟨_, rfl⟩
            have hol : own.length = n := by rw [hown, List.length_map, hkl]
            refine W.any (.assign rfl) rfl rfl rfl ?_
            refine W.nil ?_
            refine E.thenN ?_
            refine WC.seq ?_
            refine WC.region ?_
            refine W.any (.assign rfl) rfl rfl rfl ?_
            refine W.nil ?_
            refine E.thenN ?_
            refine WC.seq ?_
            refine WC.region ?_
            refine W.any (.assign rfl) rfl rfl rfl ?_
            refine W.nil ?_
            refine E.thenN ?_
            refine WC.seq ?_
            refine WC.seq ?_
            refine WC.region ?_
            refine W.any (.assign rfl) rfl rfl rfl ?_
            refine W.nil ?_
            refine E.thenN ?_
            refine WC.block ?_
            refine WC.loop (ι := Nat × Option Addr × Nat × Option Addr × Nat × Option Addr × Nat) (fun ⟨k, Ao, co, Ap, cp, Ah, ch⟩ => [(0, .slice A n c), (2, .int .i64 (h : Int)), (3, .slice Ar nr cr), (5, .pointer (some ⟨g0_0, 0, none⟩)), (9, .bool true), (10, .slice Ao k co), (11, .slice Ap k cp), (12, .slice Ah k ch), (13, .int .i64 (k : Int))]) (fun ⟨k, Ao, co, Ap, cp, Ah, ch⟩ wl => k ≤ n ∧ Le w0_0 wl ∧ Sx.Own wl w0_0.heap.size 48 1 Ao k co ((own.take k).map pv) ∧ Sx.Own wl w0_0.heap.size 49 1 Ap k cp (((own.take k).map base).map pv) ∧ Sx.Own wl w0_0.heap.size 51 6 Ah k ch ((List.range k).map fun i => hopV (hopF i)).flatten ∧ Blk wl g0_0 23 (seed.map u8v).toArray ∧ Apart Ao co Ap cp ∧ Apart Ao co Ah ch ∧ Apart Ap cp Ah ch) (fun ⟨k, Ao, co, Ap, cp, Ah, ch⟩ => n - k) (0, none, 0, none, 0, none, 0) ?_ ?_ ?_
            · exact .cons rfl (.cons rfl (.cons rfl (.cons rfl (.cons rfl (.cons rfl (.cons rfl (.cons rfl (.cons rfl (.nil _)))))))))
            · exact ⟨Nat.zero_le _, L1_0, Own.nil _ _ _ _ _, Own.nil _ _ _ _ _, Own.nil _ _ _ _ _, b0_0.le h1_0, Apart.zero _ _ _, Apart.zero _ _ _, Apart.zero _ _ _⟩
            · rintro ⟨k, Ao, co, Ap, cp, Ah, ch⟩ wl ⟨hk, Ll, oo, op, oh, bs, a1, a2, a3⟩
              refine WC.seq ?_
              refine WC.seq ?_
              refine WC.region ?_
              refine W.any (.move rfl) rfl rfl rfl ?_
              refine W.any (.move rfl) rfl rfl rfl ?_
              refine W.rd (.len Try.underlying55 rfl) rfl rfl rfl ?_
              refine W.any (.lss rfl rfl) rfl rfl rfl ?_
              refine W.nil ?_
              refine E.thenN ?_
              refine WC.cond rfl (fun c1 => ?_) (fun c1 => ?_)
              · have hx := getn ks (show k < ks.length by omega)
                have hox : own[k]? = some (ownF (ks.getD k 0)) := by rw [hown, List.getElem?_map, hx]; rfl
                have hxl := Nat.mod_lt (ks.getD k 0) (show 0 < 2305843009213688668 by decide)
                refine WC.skip ?_
                refine E.thenN ?_
                refine WC.seq ?_
                refine WC.block ?_
                refine WC.seq ?_
                refine WC.region ?_
                refine W.any (.move rfl) rfl rfl rfl ?_
                refine W.any (.move rfl) rfl rfl rfl ?_
                refine W.any (.move rfl) rfl rfl rfl ?_
                refine W.any (.idxS1 (k) Try.underlying55 sz48 rfl rfl (hK.isSome (j := k) (by omega) (by decide)) (rfl) (by omega)) rfl rfl rfl ?_
                refine W.rd (.loadS na48 rfl (hK.le Ll) (getp ks (by omega))) rfl rfl rfl ?_
                refine W.any (.remN (ks.getD k 0) (2305843009213688668) (ks.getD k 0 % 2305843009213688668) rfl rfl rfl rfl (by decide) (rfl)) rfl rfl rfl ?_
                refine W.any (.addN (1) (ks.getD k 0 % 2305843009213688668) (ownF (ks.getD k 0)) rfl rfl rfl rfl (Nat.mod_eq_of_lt (by omega))) rfl rfl rfl ?_
                refine W.ef rfl rfl rfl ?_
                refine Ef.buildSlice1 Try.underlying55 el48 rfl rfl ?_
                intro g10_7 w10_7 hg10_7 b10_7 h10_7
                have L10_7 := Ll.trans h10_7
                refine W.ef rfl rfl rfl ?_
                refine Ef.append Try.underlying55 el48 rfl (oo.le h10_7) rfl (b10_7.src1 Try.underlying55 rfl) (by omega) (by unfold maxLen; omega) (L10_7.size) ?_
                intro A10_8 c10_8 w10_8 o10_8 h10_8 at10_8
                have L10_8 : Le w0_0 w10_8 := L10_7.then_ h10_8 (fun q hq => (oo.row hq).1)
                have oo2 : Sx.Own w10_8 w0_0.heap.size 48 1 A10_8 (k + 1) c10_8 ((own.take (k + 1)).map pv) := o10_8.cast rfl (by rw [map_snoc pv own k _ hox]; rfl)
                have op2 := (op.le h10_7).ch h10_8 a1
                have oh2 := (oh.le h10_7).ch h10_8 a2
                have bs2 := (bs.le h10_7).ch h10_8 (fun he => by have := (oo.row he).1; have := b0_0.lt; omega)
                have b1 := a1.step at10_8 (fun q hq => ((op.le h10_7).row hq).2)
                have b2 := a2.step at10_8 (fun q hq => ((oh.le h10_7).row hq).2)
                refine W.any (.assign rfl) rfl rfl rfl ?_
                refine W.nil ?_
                refine E.thenN ?_
                refine WC.seq ?_
                refine WC.region ?_
                refine W.any (.move rfl) rfl rfl rfl ?_
                refine W.any (.move rfl) rfl rfl rfl ?_
                refine W.any (.move rfl) rfl rfl rfl ?_
                refine W.any (.idxS1 (k) Try.underlying55 sz48 rfl rfl (oo2.sl.isSome (j := k) (by omega) (by decide)) (rfl) (by omega)) rfl rfl rfl ?_
                refine W.rd (.loadS na48 rfl (oo2.sl) (by rw [List.getElem?_map, List.getElem?_take, if_pos (by omega), hox]; rfl)) rfl rfl rfl ?_
                refine W.ef rfl rfl rfl ?_
                refine Ef.call go33 rfl rfl (base_ok _ w10_8) ?_
                rintro _ w11_5 ⟨rfl, h11_5⟩
                refine ⟨_, rfl, ?_⟩
                have L11_5 := L10_8.trans h11_5
                refine W.ef rfl rfl rfl ?_
                refine Ef.buildSlice1 Try.underlying41 el49 rfl rfl ?_
                intro g11_6 w11_6 hg11_6 b11_6 h11_6
                have L11_6 := L11_5.trans h11_6
                refine W.ef rfl rfl rfl ?_
                refine Ef.append Try.underlying41 el49 rfl (op2.le (h11_5.trans h11_6)) rfl (b11_6.src1 Try.underlying41 rfl) (by omega) (by unfold maxLen; omega) (L11_6.size) ?_
                intro A11_7 c11_7 w11_7 o11_7 h11_7 at11_7
                have L11_7 : Le w0_0 w11_7 := L11_6.then_ h11_7 (fun q hq => (op.row hq).1)
                have op3a : Sx.Own w11_7 w0_0.heap.size 49 1 A11_7 (k + 1) c11_7 (((own.take (k + 1)).map base).map pv) := o11_7.cast rfl (by rw [map_snoc base own k _ hox, List.map_append]; rfl)
                have oo3a := (oo2.le (h11_5.trans h11_6)).ch h11_7 b1.symm
                have oh3a := (oh2.le (h11_5.trans h11_6)).ch h11_7 a3
                have bs3a := (bs2.le (h11_5.trans h11_6)).ch h11_7 (fun he => by have := (op2.row he).1; have := b0_0.lt; omega)
                have b1 := (b1.symm.step at11_7 (fun q hq => ((oo2.le (h11_5.trans h11_6)).row hq).2)).symm
                have b3 := a3.step at11_7 (fun q hq => ((oh2.le (h11_5.trans h11_6)).row hq).2)
                refine W.any (.assign rfl) rfl rfl rfl ?_
                refine W.nil ?_
                refine E.thenN ?_
                refine WC.region ?_
                refine W.any (.move rfl) rfl rfl rfl ?_
                refine W.any (.move rfl) rfl rfl rfl ?_
                refine W.any (.buildF pl51 z51 rfl (show Instr.fill _ _ _ = some (hopV (hopF k)).toArray from rfl)) rfl rfl rfl ?_
                refine W.ef rfl rfl rfl ?_
                refine Ef.buildSliceA Try.underlying42 el51 (by decide) rfl rfl ?_
                intro g12_3 w12_3 hg12_3 b12_3 h12_3
                have L12_3 := L11_7.trans h12_3
                refine W.ef rfl rfl rfl ?_
                refine Ef.append Try.underlying42 el51 rfl (oh3a.le h12_3) rfl (b12_3.srcA Try.underlying42 rfl (by decide) (hopV_one _)) (by omega) (by unfold maxLen; omega) (L12_3.size) ?_
                intro A12_4 c12_4 w12_4 o12_4 h12_4 at12_4
                have L12_4 : Le w0_0 w12_4 := L12_3.then_ h12_4 (fun q hq => (oh.row hq).1)
                have oo3 := (oo3a.le h12_3).ch h12_4 b2.symm
                have op3 := (op3a.le h12_3).ch h12_4 b3.symm
                have bs3 := (bs3a.le h12_3).ch h12_4 (fun he => by have := (oh2.row he).1; have := b0_0.lt; omega)
                have b2 := (b2.symm.step at12_4 (fun q hq => ((oo3a.le h12_3).row hq).2)).symm
                have b3 := (b3.symm.step at12_4 (fun q hq => ((op3a.le h12_3).row hq).2)).symm
                refine W.any (.assign rfl) rfl rfl rfl ?_
                refine W.nil ?_
                refine E.blkN ?_
                refine E.thenN ?_
                refine WC.region ?_
                refine W.any (.move rfl) rfl rfl rfl ?_
                refine W.any (.add rfl rfl (by omega)) rfl rfl rfl ?_
                refine W.any (.assign rfl) rfl rfl rfl ?_
                refine W.nil ?_
                refine E.again (k + 1, A10_8, c10_8, A11_7, c11_7, A12_4, c12_4) (.cons rfl (.cons rfl (.cons rfl (.cons rfl (.cons rfl (.cons rfl (.cons rfl (.cons rfl (.cons rfl (.nil _)))))))))) ?_ ?_
                · exact ⟨by omega, L12_4, oo3, op3, o12_4.cast rfl (by rw [rowsF_snoc]), bs3, b1, b2, b3⟩
                · first | omega | (simp only []; omega)
              · have hkn : n = k := by omega
                subst hkn
                rw [List.take_of_length_le (by omega)] at oo op
                refine WC.exit ?_
                refine E.thenX ?_
                refine E.thenX ?_
                refine E.blkH ?_
                refine E.thenN ?_
                refine WC.seq ?_
                refine WC.region ?_
                refine W.any (.move rfl) rfl rfl rfl ?_
                refine W.any (.move rfl) rfl rfl rfl ?_
                refine W.rd (.len Try.underlying42 rfl) rfl rfl rfl ?_
                refine W.any (.sub rfl rfl (by omega)) rfl rfl rfl ?_
                obtain ⟨gh, rfl, hgh, hgh2, hghr⟩ := oh.lit (by omega)
                obtain ⟨cu, hcu, hcus, hcut⟩ := oh.block (by omega)
                have hcc := oh.cap
                refine W.any (.idxB (n - 1) Try.underlying42 sz51 rfl rfl (by omega) (by omega)) rfl rfl rfl ?_
                refine W.any (.fieldAddr fa51_0 rfl) rfl rfl rfl ?_
                refine W.ef0 rfl rfl ?_
                refine Ef.store sz3 rfl rfl hcu (by rw [hcus]; omega) rfl ?_
                intro w13_6 b13_6 h13_6
                have L13_6 : Le w0_0 w13_6 := Ll.then_ h13_6 (fun q hq => by cases hq; exact hgh)
                have hidx : 0 + (n - 1) * 6 + 0 = (n - 1) * 6 := by omega
                rw [hidx] at b13_6
                have oh4 : Sx.Own w13_6 w0_0.heap.size 51 6 (some ⟨gh, 0, none⟩) n ch ((hopsF n).map hopV).flatten := ⟨by rw [← rowsF_set n (by omega), List.length_set, rowsF_len], .inr ⟨gh, _, rfl, hgh, b13_6, hcc.1, hcc.2, by rw [Array.size_setIfInBounds, hcus], by rw [Array.toList_setIfInBounds, List.take_set, hcut, rowsF_set n (by omega)]⟩⟩
                have oo4 := oo.ch h13_6 (fun q hq => by cases hq; exact fun he => a2 _ he hghr)
                have op4 := op.ch h13_6 (fun q hq => by cases hq; exact fun he => a3 _ he hghr)
                have bs4 := bs.ch h13_6 (by simp; have := b0_0.lt; omega)
                have hR : Rws w13_6 6 (some ⟨gh, 0, none⟩) n ((hopsF n).map hopV) := oh4.rws (by simp [hopsF_length n (by omega)]) (fun r hr => by obtain ⟨x, _, rfl⟩ := List.mem_map.1 hr; rfl)
                have hwl : (wayB (startX seed) (own.map base)).length = n := by rw [wayB_length, List.length_map, hol]
                have hown1 := ownF_ok ks
                rw [← hown] at hown1
                have hok1 := keysOk_base own hown1 (by omega) (by omega)
                have hok2 := hopsF_ok n (own.map base) (by simp [hol]) (by omega) (by omega)
                have hpk := fun i hi => peel_at own (hopsF n) seed hown1 hok2 (hopsF_wf n (by omega)) (by omega) i hi
                have hpl := fun i hi => pkt_length (own.map base) (hopsF n) seed (by simp [hopsF_length n (show 1 ≤ n by omega), hol]) (by simp; omega) i hi
                have hpts : ∀ k ∈ own.map base, k < 18446744073709551616 := fun k hk => by obtain ⟨x, _, rfl⟩ := List.mem_map.1 hk; exact base_lt x
                have LA := Le.refl w13_6
                have hLA := h0_0.trans L13_6
                refine W.nil ?_
                refine E.thenN ?_
                refine WC.seq ?_
                refine WC.region ?_
                refine W.any (.move rfl) rfl rfl rfl ?_
                refine W.any (.move rfl) rfl rfl rfl ?_
                refine W.rd (.loadAll ag23 (by simp [hse]) rfl (bs4.le LA)) rfl rfl rfl ?_
                refine W.ef rfl rfl rfl ?_
                refine Ef.call go27 rfl rfl (wrap_T seed hse w13_6 op4.sl hpts (by omega) hR (hopsF_wf n (by omega)) (by omega) (by rw [hok1, hok2]; rfl)) ?_
                rintro _ w14_3 ⟨Aw, cw, rfl, ow, h14_3⟩
                refine ⟨_, rfl, ?_⟩
                have L14_3 := LA.trans h14_3
                refine W.any (.move rfl) rfl rfl rfl ?_
                refine W.any (.extract rfl rfl) rfl rfl rfl ?_
                refine W.any (.extract rfl rfl) rfl rfl rfl ?_
                refine W.any (.assign rfl) rfl rfl rfl ?_
                refine W.any (.assign rfl) rfl rfl rfl ?_
                refine W.nil ?_
                refine E.thenN ?_
                refine WC.seq ?_
                refine WC.region ?_
                refine W.any (.move rfl) rfl rfl rfl ?_
                refine W.rd (.loadAll ag23 (by simp [hse]) rfl (bs4.le L14_3)) rfl rfl rfl ?_
                refine W.ef rfl rfl rfl ?_
                refine Ef.call go29 rfl rfl (shared_T seed hse w14_3 (op4.le h14_3).sl hpts (by omega) hok1) ?_
                rintro _ w15_2 ⟨As, cs, rfl, osh, h15_2⟩
                refine ⟨_, rfl, ?_⟩
                have L15_2 := L14_3.trans h15_2
                obtain ⟨sums, hsums⟩ : ∃ sums, sums = (wayB (startX seed) (own.map base)).map Prod.snd := ⟨_, rfl⟩
                rw [← hsums] at osh
                have hsl : sums.length = n := by rw [hsums, List.length_map, hwl]
                have hs32 : ∀ q ∈ sums, q.length = 32 := fun q hq => by rw [hsums] at hq; obtain ⟨s, hs, rfl⟩ := List.mem_map.1 hq; exact wayB_sum _ _ s hs
                have hKs := ks_own osh hsl hs32
                have hsat : ∀ i, i < n → sums[i]? = some (((wayB (startX seed) (own.map base)).getD i (0, [])).2) := fun i hi => by rw [hsums, List.getElem?_map, getst _ (by omega)]; rfl
                have LW := Le.refl w15_2
                have hL2 := hLA.trans L15_2
                have hS := hS.le (L13_6.trans L15_2)
                have oo5 := oo4.le L15_2
                have hR5 := hR.le L15_2
                have ow5 := ow.le h15_2
                have hp0 := pkt_zero (own.map base) (hopsF n) seed (by simp; omega)
                rw [← hp0] at ow5
                refine W.any (.move rfl) rfl rfl rfl ?_
                refine W.any (.extract rfl rfl) rfl rfl rfl ?_
                refine W.any (.extract rfl rfl) rfl rfl rfl ?_
                refine W.any (.assign rfl) rfl rfl rfl ?_
                refine W.any (.assign rfl) rfl rfl rfl ?_
                refine W.nil ?_
                refine E.thenN ?_
                refine WC.seq ?_
                refine WC.seq ?_
                refine WC.region ?_
                refine W.any (.move rfl) rfl rfl rfl ?_
                refine W.any (.dec (.neq rfl rfl) (decide_eq_false (by decide))) rfl rfl rfl ?_
                refine W.any (.move rfl) rfl rfl rfl ?_
                refine W.rdg (Any.rd (.move rfl) _) rfl rfl rfl (rfl) rfl rfl ?_
                refine W.rdg (Any.rd (.dec (.neq rfl rfl) (decide_eq_false (by decide))) _) rfl rfl rfl (rfl) rfl rfl ?_
                refine W.any (.pickF rfl rfl rfl) rfl rfl rfl ?_
                refine W.any (.move rfl) rfl rfl rfl ?_
                refine W.rdg (Any.rd (.move rfl) _) rfl rfl rfl (rfl) rfl rfl ?_
                refine W.rdg (.len Try.underlying25 rfl) rfl rfl rfl (rfl) rfl rfl ?_
                refine W.rdg (Any.rd (.move rfl) _) rfl rfl rfl (rfl) rfl rfl ?_
                refine W.rdg (.len Try.underlying55 rfl) rfl rfl rfl (rfl) rfl rfl ?_
                refine W.rdg (Any.rd (.dec (.neq rfl rfl) (decide_eq_false (by omega))) _) rfl rfl rfl (rfl) rfl rfl ?_
                refine W.any (.pickF rfl rfl rfl) rfl rfl rfl ?_
                refine W.nil ?_
                refine E.thenN ?_
                refine WC.condF rfl ?_
                refine WC.skip ?_
                refine E.thenN ?_
                refine WC.seq ?_
                refine WC.region ?_
                refine W.any (.assign rfl) rfl rfl rfl ?_
                refine W.nil ?_
                refine E.thenN ?_
                refine WC.seq ?_
                refine WC.seq ?_
                refine WC.region ?_
                refine W.any (.assign rfl) rfl rfl rfl ?_
                refine W.nil ?_
                refine E.thenN ?_
                refine WC.block ?_
                refine WC.loop (ι := Nat × Option Addr × Nat × Nat × Option Addr × Nat) (fun ⟨i, Ak, m, ck, Ag, cg⟩ => [(2, .int .i64 (h : Int)), (3, .slice Ar nr cr), (9, .bool true), (10, .slice Ao n co), (12, .slice (some ⟨gh, 0, none⟩) n ch), (14, .slice Ak m ck), (16, .slice As n cs), (18, .slice Ag i cg), (19, .int .i64 (i : Int))]) (fun ⟨i, Ak, m, ck, Ag, cg⟩ wl => i ≤ h + 1 ∧ Le w15_2 wl ∧ Sb wl Ak m (pkt (own.map base) (hopsF n) seed i) ∧ m ≤ ck ∧ Sx.Own wl w15_2.heap.size 23 32 Ag i cg (((sums.take i).map fun q => q.map u8v).flatten)) (fun ⟨i, Ak, m, ck, Ag, cg⟩ => h + 1 - i) (0, Aw, 680, cw, none, 0) ?_ ?_ ?_
                · exact .cons rfl (.cons rfl (.cons rfl (.cons rfl (.cons rfl (.cons rfl (.cons rfl (.cons rfl (.cons rfl (.nil _)))))))))
                · exact ⟨Nat.zero_le _, LW, ow5.sb, ow.cap.1, Own.nil _ _ _ _ _⟩
                · rintro ⟨i, Ak, m, ck, Ag, cg⟩ wl ⟨hi, Ll, sk, hck, og⟩
                  refine WC.seq ?_
                  refine WC.seq ?_
                  refine WC.region ?_
                  refine W.any (.move rfl) rfl rfl rfl ?_
                  refine W.any (.move rfl) rfl rfl rfl ?_
                  refine W.any (.leq rfl rfl) rfl rfl rfl ?_
                  refine W.nil ?_
                  refine E.thenN ?_
                  refine WC.cond rfl (fun c3 => ?_) (fun c3 => ?_)
                  · have hin : i < n := by omega
                    have hoi := getn own (show i < own.length by omega)
                    have hpi := hpk i (by omega)
                    have hol2 : own.getD i 0 < 18446744073709551616 := Nat.lt_trans (hown1 _ (List.mem_of_getElem? hoi)).2 q_lt
                    have hsi := hsat i hin
                    have hq32 := hs32 _ (List.mem_of_getElem? hsi)
                    generalize hqs : ((wayB (startX seed) (own.map base)).getD i (0, [])).2 = qs at *
                    refine WC.skip ?_
                    refine E.thenN ?_
                    refine WC.seq ?_
                    refine WC.block ?_
                    refine WC.seq ?_
                    refine WC.region ?_
                    refine W.any (.move rfl) rfl rfl rfl ?_
                    refine W.any (.move rfl) rfl rfl rfl ?_
                    refine W.any (.idxS1 (i) Try.underlying55 sz48 rfl rfl (oo5.sl.isSome (j := i) (by omega) (by decide)) (rfl) (by omega)) rfl rfl rfl ?_
                    refine W.rd (.loadS na48 rfl (oo5.sl.le Ll) (getp own (by omega))) rfl rfl rfl ?_
                    refine W.any (.move rfl) rfl rfl rfl ?_
                    refine W.ef rfl rfl rfl ?_
                    refine Ef.call go31 rfl rfl (peel_ok _ hol2 wl sk hck) ?_
                    rintro _ w22_5 ⟨A5, m5, c5, e, s5, h22_5⟩
                    rw [hpi] at e s5; subst e
                    refine ⟨_, rfl, ?_⟩
                    have L22_5 := Ll.trans h22_5
                    refine W.any (.move rfl) rfl rfl rfl ?_
                    refine W.any (.extract rfl rfl) rfl rfl rfl ?_
                    refine W.any (.extract rfl rfl) rfl rfl rfl ?_
                    refine W.any (.extract rfl rfl) rfl rfl rfl ?_
                    refine W.any (.extract rfl rfl) rfl rfl rfl ?_
                    refine W.ef rfl rfl rfl ?_
                    refine Ef.allocA z51 ?_
                    intro g22_11 w22_11 hg22_11 b22_11 h22_11
                    have L22_11 := L22_5.trans h22_11
                    refine W.ef rfl rfl rfl ?_
                    refine Ef.allocA z23 ?_
                    intro g22_12 w22_12 hg22_12 b22_12 h22_12
                    have L22_12 := L22_11.trans h22_12
                    refine W.ef0 rfl rfl ?_
                    refine Ef.storeAll sz51 (by rfl) rfl rfl (b22_11.le h22_12) (by rfl) (hopV_one _) ?_
                    intro w22_13 b22_13 h22_13
                    have L22_13 : Le w15_2 w22_13 := L22_12.then_ h22_13 (fun q hq => by cases hq; exact Nat.le_trans L22_5.size hg22_11)
                    refine W.any (.assign rfl) rfl rfl rfl ?_
                    refine W.ef0 rfl rfl ?_
                    refine Ef.storeAll sz23 (by simp [hq32]) rfl rfl (b22_12.ch h22_13 (by simp; have := b22_11.lt; omega)) (by simp [hq32]) (all_u8v _) ?_
                    intro w22_15 b22_15 h22_15
                    have L22_15 : Le w15_2 w22_15 := L22_13.then_ h22_15 (fun q hq => by cases hq; exact Nat.le_trans L22_11.size hg22_12)
                    have bh := b22_13.ch h22_15 (by simp; have := b22_11.lt; omega)
                    have og2 := ((og.le (h22_5.trans (h22_11.trans h22_12))).ch h22_13 (fun q hq => by cases hq; exact fun he => by have := (og.row he).2; have := h22_5.size; omega)).ch h22_15 (fun q hq => by cases hq; exact fun he => by have := (og.row he).2; have := h22_5.size; have := h22_11.size; omega)
                    have LP : Le w22_5 w22_15 := ((h22_11.trans h22_12).then_ h22_13 (fun q hq => by cases hq; exact hg22_11)).then_ h22_15 (fun q hq => by cases hq; exact Nat.le_trans h22_11.size hg22_12)
                    have sp := s5.le LP
                    refine W.any (.assign rfl) rfl rfl rfl ?_
                    refine W.nil ?_
                    refine E.thenN ?_
                    refine WC.seq ?_
                    refine WC.seq ?_
                    refine WC.draw [0, 1, 2, 3, 4, 5, 6, 7, 8, 9] mixed (by kernel_rfl) ?_
                    intro w23 d23
                    have L23 := L22_15.trans d23
                    refine G.any rfl rfl (.move rfl) rfl rfl rfl ?_
                    refine G.any rfl rfl (.dec (.neq rfl rfl) (decide_eq_false (fun h => h rfl))) rfl rfl rfl ?_
                    refine G.any rfl rfl (.move rfl) rfl rfl rfl ?_
                    refine G.rdg rfl rfl (.loadAll ag51 (by rfl) rfl (bh.le d23)) rfl rfl rfl (rfl) rfl rfl ?_
                    refine G.anyg rfl rfl (.move rfl) rfl rfl rfl (rfl) rfl rfl ?_
                    refine G.anyg rfl rfl (.move rfl) rfl rfl rfl (rfl) rfl rfl ?_
                    refine G.anyg rfl rfl (.idxS (i) Try.underlying42 sz51 rfl rfl (rfl) (rfl) (by omega)) rfl rfl rfl (rfl) rfl rfl ?_
                    refine G.rdg rfl rfl (.loadR ag51 rfl (hR5.le L23) (hopRows_at (hopsF n) i (by rw [hopsF_length n (by omega)]; omega)) (by decide)) rfl rfl rfl (rfl) rfl rfl ?_
                    refine G.anyg rfl rfl (.dec (.neA eg51 rfl rfl (eqv_hop (d := 9998) _ _)) (show _ = false from by rw [decide_eq_true rfl]; rfl)) rfl rfl rfl (rfl) rfl rfl ?_
                    refine G.any rfl rfl (.pickF rfl rfl rfl) rfl rfl rfl ?_
                    refine G.nil ?_
                    refine E.thenN ?_
                    refine WC.condF rfl ?_
                    refine WC.skip ?_
                    refine E.thenN ?_
                    refine WC.seq ?_
                    refine WC.region ?_
                    refine W.any (.move rfl) rfl rfl rfl ?_
                    refine W.rd (.loadAll ag23 (by simp [hq32]) rfl (b22_15.le d23)) rfl rfl rfl ?_
                    refine W.ef rfl rfl rfl ?_
                    refine Ef.buildSliceA Try.underlying25 el23 (by decide) rfl (by simp [hq32]) ?_
                    intro g25_2 w25_2 hg25_2 b25_2 h25_2
                    have L25_2 := L23.trans h25_2
                    refine W.ef rfl rfl rfl ?_
                    refine Ef.append Try.underlying25 el23 rfl (og2.le (d23.trans h25_2)) rfl (b25_2.srcA Try.underlying25 (by simp [hq32]) (by decide) (all_u8v _)) (by omega) (by unfold maxLen; omega) (L25_2.size) ?_
                    intro A25_3 c25_3 w25_3 o25_3 h25_3 at25_3
                    have L25_3 : Le w15_2 w25_3 := L25_2.then_ h25_3 (fun q hq => (og.row hq).1)
                    refine W.any (.assign rfl) rfl rfl rfl ?_
                    refine W.nil ?_
                    refine E.thenN ?_
                    refine WC.region ?_
                    refine W.any (.move rfl) rfl rfl rfl ?_
                    refine W.any (.assign rfl) rfl rfl rfl ?_
                    refine W.nil ?_
                    refine E.blkN ?_
                    refine E.thenN ?_
                    refine WC.region ?_
                    refine W.any (.move rfl) rfl rfl rfl ?_
                    refine W.any (.add rfl rfl (by omega)) rfl rfl rfl ?_
                    refine W.any (.assign rfl) rfl rfl rfl ?_
                    refine W.nil ?_
                    refine E.again (i + 1, A5, m5, c5, A25_3, c25_3) (.cons rfl (.cons rfl (.cons rfl (.cons rfl (.cons rfl (.cons rfl (.cons rfl (.cons rfl (.cons rfl (.nil _)))))))))) ?_ ?_
                    · exact ⟨by omega, L25_3, ((sp.le (d23.trans h25_2)).ch h25_3 (fun q hq he => by have := (s5.row he).1; have := (og.row hq).2; omega)).sb, s5.cap.1, o25_3.cast rfl (by rw [map_snoc _ sums i _ hsi]; simp)⟩
                    · first | omega | (simp only []; omega)
                  · have hih : i = h + 1 := by omega
                    subst hih
                    refine WC.exit ?_
                    refine E.thenX ?_
                    refine E.thenX ?_
                    refine E.blkH ?_
                    refine E.thenN ?_
                    refine WC.seq ?_
                    refine WC.region ?_
                    have hKg : Ks wl 32 Ag (h + 1) (sums.take (h + 1)) := ks_own og (by rw [List.length_take]; omega) (fun q hq => hs32 q (List.mem_of_mem_take hq))
                    have hsh := hsat h (by omega)
                    generalize hkk : ((wayB (startX seed) (own.map base)).getD h (0, [])).2 = kk at *
                    have hk32 : kk.length = 32 := hs32 kk (List.mem_of_getElem? hsh)
                    have hgd : sums.getD h [] = kk := by rw [List.getD_eq_getElem?_getD, hsh]; rfl
                    obtain ⟨g1, g2, g3⟩ := back_make sums h r (by omega) (by omega) (by omega)
                    obtain ⟨g4, g5⟩ := back_make_len sums h r (by omega) (by omega)
                    rw [hgd] at g1 g2 g3 g4 g5
                    have hbc : ∀ p, backB (sums.take (h + 1)) h p = backB sums h p := fun p => backB_congr _ _ h p (fun j hj => by rw [List.getD_eq_getElem?_getD, List.getD_eq_getElem?_getD, List.getElem?_take, if_pos (by omega)])
                    refine W.any (.move rfl) rfl rfl rfl ?_
                    refine W.any (.move rfl) rfl rfl rfl ?_
                    refine W.any (.idxS (h) Try.underlying25 sz23 rfl rfl (hKg.2.2.isSome (j := h) (by omega) (by decide)) (rfl) (by omega)) rfl rfl rfl ?_
                    refine W.rd (.loadK ag23 rfl hKg (show (sums.take (h + 1))[h]? = some kk by rw [List.getElem?_take, if_pos (by omega), hsh]) (by decide)) rfl rfl rfl ?_
                    refine W.any (.move rfl) rfl rfl rfl ?_
                    refine W.ef rfl rfl rfl ?_
                    refine Ef.call go16 rfl rfl (make_ok kk r hk32 wl (hS.le Ll)) ?_
                    rintro _ w27_5 ⟨A4, n4, c4, e, s4, k4, h27_5⟩
                    rw [g1] at e; subst e
                    refine ⟨_, rfl, ?_⟩
                    have L27_5 := Ll.trans h27_5
                    refine W.any (.move rfl) rfl rfl rfl ?_
                    refine W.any (.extract rfl rfl) rfl rfl rfl ?_
                    refine W.any (.extract rfl rfl) rfl rfl rfl ?_
                    refine W.any (.assign rfl) rfl rfl rfl ?_
                    refine W.any (.assign rfl) rfl rfl rfl ?_
                    refine W.nil ?_
                    refine E.thenN ?_
                    refine WC.seq ?_
                    refine WC.region ?_
                    refine W.any (.move rfl) rfl rfl rfl ?_
                    refine W.any (.move rfl) rfl rfl rfl ?_
                    refine W.any (.sub rfl rfl (by omega)) rfl rfl rfl ?_
                    refine W.any (.move rfl) rfl rfl rfl ?_
                    refine W.ef rfl rfl rfl ?_
                    refine Ef.call go23 rfl rfl (back_ok (h := h) w27_5 (hKg.le h27_5) s4 (by rw [← s4.len, g5]; omega) k4 (by omega) (by omega)) ?_
                    rintro _ w28_4 ⟨A6, n6, c6, e, s6, k6, h28_4⟩
                    rw [hbc] at e s6
                    rw [g2] at e; subst e
                    refine ⟨_, rfl, ?_⟩
                    have L28_4 := L27_5.trans h28_4
                    refine W.any (.move rfl) rfl rfl rfl ?_
                    refine W.any (.extract rfl rfl) rfl rfl rfl ?_
                    refine W.any (.extract rfl rfl) rfl rfl rfl ?_
                    refine W.any (.assign rfl) rfl rfl rfl ?_
                    refine W.any (.assign rfl) rfl rfl rfl ?_
                    refine W.nil ?_
                    refine E.thenN ?_
                    refine WC.seq ?_
                    refine WC.region ?_
                    refine W.any (.move rfl) rfl rfl rfl ?_
                    refine W.any (.move rfl) rfl rfl rfl ?_
                    refine W.ef rfl rfl rfl ?_
                    refine Ef.call go20 rfl rfl (read_ok w28_4 (hKs.le L28_4) s6 (by rw [← s6.len, g4]; omega) k6) ?_
                    rintro _ w29_2 ⟨A7, n7, c7, e, s7, h29_2⟩
                    rw [g3] at e s7; subst e
                    refine ⟨_, rfl, ?_⟩
                    have L29_2 := L28_4.trans h29_2
                    refine W.any (.move rfl) rfl rfl rfl ?_
                    refine W.any (.extract rfl rfl) rfl rfl rfl ?_
                    refine W.any (.extract rfl rfl) rfl rfl rfl ?_
                    refine W.any (.extract rfl rfl) rfl rfl rfl ?_
                    refine W.any (.assign rfl) rfl rfl rfl ?_
                    refine W.any (.assign rfl) rfl rfl rfl ?_
                    refine W.any (.assign rfl) rfl rfl rfl ?_
                    refine W.nil ?_
                    refine E.thenN ?_
                    refine WC.seq ?_
                    refine WC.region ?_
                    refine W.any (.move rfl) rfl rfl rfl ?_
                    refine W.any (.move rfl) rfl rfl rfl ?_
                    refine W.rdg (Any.rd (.move rfl) _) rfl rfl rfl (rfl) rfl rfl ?_
                    refine W.rdg (Any.rd (.dec (.eql rfl rfl) (decide_eq_true rfl)) _) rfl rfl rfl (rfl) rfl rfl ?_
                    refine W.any (.pickT rfl rfl rfl) rfl rfl rfl ?_
                    refine W.any (.move rfl) rfl rfl rfl ?_
                    refine W.rdg (Any.rd (.move rfl) _) rfl rfl rfl (rfl) rfl rfl ?_
                    refine W.any (.pickT rfl rfl rfl) rfl rfl rfl ?_
                    refine W.any (.move rfl) rfl rfl rfl ?_
                    refine W.rdg (Any.rd (.move rfl) _) rfl rfl rfl (rfl) rfl rfl ?_
                    refine W.rdg (Any.rd (.dec (.eql rfl rfl) (decide_eq_true rfl)) _) rfl rfl rfl (rfl) rfl rfl ?_
                    refine W.any (.pickT rfl rfl rfl) rfl rfl rfl ?_
                    refine W.any (.move rfl) rfl rfl rfl ?_
                    refine W.rdg (Any.rd (.move rfl) _) rfl rfl rfl (rfl) rfl rfl ?_
                    refine W.rdg (Any.rd (.move rfl) _) rfl rfl rfl (rfl) rfl rfl ?_
                    refine W.rdg (Any.rd (.dec (.eql rfl rfl) (decide_eq_true rfl)) _) rfl rfl rfl (rfl) rfl rfl ?_
                    refine W.any (.pickT rfl rfl rfl) rfl rfl rfl ?_
                    refine W.any (.move rfl) rfl rfl rfl ?_
                    refine W.rdg (Any.rd (.move rfl) _) rfl rfl rfl (rfl) rfl rfl ?_
                    refine W.rdg (Any.rd (.move rfl) _) rfl rfl rfl (rfl) rfl rfl ?_
                    refine W.efg rfl rfl rfl (rfl) rfl rfl ?_
                    refine Ef.call go22 rfl rfl (same_ok w29_2 s7 (hS.le L29_2) (by have h7 : r.length = n7 := s7.len; omega)) ?_
                    rintro _ w30_20 ⟨e, h30_20⟩
                    rw [decide_eq_true rfl] at e; subst e
                    refine ⟨_, rfl, ?_⟩
                    have L30_20 := L29_2.trans h30_20
                    refine W.any (.pickT rfl rfl rfl) rfl rfl rfl ?_
                    refine W.any (.assign rfl) rfl rfl rfl ?_
                    refine W.nil ?_
                    refine E.thenN ?_
                    refine WC.ret ?_
                    refine E.ret1 rfl rfl ?_
                    exact ⟨rfl, hL2.trans L30_20⟩
end Go.Proofs.Ytpmjdiccekkadaa
