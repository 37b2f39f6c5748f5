/- fault.Read, walked. -/
import Derived.Test.YtpmjdiccekkadaaFault
namespace Go.Proofs.Ytpmjdiccekkadaa
open Go Go.Sx Go.Hsp
set_option maxRecDepth 20000
theorem open_no (key : List Byte) (hk : key.length = 32) {A : Option Addr} {n c : Nat} {xs : List Byte} (w : World) (hS : Sb w A n xs) (h8 : 8 ≤ n) (hn : n ≤ 65544) (hc : n ≤ c) (hf : fits key xs = false) : Calls Try.prog 24 #[.agg (key.map u8v).toArray, .slice A n c] w fun e w' => e = .returned (.tuple #[.slice none 0 0, .bool false]) ∧ Le w w' :=
  (open_ok key hk w hS h8 hn hc).mono fun e w' ⟨hl, h⟩ => by
    rcases h with ⟨_, rfl⟩ | ⟨ht, _⟩
    · exact ⟨rfl, hl⟩
    · rw [hf] at ht; cases ht
theorem open_yes (key : List Byte) (hk : key.length = 32) {A : Option Addr} {n c : Nat} {xs : List Byte} (w : World) (hS : Sb w A n xs) (h8 : 8 ≤ n) (hn : n ≤ 65544) (hc : n ≤ c) (hf : fits key xs = true) : Calls Try.prog 24 #[.agg (key.map u8v).toArray, .slice A n c] w fun e w' => ∃ A' c', e = .returned (.tuple #[.slice A' (n - 8) c', .bool true]) ∧ Own w' w.heap.size 5 1 A' (n - 8) c' ((inner key xs).map u8v) ∧ Le w w' :=
  (open_ok key hk w hS h8 hn hc).mono fun e w' ⟨hl, h⟩ => by
    rcases h with ⟨ht, _⟩ | ⟨_, A', c', rfl, ho⟩
    · rw [hf] at ht; cases ht
    · exact ⟨A', c', rfl, ho, hl⟩

theorem notNull_ok (b : Byte) (w : World) : Calls Try.prog 51 #[u8v b] w fun e w' => e = .returned (.bool (decide (b ≠ 0#8))) ∧ Le w w' := by
  refine enter Try.func51 rfl rfl ?_
  have L0 := Le.refl w
  refine WC.seq ?_
  refine WC.region ?_
  refine W.any (.assign rfl) rfl rfl rfl ?_
  refine W.nil ?_
  refine E.thenN ?_
  refine WC.seq ?_
  refine WC.region ?_
  refine W.any (.move rfl) rfl rfl rfl ?_
  refine W.any (.neq8 (b := 0#8) rfl rfl) rfl rfl rfl ?_
  refine W.any (.assign rfl) rfl rfl rfl ?_
  refine W.nil ?_
  refine E.thenN ?_
  refine WC.ret ?_
  refine E.ret1 rfl rfl ?_
  exact ⟨rfl, L0⟩

theorem index_ok {A : Option Addr} {n c : Nat} {xs : List Byte} (w : World) (hS : Sb w A n xs) (hn : n ≤ 1000000) : Calls Try.prog 101 #[.slice A n c, .func (.func 51) #[] #[]] w fun e w' => ∃ i : Int, e = .returned (.int .i64 i) ∧ decide (0 ≤ i) = !(xs.all fun b => decide (b = 0#8)) ∧ Le w w' := by
  have hl := hS.len
  refine enter Try.func101 rfl rfl ?_
  have L0 := Le.refl w
  refine WC.seq ?_
  refine WC.region ?_
  refine W.any (.assign rfl) rfl rfl rfl ?_
  refine W.nil ?_
  refine E.thenN ?_
  refine WC.seq ?_
  refine WC.seq ?_
  refine WC.region ?_
  refine W.any (.move rfl) rfl rfl rfl ?_
  refine W.rd (.len Try.underlying24 rfl) rfl rfl rfl ?_
  refine W.any (.move rfl) rfl rfl rfl ?_
  refine W.nil ?_
  refine E.thenN ?_
  refine WC.block ?_
  refine WC.loop (ι := Nat) (fun k => [(0, .slice A n c), (1, .func (.func 51) #[] #[]), (7, .int .i64 (n : Int)), (8, .int .i64 (k : Int))]) (fun k wl => k ≤ n ∧ Le w wl ∧ ((xs.take k).all fun b => decide (b = 0#8)) = true) (fun k => n - k) 0 ?_ ?_ ?_
  · exact .cons rfl (.cons rfl (.cons rfl (.cons rfl (.nil _))))
  · exact ⟨Nat.zero_le _, L0, by simp⟩
  · rintro k wl ⟨hk, Ll, hz⟩
    refine WC.seq ?_
    refine WC.region ?_
    refine W.any (.lss rfl rfl) rfl rfl rfl ?_
    refine W.nil ?_
    refine E.thenN ?_
    refine WC.seq ?_
    refine WC.cond rfl (fun c0 => ?_) (fun c0 => ?_)
    · obtain ⟨x, hx⟩ : ∃ x, xs[k]? = some x := ⟨_, List.getElem?_eq_getElem (by omega)⟩
      refine WC.skip ?_
      refine E.thenN ?_
      refine WC.seq ?_
      refine WC.block ?_
      refine WC.seq ?_
      refine WC.region ?_
      refine W.any (.move rfl) rfl rfl rfl ?_
      refine W.any (.assign rfl) rfl rfl rfl ?_
      refine W.nil ?_
      refine E.thenN ?_
      refine WC.seq ?_
      refine WC.region ?_
      refine W.any (.move rfl) rfl rfl rfl ?_
      refine W.any (.move rfl) rfl rfl rfl ?_
      refine W.any (.move rfl) rfl rfl rfl ?_
      refine W.any (.idxS1 (k) Try.underlying24 sz5 rfl rfl (hS.isSome (by omega)) (rfl) (by omega)) rfl rfl rfl ?_
      refine W.rd (.loadS na5 rfl (hS.le Ll) (by rw [List.getElem?_map, hx]; rfl)) rfl rfl rfl ?_
      refine W.ef rfl rfl rfl ?_
      refine Ef.call go51 rfl rfl (notNull_ok x wl) ?_
      rintro _ w4_5 ⟨rfl, h4_5⟩
      refine ⟨_, rfl, ?_⟩
      have L4_5 := Ll.trans h4_5
      refine W.nil ?_
      refine E.thenN ?_
      refine WC.cond rfl (fun c1 => ?_) (fun c1 => ?_)
      · refine WC.seq ?_
        refine WC.region ?_
        refine W.any (.move rfl) rfl rfl rfl ?_
        refine W.any (.assign rfl) rfl rfl rfl ?_
        refine W.nil ?_
        refine E.thenN ?_
        refine WC.ret ?_
        refine E.blkR ?_
        refine E.thenR ?_
        refine E.thenR ?_
        refine E.blkR ?_
        refine E.thenR ?_
        refine E.ret1 rfl rfl ?_
        exact ⟨k, rfl, by rw [decide_eq_true (by omega), eq_comm, Bool.not_eq_true', ← Bool.not_eq_true, List.all_eq_true]; exact fun h => c1 (by simpa using h x (List.mem_of_getElem? hx)), L4_5⟩
      · refine WC.skip ?_
        refine E.blkN ?_
        refine E.thenN ?_
        refine WC.region ?_
        refine W.any (.add rfl rfl (by omega)) rfl rfl rfl ?_
        refine W.any (.move rfl) rfl rfl rfl ?_
        refine W.nil ?_
        refine E.again (k + 1) (.cons rfl (.cons rfl (.cons rfl (.cons rfl (.nil _))))) ?_ ?_
        · exact ⟨by omega, L4_5, by rw [List.take_add_one, List.all_append, hz, hx]; simpa using c1⟩
        · first | omega | (simp only []; omega)
    · have hkn : k = n := by omega
      subst hkn
      refine WC.exit ?_
      refine E.thenX ?_
      refine E.thenX ?_
      refine E.blkH ?_
      refine E.thenN ?_
      refine WC.seq ?_
      refine WC.region ?_
      refine W.any (.assign rfl) rfl rfl rfl ?_
      refine W.nil ?_
      refine E.thenN ?_
      refine WC.ret ?_
      refine E.ret1 rfl rfl ?_
      exact ⟨-1, rfl, by rw [List.take_of_length_le (by omega)] at hz; rw [hz]; rfl, Ll⟩

theorem contains_ok {A : Option Addr} {n c : Nat} {xs : List Byte} (w : World) (hS : Sb w A n xs) (hn : n ≤ 1000000) : Calls Try.prog 50 #[.slice A n c, .func (.func 51) #[] #[]] w fun e w' => e = .returned (.bool (!(xs.all fun b => decide (b = 0#8)))) ∧ Le w w' := by
  refine enter Try.func50 rfl rfl ?_
  have L0 := Le.refl w
  refine WC.seq ?_
  refine WC.region ?_
  refine W.any (.assign rfl) rfl rfl rfl ?_
  refine W.nil ?_
  refine E.thenN ?_
  refine WC.seq ?_
  refine WC.region ?_
  refine W.any (.move rfl) rfl rfl rfl ?_
  refine W.any (.move rfl) rfl rfl rfl ?_
  refine W.ef rfl rfl rfl ?_
  refine Ef.call go101 rfl rfl (index_ok w (hS.le L0) hn) ?_
  rintro _ w1_2 ⟨i, rfl, hi, h1_2⟩
  refine ⟨_, rfl, ?_⟩
  have L1_2 := L0.trans h1_2
  refine W.any (.geq rfl rfl) rfl rfl rfl ?_
  refine W.any (.assign rfl) rfl rfl rfl ?_
  refine W.nil ?_
  refine E.thenN ?_
  refine WC.ret ?_
  refine E.ret1 rfl rfl ?_
  exact ⟨by rw [← hi], L1_2⟩

theorem read_a {A Ap : Option Addr} {nk ck n c : Nat} {keys : List (List Byte)} {p : List Byte} (w : World) (_hK : Ks w 32 A nk keys) (hS : Sb w Ap n p) (hn : n ≤ 9223372036854775807) (hs : stepB n < 0) : Calls Try.prog 20 #[.slice A nk ck, .slice Ap n c] w fun e w' => ∃ A' k c', e = .returned (.tuple #[.int .i64 ((readB keys p).1 : Int), .slice A' k c', .int .i64 (readB keys p).2.2]) ∧ Sb w' A' k (readB keys p).2.1 ∧ Le w w' := by
  have hl := hS.len
  rw [readB, hl, if_pos (.inl hs)]
  refine enter Try.func20 rfl rfl ?_
  have L0 := Le.refl w
  refine WC.seq ?_
  refine WC.region ?_
  refine W.any (.assign rfl) rfl rfl rfl ?_
  refine W.any (.assign rfl) rfl rfl rfl ?_
  refine W.any (.assign rfl) rfl rfl rfl ?_
  refine W.nil ?_
  refine E.thenN ?_
  refine WC.scope ?_
  refine WC.seq ?_
  refine WC.region ?_
  refine W.any (.move rfl) rfl rfl rfl ?_
  refine W.ef rfl rfl rfl ?_
  refine Ef.call go48 rfl rfl (step_ok w hn) ?_
  rintro _ w1_1 ⟨rfl, h1_1⟩
  refine ⟨_, rfl, ?_⟩
  have L1_1 := L0.trans h1_1
  refine W.any (.assign rfl) rfl rfl rfl ?_
  refine W.nil ?_
  refine E.thenN ?_
  refine WC.seq ?_
  refine WC.seq ?_
  refine WC.region ?_
  refine W.any (.move rfl) rfl rfl rfl ?_
  refine W.any (.lss rfl rfl) rfl rfl rfl ?_
  refine W.any (.move rfl) rfl rfl rfl ?_
  refine W.skip rfl rfl rfl (decide_eq_true (by omega)) rfl rfl ?_
  refine W.skip rfl rfl rfl (decide_eq_true (by omega)) rfl rfl ?_
  refine W.skip rfl rfl rfl (decide_eq_true (by omega)) rfl rfl ?_
  refine W.skip rfl rfl rfl (decide_eq_true (by omega)) rfl rfl ?_
  refine W.any (.pickT rfl (decide_eq_true (by omega)) rfl) rfl rfl rfl ?_
  refine W.nil ?_
  refine E.thenN ?_
  refine WC.condB rfl (fun _ => ?_) (fun h => absurd h (by simp))
  refine WC.seq ?_
  refine WC.region ?_
  refine W.any (.assign rfl) rfl rfl rfl ?_
  refine W.any (.assign rfl) rfl rfl rfl ?_
  refine W.any (.assign rfl) rfl rfl rfl ?_
  refine W.nil ?_
  refine E.thenN ?_
  refine WC.ret ?_
  refine E.thenR ?_
  refine E.scR ?_
  refine E.ret3 rfl rfl rfl rfl ?_
  exact ⟨none, 0, 0, rfl, Sl.nil _ _ _, L1_1⟩

theorem read_b {A Ap : Option Addr} {nk ck n c : Nat} {keys : List (List Byte)} {p : List Byte} (w : World) (hK : Ks w 32 A nk keys) (hS : Sb w Ap n p) (hn : n ≤ 9223372036854775807) (hs : 0 ≤ stepB n ∧ (nk : Int) ≤ stepB n) : Calls Try.prog 20 #[.slice A nk ck, .slice Ap n c] w fun e w' => ∃ A' k c', e = .returned (.tuple #[.int .i64 ((readB keys p).1 : Int), .slice A' k c', .int .i64 (readB keys p).2.2]) ∧ Sb w' A' k (readB keys p).2.1 ∧ Le w w' := by
  have hl := hS.len
  have hkl := hK.1
  rw [readB, hl, if_pos (.inr (by omega))]
  refine enter Try.func20 rfl rfl ?_
  have L0 := Le.refl w
  refine WC.seq ?_
  refine WC.region ?_
  refine W.any (.assign rfl) rfl rfl rfl ?_
  refine W.any (.assign rfl) rfl rfl rfl ?_
  refine W.any (.assign rfl) rfl rfl rfl ?_
  refine W.nil ?_
  refine E.thenN ?_
  refine WC.scope ?_
  refine WC.seq ?_
  refine WC.region ?_
  refine W.any (.move rfl) rfl rfl rfl ?_
  refine W.ef rfl rfl rfl ?_
  refine Ef.call go48 rfl rfl (step_ok w hn) ?_
  rintro _ w1_1 ⟨rfl, h1_1⟩
  refine ⟨_, rfl, ?_⟩
  have L1_1 := L0.trans h1_1
  refine W.any (.assign rfl) rfl rfl rfl ?_
  refine W.nil ?_
  refine E.thenN ?_
  refine WC.seq ?_
  refine WC.seq ?_
  refine WC.region ?_
  refine W.any (.move rfl) rfl rfl rfl ?_
  refine W.any (.lss rfl rfl) rfl rfl rfl ?_
  refine W.any (.move rfl) rfl rfl rfl ?_
  refine W.rdg (Any.rd (.move rfl) _) rfl rfl rfl (decide_eq_false (by omega)) rfl rfl ?_
  refine W.rdg (Any.rd (.move rfl) _) rfl rfl rfl (decide_eq_false (by omega)) rfl rfl ?_
  refine W.rdg (.len Try.underlying25 rfl) rfl rfl rfl (decide_eq_false (by omega)) rfl rfl ?_
  refine W.rdg (Any.rd (.geq rfl rfl) _) rfl rfl rfl (decide_eq_false (by omega)) rfl rfl ?_
  refine W.any (.pickF rfl (decide_eq_false (by omega)) rfl) rfl rfl rfl ?_
  refine W.nil ?_
  refine E.thenN ?_
  refine WC.condB rfl (fun _ => ?_) (fun h => absurd h (by simp; omega))
  refine WC.seq ?_
  refine WC.region ?_
  refine W.any (.assign rfl) rfl rfl rfl ?_
  refine W.any (.assign rfl) rfl rfl rfl ?_
  refine W.any (.assign rfl) rfl rfl rfl ?_
  refine W.nil ?_
  refine E.thenN ?_
  refine WC.ret ?_
  refine E.thenR ?_
  refine E.scR ?_
  refine E.ret3 rfl rfl rfl rfl ?_
  exact ⟨none, 0, 0, rfl, Sl.nil _ _ _, L1_1⟩

theorem read_c (s : Nat) {A Ap : Option Addr} {nk ck n c : Nat} {keys : List (List Byte)} {p : List Byte} (w : World) (hK : Ks w 32 A nk keys) (hS : Sb w Ap n p) (hn : n ≤ 9223372036854775807) (hc : n ≤ c) (hs : stepB n = s) (hns : n = 64 + 8 * s) (h7 : s ≤ 7) (hsk : s < nk) : Calls Try.prog 20 #[.slice A nk ck, .slice Ap n c] w fun e w' => ∃ A' k c', e = .returned (.tuple #[.int .i64 ((readB keys p).1 : Int), .slice A' k c', .int .i64 (readB keys p).2.2]) ∧ Sb w' A' k (readB keys p).2.1 ∧ Le w w' := by
  have hl := hS.len
  have hkl := hK.1
  have hstep : ∀ w, Calls Try.prog 48 #[.slice Ap n c] w (fun e w' => e = .returned (.int .i64 (s : Int)) ∧ Le w w') := fun w => by rw [← hs]; exact step_ok w hn
  refine enter Try.func20 rfl rfl ?_
  have L0 := Le.refl w
  refine WC.seq ?_
  refine WC.region ?_
  refine W.any (.assign rfl) rfl rfl rfl ?_
  refine W.any (.assign rfl) rfl rfl rfl ?_
  refine W.any (.assign rfl) rfl rfl rfl ?_
  refine W.nil ?_
  refine E.thenN ?_
  refine WC.scope ?_
  refine WC.seq ?_
  refine WC.region ?_
  refine W.any (.move rfl) rfl rfl rfl ?_
  refine W.ef rfl rfl rfl ?_
  refine Ef.call go48 rfl rfl (hstep w) ?_
  rintro _ w1_1 ⟨rfl, h1_1⟩
  refine ⟨_, rfl, ?_⟩
  have L1_1 := L0.trans h1_1
  refine W.any (.assign rfl) rfl rfl rfl ?_
  refine W.nil ?_
  refine E.thenN ?_
  refine WC.seq ?_
  refine WC.seq ?_
  refine WC.region ?_
  refine W.any (.move rfl) rfl rfl rfl ?_
  refine W.any (.lss rfl rfl) rfl rfl rfl ?_
  refine W.any (.move rfl) rfl rfl rfl ?_
  refine W.rdg (Any.rd (.move rfl) _) rfl rfl rfl (decide_eq_false (by omega)) rfl rfl ?_
  refine W.rdg (Any.rd (.move rfl) _) rfl rfl rfl (decide_eq_false (by omega)) rfl rfl ?_
  refine W.rdg (.len Try.underlying25 rfl) rfl rfl rfl (decide_eq_false (by omega)) rfl rfl ?_
  refine W.rdg (Any.rd (.geq rfl rfl) _) rfl rfl rfl (decide_eq_false (by omega)) rfl rfl ?_
  refine W.any (.pickF rfl (decide_eq_false (by omega)) rfl) rfl rfl rfl ?_
  refine W.nil ?_
  refine E.thenN ?_
  refine WC.condB rfl (fun h => absurd h (by simp; omega)) (fun _ => ?_)
  refine WC.skip ?_
  refine E.thenN ?_
  refine WC.seq ?_
  refine WC.region ?_
  refine W.any (.move rfl) rfl rfl rfl ?_
  refine W.any (.assign rfl) rfl rfl rfl ?_
  refine W.any (.assign rfl) rfl rfl rfl ?_
  refine W.nil ?_
  refine E.thenN ?_
  refine WC.seq ?_
  refine WC.label ?_
  refine E.thenN ?_
  refine WC.seq ?_
  refine WC.block ?_
  refine WC.loop (ι := Nat × Option Addr × Nat × Nat × List Byte) (fun ⟨a, Al, nl, cl, left⟩ => [(0, .slice A nk ck), (7, .int .i64 (s : Int)), (8, .slice Al nl cl), (9, .int .i64 (a : Int))]) (fun ⟨a, Al, nl, cl, left⟩ wl => a ≤ s + 1 ∧ Le w wl ∧ Sb wl Al nl left ∧ nl + 8 * a = n ∧ nl ≤ cl ∧ unw keys (s + 1 - a) a left = unw keys (s + 1) 0 p) (fun ⟨a, Al, nl, cl, left⟩ => s + 1 - a) (0, Ap, n, c, p) ?_ ?_ ?_
  · exact .cons rfl (.cons rfl (.cons rfl (.cons rfl (.nil _))))
  · exact ⟨by omega, L1_1, hS.le L1_1, by omega, hc, rfl⟩
  · rintro ⟨a, Al, nl, cl, left⟩ wl ⟨ha, Ll, hb, hnl, hcl, hu⟩
    refine WC.seq ?_
    refine WC.seq ?_
    refine WC.region ?_
    refine W.any (.move rfl) rfl rfl rfl ?_
    refine W.any (.move rfl) rfl rfl rfl ?_
    refine W.any (.leq rfl rfl) rfl rfl rfl ?_
    refine W.nil ?_
    refine E.thenN ?_
    refine WC.cond rfl (fun c1 => ?_) (fun c1 => ?_)
    · obtain ⟨q, hq⟩ : ∃ q, keys[a]? = some q := ⟨_, List.getElem?_eq_getElem (by omega)⟩
      have hql : q.length = 32 := hK.2.1 q (List.mem_of_getElem? hq)
      have hq' : keys.getD a [] = q := by rw [List.getD_eq_getElem?_getD, hq]; rfl
      have hm : s + 1 - a = (s + 1 - (a + 1)) + 1 := by omega
      refine WC.skip ?_
      refine E.thenN ?_
      refine WC.block ?_
      refine WC.seq ?_
      refine WC.region ?_
      refine W.any (.move rfl) rfl rfl rfl ?_
      refine W.any (.move rfl) rfl rfl rfl ?_
      refine W.any (.idxS a Try.underlying25 sz23 rfl rfl (hK.2.2.isSome (j := a) (by omega) (by decide)) rfl (by omega)) rfl rfl rfl ?_
      refine W.rd (.loadK ag23 rfl (hK.le Ll) hq (by decide)) rfl rfl rfl ?_
      refine W.ef rfl rfl rfl ?_
      refine Ef.call go46 rfl rfl (by_ok q hql wl) ?_
      rintro _ w6_4 ⟨rfl, h6_4⟩
      refine ⟨_, rfl, ?_⟩
      have L6_4 := Ll.trans h6_4
      refine W.any (.move rfl) rfl rfl rfl ?_
      by_cases hf : fits (byB q) left = true
      · refine W.ef rfl rfl rfl ?_
        refine Ef.call go24 rfl rfl (open_yes (byB q) (byB_length q) w6_4 (hb.le h6_4) (by omega) (by omega) hcl hf) ?_
        rintro _ w6_6 ⟨A1, c1, rfl, o1, h6_6⟩
        refine ⟨_, rfl, ?_⟩
        have L6_6 := L6_4.trans h6_6
        refine W.any (.move rfl) rfl rfl rfl ?_
        refine W.any (.extract rfl rfl) rfl rfl rfl ?_
        refine W.any (.extract rfl rfl) rfl rfl rfl ?_
        refine W.any (.assign rfl) rfl rfl rfl ?_
        refine W.any (.assign rfl) rfl rfl rfl ?_
        refine W.nil ?_
        refine E.thenN ?_
        refine WC.seq ?_
        refine WC.seq ?_
        refine WC.region ?_
        refine W.any (.move rfl) rfl rfl rfl ?_
        refine W.any (.not rfl) rfl rfl rfl ?_
        refine W.nil ?_
        refine E.thenN ?_
        refine WC.condB rfl (fun h => absurd h (by simp)) (fun _ => ?_)
        refine WC.skip ?_
        refine E.thenN ?_
        refine WC.region ?_
        refine W.any (.move rfl) rfl rfl rfl ?_
        refine W.any (.move rfl) rfl rfl rfl ?_
        refine W.any (.add rfl rfl (by omega)) rfl rfl rfl ?_
        refine W.any (.assign rfl) rfl rfl rfl ?_
        refine W.any (.assign rfl) rfl rfl rfl ?_
        refine W.nil ?_
        refine E.blkN ?_
        refine E.again (a + 1, A1, nl - 8, c1, inner (byB q) left) (.cons rfl (.cons rfl (.cons rfl (.cons rfl (.nil _))))) ?_ ?_
        · exact ⟨by omega, L6_6, o1.sb, by omega, o1.cap.1, by rw [← hu, hm, unw, hq', if_pos hf]⟩
        · first | omega | (simp only []; omega)
      · refine W.ef rfl rfl rfl ?_
        refine Ef.call go24 rfl rfl (open_no (byB q) (byB_length q) w6_4 (hb.le h6_4) (by omega) (by omega) hcl (by simpa using hf)) ?_
        rintro _ w6_6 ⟨rfl, h6_6⟩
        refine ⟨_, rfl, ?_⟩
        have L6_6 := L6_4.trans h6_6
        refine W.any (.move rfl) rfl rfl rfl ?_
        refine W.any (.extract rfl rfl) rfl rfl rfl ?_
        refine W.any (.extract rfl rfl) rfl rfl rfl ?_
        refine W.any (.assign rfl) rfl rfl rfl ?_
        refine W.any (.assign rfl) rfl rfl rfl ?_
        refine W.nil ?_
        refine E.thenN ?_
        refine WC.seq ?_
        refine WC.seq ?_
        refine WC.region ?_
        refine W.any (.move rfl) rfl rfl rfl ?_
        refine W.any (.not rfl) rfl rfl rfl ?_
        refine W.nil ?_
        refine E.thenN ?_
        refine WC.condB rfl (fun _ => ?_) (fun h => absurd h (by simp))
        refine WC.exit ?_
        refine E.thenX ?_
        refine E.blkX rfl ?_
        refine E.thenX ?_
        refine E.blkH ?_
        refine E.thenN ?_
        refine WC.seq ?_
        refine WC.seq ?_
        refine WC.region ?_
        refine W.any (.move rfl) rfl rfl rfl ?_
        refine W.any (.move rfl) rfl rfl rfl ?_
        refine W.any (.leq rfl rfl) rfl rfl rfl ?_
        refine W.nil ?_
        refine E.thenN ?_
        refine WC.condB rfl (fun _ => ?_) (fun h => absurd h (by simp; omega))
        refine WC.seq ?_
        refine WC.region ?_
        refine W.any (.move rfl) rfl rfl rfl ?_
        refine W.any (.assign rfl) rfl rfl rfl ?_
        refine W.any (.assign rfl) rfl rfl rfl ?_
        refine W.any (.assign rfl) rfl rfl rfl ?_
        refine W.nil ?_
        refine E.thenN ?_
        refine WC.ret ?_
        refine E.thenR ?_
        refine E.scR ?_
        refine E.ret3 rfl rfl rfl rfl ?_
        rw [show readB keys p = (a, [], 18) by rw [readB, hl, hs, if_neg (by omega), Int.toNat_natCast, ← hu, hm, unw, hq', if_neg hf, if_pos (by omega)]]; exact ⟨none, 0, 0, rfl, Sl.nil _ _ _, L6_6⟩
    · have has : a = s + 1 := by omega
      subst has
      rw [Nat.sub_self, unw] at hu
      have hll := hb.len
      have hR0 : readB keys p = readRow s left := by
        rw [readB, hl, hs, if_neg (by omega), Int.toNat_natCast, ← hu, if_neg (by omega)]
      refine WC.exit ?_
      refine E.thenX ?_
      refine E.thenX ?_
      refine E.blkH ?_
      refine E.thenN ?_
      refine WC.seq ?_
      refine WC.seq ?_
      refine WC.region ?_
      refine W.any (.move rfl) rfl rfl rfl ?_
      refine W.any (.move rfl) rfl rfl rfl ?_
      refine W.any (.leq rfl rfl) rfl rfl rfl ?_
      refine W.nil ?_
      refine E.thenN ?_
      refine WC.condB rfl (fun h => absurd h (by simp; omega)) (fun _ => ?_)
      refine WC.skip ?_
      refine E.thenN ?_
      refine WC.seq ?_
      refine WC.region ?_
      refine W.any (.move rfl) rfl rfl rfl ?_
      refine W.any (.idxS1 (0) Try.underlying24 sz5 rfl rfl (hb.isSome (by omega)) (rfl) (by omega)) rfl rfl rfl ?_
      refine W.rd (.loadS na5 rfl (hb) (getb left (by omega))) rfl rfl rfl ?_
      refine W.rd (.u8toI (isS Try.underlying5) Try.underlying3 rfl) rfl rfl rfl ?_
      refine W.any (.assign rfl) rfl rfl rfl ?_
      refine W.nil ?_
      refine E.thenN ?_
      refine WC.seq ?_
      refine WC.seq ?_
      refine WC.region ?_
      by_cases hy : (left.getD 0 0).toNat ≤ 55
      · refine W.any (.move rfl) rfl rfl rfl ?_
        refine W.any (.geq rfl rfl) rfl rfl rfl ?_
        refine W.any (.move rfl) rfl rfl rfl ?_
        refine W.rdg (Any.rd (.move rfl) _) rfl rfl rfl (decide_eq_false (by omega)) rfl rfl ?_
        refine W.rdg (Any.rd (.move rfl) _) rfl rfl rfl (decide_eq_false (by omega)) rfl rfl ?_
        refine W.rdg (Any.rd (.add rfl rfl (by omega)) _) rfl rfl rfl (decide_eq_false (by omega)) rfl rfl ?_
        refine W.rdg (Any.rd (.cutL (1 + (left.getD 0 0).toNat) Try.underlying24 sz5 rfl rfl (by omega) (by omega) (by omega)) _) rfl rfl rfl (decide_eq_false (by omega)) rfl rfl ?_
        refine W.efg rfl rfl rfl (decide_eq_false (by omega)) rfl rfl ?_
        refine Ef.call go50 rfl rfl (contains_ok wl (hb.cutL cl (1 + (left.getD 0 0).toNat) (by omega) hcl) (by omega)) ?_
        rintro _ w12_7 ⟨rfl, h12_7⟩
        refine ⟨_, rfl, ?_⟩
        have L12_7 := Ll.trans h12_7
        refine W.any (.pickF rfl (decide_eq_false (by omega)) rfl) rfl rfl rfl ?_
        refine W.nil ?_
        refine E.thenN ?_
        refine WC.condB rfl (fun hz => ?_) (fun hz => ?_)
        · refine WC.seq ?_
          refine WC.region ?_
          refine W.any (.move rfl) rfl rfl rfl ?_
          refine W.any (.assign rfl) rfl rfl rfl ?_
          refine W.any (.assign rfl) rfl rfl rfl ?_
          refine W.any (.assign rfl) rfl rfl rfl ?_
          refine W.nil ?_
          refine E.thenN ?_
          refine WC.ret ?_
          refine E.thenR ?_
          refine E.scR ?_
          refine E.ret3 rfl rfl rfl rfl ?_
          rw [hR0, readRow, if_neg (by rw [not_and]; intro _ h; rw [h] at hz; cases hz)]; exact ⟨none, 0, 0, rfl, Sl.nil _ _ _, L12_7⟩
        · refine WC.skip ?_
          refine E.thenN ?_
          refine WC.seq ?_
          refine WC.region ?_
          refine W.any (.move rfl) rfl rfl rfl ?_
          refine W.any (.move rfl) rfl rfl rfl ?_
          refine W.any (.move rfl) rfl rfl rfl ?_
          refine W.any (.add rfl rfl (by omega)) rfl rfl rfl ?_
          refine W.any (.cut (1) (1 + (left.getD 0 0).toNat) Try.underlying24 sz5 rfl rfl (rfl) rfl (by omega) (by omega) (by omega)) rfl rfl rfl ?_
          refine W.ef rfl rfl rfl ?_
          refine Ef.call go52 rfl rfl (clone_ok w12_7 ((hb.le h12_7).cut cl 1 (1 + (left.getD 0 0).toNat) (by omega) (by omega) hcl) (by omega)) ?_
          rintro _ w14_5 ⟨A2, c2, rfl, o2, h14_5⟩
          refine ⟨_, rfl, ?_⟩
          have L14_5 := L12_7.trans h14_5
          refine W.any (.assign rfl) rfl rfl rfl ?_
          refine W.any (.assign rfl) rfl rfl rfl ?_
          refine W.any (.assign rfl) rfl rfl rfl ?_
          refine W.nil ?_
          refine E.thenN ?_
          refine WC.ret ?_
          refine E.scR ?_
          refine E.ret3 rfl rfl rfl rfl ?_
          rw [hR0, readRow, if_pos ⟨hy, by simpa using hz⟩]; exact ⟨A2, _, c2, rfl, o2.sb.cast (by omega) (by rw [Nat.add_sub_cancel_left]), L14_5⟩
      · refine W.any (.move rfl) rfl rfl rfl ?_
        refine W.any (.geq rfl rfl) rfl rfl rfl ?_
        refine W.any (.move rfl) rfl rfl rfl ?_
        refine W.skip rfl rfl rfl (decide_eq_true (by omega)) rfl rfl ?_
        refine W.skip rfl rfl rfl (decide_eq_true (by omega)) rfl rfl ?_
        refine W.skip rfl rfl rfl (decide_eq_true (by omega)) rfl rfl ?_
        refine W.skip rfl rfl rfl (decide_eq_true (by omega)) rfl rfl ?_
        refine W.skip rfl rfl rfl (decide_eq_true (by omega)) rfl rfl ?_
        refine W.any (.pickT rfl (decide_eq_true (by omega)) rfl) rfl rfl rfl ?_
        refine W.nil ?_
        refine E.thenN ?_
        refine WC.condB rfl (fun _ => ?_) (fun h => absurd h (by simp))
        refine WC.seq ?_
        refine WC.region ?_
        refine W.any (.move rfl) rfl rfl rfl ?_
        refine W.any (.assign rfl) rfl rfl rfl ?_
        refine W.any (.assign rfl) rfl rfl rfl ?_
        refine W.any (.assign rfl) rfl rfl rfl ?_
        refine W.nil ?_
        refine E.thenN ?_
        refine WC.ret ?_
        refine E.thenR ?_
        refine E.scR ?_
        refine E.ret3 rfl rfl rfl rfl ?_
        rw [hR0, readRow, if_neg (by omega)]; exact ⟨none, 0, 0, rfl, Sl.nil _ _ _, Ll⟩

theorem read_ok {A Ap : Option Addr} {nk ck n c : Nat} {keys : List (List Byte)} {p : List Byte} (w : World) (hK : Ks w 32 A nk keys) (hS : Sb w Ap n p) (hn : n ≤ 9223372036854775807) (hc : n ≤ c) : Calls Try.prog 20 #[.slice A nk ck, .slice Ap n c] w fun e w' => ∃ A' k c', e = .returned (.tuple #[.int .i64 ((readB keys p).1 : Int), .slice A' k c', .int .i64 (readB keys p).2.2]) ∧ Sb w' A' k (readB keys p).2.1 ∧ Le w w' := by
  rcases stepB_cases n with ⟨h, _⟩ | ⟨s, h, h1, h2⟩
  · exact read_a w hK hS hn (by omega)
  · by_cases h3 : s < nk
    · exact read_c s w hK hS hn hc h h1 h2 h3
    · exact read_b w hK hS hn (by omega)
end Go.Proofs.Ytpmjdiccekkadaa
