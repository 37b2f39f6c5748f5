/- The onion's functions (layer 31): lay, read, the stops, the way, the sums, the filler, walked. -/
import Derived.Test.YtfgakofjkldcjaaOnion
import Derived.Test.YtfgakofjkldcjaaSxj
namespace Go.Proofs.Ytfgakofjkldcjaa
open Go Go.Sx Go.Hsp Go.Num Go.Osp
set_option maxRecDepth 20000
def pv (k : Nat) : Value := .int .u64 (k : Nat)
theorem all_pv (l : List Nat) : ∀ u ∈ l.map pv, u.oneCell' = true := fun u hu => by obtain ⟨x, _, rfl⟩ := List.mem_map.1 hu; rfl
theorem getp (ks : List Nat) {k : Nat} (h : k < ks.length) : (ks.map pv)[k]? = some (pv (ks.getD k 0)) := by simp [h, List.getD]
theorem getn (ks : List Nat) {k : Nat} (h : k < ks.length) : ks[k]? = some (ks.getD k 0) := by simp [h, List.getD]
/-- The exponent behind keys. -/
def xAt : Nat → List Nat → Nat
  | x, [] => x
  | x, k :: ks => xAt (nextX x k) ks
theorem xAt_snoc (x : Nat) (ks : List Nat) (k : Nat) (key : Nat) (h : ks[k]? = some key) : xAt x (ks.take (k + 1)) = nextX (xAt x (ks.take k)) key := by
  have ap : ∀ (l m : List Nat) (x : Nat), xAt x (l ++ m) = xAt (xAt x l) m := by
    intro l
    induction l with
    | nil => intro m n; rfl
    | cons c l ih => intro m n; exact ih m _
  rw [List.take_add_one, h, ap]; rfl
theorem wayB_append : ∀ (l m : List Nat) (x : Nat), wayB x (l ++ m) = wayB x l ++ wayB (xAt x l) m
  | [], _, _ => rfl
  | k :: l, m, x => by rw [List.cons_append, wayB, wayB, wayB_append l m, List.cons_append]; rfl
theorem wayB_snoc (x : Nat) (ks : List Nat) (k : Nat) (key : Nat) (h : ks[k]? = some key) : wayB x (ks.take (k + 1)) = wayB x (ks.take k) ++ [stopB (xAt x (ks.take k)) key] := by
  rw [List.take_add_one, h, wayB_append]; rfl
theorem wayB_sum : ∀ (ks : List Nat) (x : Nat), ∀ s ∈ wayB x ks, s.2.length = 32
  | [], _, s, hs => by simp [wayB] at hs
  | k :: ks, x, s, hs => by
    simp only [wayB, List.mem_cons] at hs
    rcases hs with rfl | hs
    · exact sharedB_length _
    · exact wayB_sum ks _ s hs
theorem keyOk_yes {k : Nat} (h1 : ¬ k = 1) (h2 : right k = true) : keyOk k = true := by rw [keyOk, h2, decide_eq_true h1]; rfl
theorem keyOk_no {k : Nat} (h2 : right k = false) : keyOk k = false := by rw [keyOk, h2, Bool.and_false]
def stopRows (l : List Stop) : List (List Value) := l.map stopV
theorem stopRows_len (l : List Stop) (h : ∀ s ∈ l, s.2.length = 32) : ∀ r ∈ stopRows l, r.length = 33 := fun r hr => by
  obtain ⟨s, hs, rfl⟩ := List.mem_map.1 hr
  exact stopV_length s (h s hs)
theorem fillTo_snoc (l : List Stop) (k : Nat) (s : Stop) (h : l[k]? = some s) : fillTo [] (l.take (k + 1)) = fillS (fillTo [] (l.take k)) s := by
  rw [List.take_add_one, h, fillTo_append]; rfl
theorem keys_all (ks : List Nat) (k key : Nat) (h : ks[k]? = some key) (ha : (ks.take k).all keyOk = true) : (ks.take (k + 1)).all keyOk = keyOk key := by
  rw [List.take_add_one, h, List.all_append, ha]; simp
theorem key_bad (ks : List Nat) (k key : Nat) (h : ks[k]? = some key) (hb : keyOk key = false) : keysOk ks = false := by
  have : ks.all keyOk = false := by
    rw [← Bool.not_eq_true, List.all_eq_true]
    intro ha
    have := ha key (List.mem_of_getElem? h)
    rw [hb] at this; cases this
  rw [keysOk, this, Bool.and_false]
theorem concat_to {A : Option Addr} {n c : Nat} {vs : List Value} {ps : List (List Byte)} (l : List Byte) (m : Nat) (w : World) (hV : Sl w 1 A n vs) (hP : Parts w vs ps) (hfl : ps.flatten = l) (hm : l.length = m) (h0 : 0 < m) (hT : m ≤ 1000000) (hn : n ≤ 1000) : Calls Try.prog 110 #[.slice A n c] w fun e w' => ∃ A' c', e = .returned (.slice A' m c') ∧ Own w' w.heap.size 5 1 A' m c' (l.map u8v) ∧ Le w w' := by
  subst hfl hm
  exact concat_ok w hV hP h0 hT hn
theorem one6 {A B C D E F : Option Addr} {a b c d e f a' b' c' d' e' f' : Nat} : ∀ v ∈ [Value.slice A a a', Value.slice B b b', Value.slice C c c', Value.slice D d d', Value.slice E e e', Value.slice F f f'], v.oneCell' = true := fun v hv => by
  simp at hv; rcases hv with rfl | rfl | rfl | rfl | rfl | rfl <;> rfl
theorem one3 {A B C : Option Addr} {a b c a' b' c' : Nat} : ∀ v ∈ [Value.slice A a a', Value.slice B b b', Value.slice C c c'], v.oneCell' = true := fun v hv => by
  simp at hv; rcases hv with rfl | rfl | rfl <;> rfl

theorem lay_ok (h : Hop) (w : World) : Calls Try.prog 111 #[.agg (hopV h).toArray] w fun e w' => ∃ A' c', e = .returned (.slice A' 48 c') ∧ Own w' w.heap.size 5 1 A' 48 c' ((layB h).map u8v) ∧ Le w w' := by
  refine enter Try.func111 rfl rfl ?_
  have L0 := Le.refl w
  refine WC.seq ?_
  refine WC.region ?_
  refine W.ef rfl rfl rfl ?_
  refine Ef.boxA rfl ?_
  intro g0_0 w0_0 hg0_0 b0_0 h0_0
  have L0_0 := L0.trans h0_0
  have LL := Le.refl w0_0
  refine W.any (.assign rfl) rfl rfl rfl ?_
  refine W.nil ?_
  refine E.thenN ?_
  refine WC.seq ?_
  refine WC.draw [0, 1, 2, 4, 5, 6, 8, 9, 10, 12, 13, 14, 16, 17, 19, 20, 3, 7, 11, 15, 18, 21, 22, 23, 24] mixed (by kernel_rfl) ?_
  intro w1 d1
  have L1 := LL.trans d1
  refine G.any rfl rfl (.field0 fa95_0 rfl) rfl rfl rfl ?_
  refine G.rd rfl rfl (.loadB na3 rfl (b0_0.le L1) (rfl)) rfl rfl rfl ?_
  refine G.rd rfl rfl (.convEq (isS Try.underlying3) Try.underlying29 rfl (wrap_usg _)) rfl rfl rfl ?_
  refine G.any rfl rfl (.field0 fa95_1 rfl) rfl rfl rfl ?_
  refine G.rd rfl rfl (.loadB na3 rfl (b0_0.le L1) (rfl)) rfl rfl rfl ?_
  refine G.rd rfl rfl (.convEq (isS Try.underlying3) Try.underlying29 rfl (wrap_usg _)) rfl rfl rfl ?_
  refine G.any rfl rfl (.field0 fa95_2 rfl) rfl rfl rfl ?_
  refine G.rd rfl rfl (.loadB na3 rfl (b0_0.le L1) (rfl)) rfl rfl rfl ?_
  refine G.rd rfl rfl (.convEq (isS Try.underlying3) Try.underlying29 rfl (wrap_usg _)) rfl rfl rfl ?_
  refine G.any rfl rfl (.field0 fa95_3 rfl) rfl rfl rfl ?_
  refine G.rd rfl rfl (.loadB na3 rfl (b0_0.le L1) (rfl)) rfl rfl rfl ?_
  refine G.rd rfl rfl (.convEq (isS Try.underlying3) Try.underlying29 rfl (wrap_usg _)) rfl rfl rfl ?_
  refine G.any rfl rfl (.field0 fa95_4 rfl) rfl rfl rfl ?_
  refine G.rd rfl rfl (.loadB na31 rfl (b0_0.le L1) (rfl)) rfl rfl rfl ?_
  refine G.any rfl rfl (.field0 fa95_5 rfl) rfl rfl rfl ?_
  refine G.rd rfl rfl (.loadB na30 rfl (b0_0.le L1) (rfl)) rfl rfl rfl ?_
  refine G.ef rfl rfl rfl rfl rfl ?_
  refine Ef.call go115 rfl rfl (eight_ok (usg h.1) w1) ?_
  rintro _ w1_3 ⟨g3, rfl, hg3, B3, h1_3⟩
  refine ⟨_, rfl, ?_⟩
  have L1_3 := L1.trans h1_3
  refine ⟨fun _ => h1_3, ?_⟩
  refine G.ef rfl rfl rfl rfl rfl ?_
  refine Ef.call go115 rfl rfl (eight_ok (usg h.2.1) w1_3) ?_
  rintro _ w1_7 ⟨g7, rfl, hg7, B7, h1_7⟩
  refine ⟨_, rfl, ?_⟩
  have L1_7 := L1_3.trans h1_7
  refine ⟨fun _ => h1_7, ?_⟩
  have B3 := B3.le h1_7
  refine G.ef rfl rfl rfl rfl rfl ?_
  refine Ef.call go115 rfl rfl (eight_ok (usg h.2.2.1) w1_7) ?_
  rintro _ w1_11 ⟨g11, rfl, hg11, B11, h1_11⟩
  refine ⟨_, rfl, ?_⟩
  have L1_11 := L1_7.trans h1_11
  refine ⟨fun _ => h1_11, ?_⟩
  have B3 := B3.le h1_11
  have B7 := B7.le h1_11
  refine G.ef rfl rfl rfl rfl rfl ?_
  refine Ef.call go115 rfl rfl (eight_ok (usg h.2.2.2.1) w1_11) ?_
  rintro _ w1_15 ⟨g15, rfl, hg15, B15, h1_15⟩
  refine ⟨_, rfl, ?_⟩
  have L1_15 := L1_11.trans h1_15
  refine ⟨fun _ => h1_15, ?_⟩
  have B3 := B3.le h1_15
  have B7 := B7.le h1_15
  have B11 := B11.le h1_15
  refine G.ef rfl rfl rfl rfl rfl ?_
  refine Ef.call go115 rfl rfl (eight_ok (h.2.2.2.2.1) w1_15) ?_
  rintro _ w1_18 ⟨g18, rfl, hg18, B18, h1_18⟩
  refine ⟨_, rfl, ?_⟩
  have L1_18 := L1_15.trans h1_18
  refine ⟨fun _ => h1_18, ?_⟩
  have B3 := B3.le h1_18
  have B7 := B7.le h1_18
  have B11 := B11.le h1_18
  have B15 := B15.le h1_18
  refine G.ef rfl rfl rfl rfl rfl ?_
  refine Ef.call go115 rfl rfl (eight_ok (h.2.2.2.2.2) w1_18) ?_
  rintro _ w1_21 ⟨g21, rfl, hg21, B21, h1_21⟩
  refine ⟨_, rfl, ?_⟩
  have L1_21 := L1_18.trans h1_21
  refine ⟨fun _ => h1_21, ?_⟩
  have B3 := B3.le h1_21
  have B7 := B7.le h1_21
  have B11 := B11.le h1_21
  have B15 := B15.le h1_21
  have B18 := B18.le h1_21
  refine G.ef rfl rfl rfl rfl rfl ?_
  refine Ef.buildSliceN [_, _, _, _, _, _] Try.underlying211 el107 rfl one6 rfl (by decide) (by decide) ?_
  intro g1_22 w1_22 hg1_22 b1_22 h1_22
  have L1_22 := L1_21.trans h1_22
  refine ⟨fun _ => h1_22, ?_⟩
  have B3 := B3.le h1_22
  have B7 := B7.le h1_22
  have B11 := B11.le h1_22
  have B15 := B15.le h1_22
  have B18 := B18.le h1_22
  have B21 := B21.le h1_22
  refine G.ef rfl rfl rfl rfl rfl ?_
  refine Ef.call go110 rfl rfl (concat_to (layB h) 48 w1_22 (b1_22.sl (s := 1) (n := 6) rfl) (.cons (B3.sb (be8_length _)) (.cons (B7.sb (be8_length _)) (.cons (B11.sb (be8_length _)) (.cons (B15.sb (be8_length _)) (.cons (B18.sb (be8_length _)) (.cons (B21.sb (be8_length _)) (.nil _))))))) (by simp [layB]) (layB_length h) (by decide) (by decide) (by decide)) ?_
  rintro _ w1_23 ⟨A1, c1, rfl, o1, h1_23⟩
  refine ⟨_, rfl, ?_⟩
  have L1_23 := L1_22.trans h1_23
  refine ⟨fun _ => h1_23, ?_⟩
  refine G.any rfl rfl (.assign rfl) rfl rfl rfl ?_
  refine G.nil ?_
  refine E.thenN ?_
  refine WC.ret ?_
  refine E.ret1 rfl rfl ?_
  exact ⟨A1, c1, rfl, o1.mono (Nat.le_trans h0_0.size (Nat.le_trans d1.size (Nat.le_trans h1_3.size (Nat.le_trans h1_7.size (Nat.le_trans h1_11.size (Nat.le_trans h1_15.size (Nat.le_trans h1_18.size (Nat.le_trans h1_21.size h1_22.size)))))))), h0_0.trans L1_23⟩

theorem read_okO {A : Option Addr} {n c : Nat} {xs : List Byte} (w : World) (hS : Sb w A n xs) (h48 : 48 ≤ n) (hc : n ≤ c) : Calls Try.prog 118 #[.slice A n c] w fun e w' => e = .returned (.agg (hopV (readH xs)).toArray) ∧ Le w w' := by
  refine enter Try.func118 rfl rfl ?_
  have L0 := Le.refl w
  refine WC.seq ?_
  refine WC.region ?_
  refine W.ef rfl rfl rfl ?_
  refine Ef.allocA z95 ?_
  intro g0_0 w0_0 hg0_0 b0_0 h0_0
  have L0_0 := L0.trans h0_0
  have b0 : Blk w0_0 g0_0 95 #[.int .i64 0, .int .i64 0, .int .i64 0, .int .i64 0, .int .u64 0, .int .u64 0] := b0_0
  refine W.nil ?_
  refine E.thenN ?_
  refine WC.seq ?_
  refine WC.drawS (fun w1 w' => Ch w1 w' (some g0_0)) [0, 3, 4, 7, 8, 11, 12, 1, 2, 15, 5, 6, 9, 10, 13, 14, 16, 17, 18, 19, 20, 21, 22] mixed (by kernel_rfl) ?_
  intro w1 d1
  refine ⟨Ch.refl _ _, ?_⟩
  have L1 := L0_0.trans d1
  refine GS.any rfl rfl (.move rfl) rfl rfl rfl ?_
  refine GS.any rfl rfl (.move rfl) rfl rfl rfl ?_
  refine GS.any rfl rfl (.cutL (8) Try.underlying107 sz5 rfl rfl (rfl) (by omega) (hc)) rfl rfl rfl ?_
  refine GS.any rfl rfl (.move rfl) rfl rfl rfl ?_
  refine GS.any rfl rfl (.cutL (16) Try.underlying107 sz5 rfl rfl (rfl) (by omega) (hc)) rfl rfl rfl ?_
  refine GS.any rfl rfl (.move rfl) rfl rfl rfl ?_
  refine GS.any rfl rfl (.cutL (24) Try.underlying107 sz5 rfl rfl (rfl) (by omega) (hc)) rfl rfl rfl ?_
  refine GS.ef rfl rfl rfl rfl rfl ?_
  refine Ef.call go116 rfl rfl (number_ok w1 (hS.le L1) (by omega) hc) ?_
  rintro _ w1_1 ⟨rfl, h1_1⟩
  refine ⟨_, rfl, ?_⟩
  have L1_1 := L1.trans h1_1
  have k1_1 := h1_1.ch (some g0_0)
  refine ⟨k1_1, ?_⟩
  refine GS.rd rfl rfl (fun w' hs => .convEq (isS Try.underlying29) Try.underlying3 rfl (wrap_sgn _ (numB_lt _))) rfl rfl rfl ?_
  refine GS.any rfl rfl (.field0 fa95_0 rfl) rfl rfl rfl ?_
  refine GS.ef rfl rfl rfl rfl rfl ?_
  refine Ef.call go116 rfl rfl (number_ok w1_1 ((hS.le L1_1).cutL c 8 (by omega) hc) (by omega) (by omega)) ?_
  rintro _ w1_5 ⟨rfl, h1_5⟩
  refine ⟨_, rfl, ?_⟩
  have L1_5 := L1_1.trans h1_5
  have k1_5 := k1_1.trans (h1_5.ch _)
  refine ⟨k1_5, ?_⟩
  refine GS.rd rfl rfl (fun w' hs => .convEq (isS Try.underlying29) Try.underlying3 rfl (wrap_sgn _ (numB_lt _))) rfl rfl rfl ?_
  refine GS.ef rfl rfl rfl rfl rfl ?_
  refine Ef.call go116 rfl rfl (number_ok w1_5 ((hS.le L1_5).cutL c 16 (by omega) hc) (by omega) (by omega)) ?_
  rintro _ w1_9 ⟨rfl, h1_9⟩
  refine ⟨_, rfl, ?_⟩
  have L1_9 := L1_5.trans h1_9
  have k1_9 := k1_5.trans (h1_9.ch _)
  refine ⟨k1_9, ?_⟩
  refine GS.rd rfl rfl (fun w' hs => .convEq (isS Try.underlying29) Try.underlying3 rfl (wrap_sgn _ (numB_lt _))) rfl rfl rfl ?_
  refine GS.ef rfl rfl rfl rfl rfl ?_
  refine Ef.call go116 rfl rfl (number_ok w1_9 ((hS.le L1_9).cutL c 24 (by omega) hc) (by omega) (by omega)) ?_
  rintro _ w1_13 ⟨rfl, h1_13⟩
  refine ⟨_, rfl, ?_⟩
  have L1_13 := L1_9.trans h1_13
  have k1_13 := k1_9.trans (h1_13.ch _)
  refine ⟨k1_13, ?_⟩
  refine GS.rd rfl rfl (fun w' hs => .convEq (isS Try.underlying29) Try.underlying3 rfl (wrap_sgn _ (numB_lt _))) rfl rfl rfl ?_
  refine GS.ef0 rfl rfl rfl rfl ?_
  refine Ef.store sz3 rfl rfl (b0.le (d1.trans (h1_1.trans (h1_5.trans (h1_9.trans h1_13))))) (by simp) (rfl) ?_
  intro w1_16 b1_16 h1_16
  have L1_16 : Le w w1_16 := L1_13.then_ h1_16 (fun q hq => by cases hq; exact hg0_0)
  have k1_16 := k1_13.trans h1_16
  refine ⟨k1_16, ?_⟩
  refine GS.any rfl rfl (.field0 fa95_1 rfl) rfl rfl rfl ?_
  refine GS.ef0 rfl rfl rfl rfl ?_
  refine Ef.store sz3 rfl rfl (b1_16) (by simp) (rfl) ?_
  intro w1_18 b1_18 h1_18
  have L1_18 : Le w w1_18 := L1_16.then_ h1_18 (fun q hq => by cases hq; exact hg0_0)
  have k1_18 := k1_16.trans h1_18
  refine ⟨k1_18, ?_⟩
  refine GS.any rfl rfl (.field0 fa95_2 rfl) rfl rfl rfl ?_
  refine GS.ef0 rfl rfl rfl rfl ?_
  refine Ef.store sz3 rfl rfl (b1_18) (by simp) (rfl) ?_
  intro w1_20 b1_20 h1_20
  have L1_20 : Le w w1_20 := L1_18.then_ h1_20 (fun q hq => by cases hq; exact hg0_0)
  have k1_20 := k1_18.trans h1_20
  refine ⟨k1_20, ?_⟩
  refine GS.any rfl rfl (.field0 fa95_3 rfl) rfl rfl rfl ?_
  refine GS.ef0 rfl rfl rfl rfl ?_
  refine Ef.store sz3 rfl rfl (b1_20) (by simp) (rfl) ?_
  intro w1_22 b1_22 h1_22
  have L1_22 : Le w w1_22 := L1_20.then_ h1_22 (fun q hq => by cases hq; exact hg0_0)
  have k1_22 := k1_20.trans h1_22
  refine ⟨k1_22, ?_⟩
  refine GS.nil ?_
  refine E.thenN ?_
  refine WC.seq ?_
  refine WC.draw [0, 1, 3, 4, 2, 6, 5, 7, 8, 9] mixed (by kernel_rfl) ?_
  intro w2 d2
  have L2 := L1_22.trans d2
  refine G.any rfl rfl (.move rfl) rfl rfl rfl ?_
  refine G.any rfl rfl (.cutL (32) Try.underlying107 sz5 rfl rfl (rfl) (by omega) (hc)) rfl rfl rfl ?_
  refine G.any rfl rfl (.move rfl) rfl rfl rfl ?_
  refine G.any rfl rfl (.cutL (40) Try.underlying107 sz5 rfl rfl (rfl) (by omega) (hc)) rfl rfl rfl ?_
  refine G.ef rfl rfl rfl rfl rfl ?_
  refine Ef.call go116 rfl rfl (number_ok w2 ((hS.le L2).cutL c 32 (by omega) hc) (by omega) (by omega)) ?_
  rintro _ w2_2 ⟨rfl, h2_2⟩
  refine ⟨_, rfl, ?_⟩
  have L2_2 := L2.trans h2_2
  refine ⟨fun _ => h2_2, ?_⟩
  refine G.any rfl rfl (.field0 fa95_4 rfl) rfl rfl rfl ?_
  refine G.ef rfl rfl rfl rfl rfl ?_
  refine Ef.call go116 rfl rfl (number_ok w2_2 ((hS.le L2_2).cutL c 40 (by omega) hc) (by omega) (by omega)) ?_
  rintro _ w2_5 ⟨rfl, h2_5⟩
  refine ⟨_, rfl, ?_⟩
  have L2_5 := L2_2.trans h2_5
  refine ⟨fun _ => h2_5, ?_⟩
  refine G.ef0 rfl rfl rfl rfl ?_
  refine Ef.store sz31 rfl rfl (b1_22.le (d2.trans (h2_2.trans h2_5))) (by simp) (rfl) ?_
  intro w2_7 b2_7 h2_7
  have L2_7 : Le w w2_7 := L2_5.then_ h2_7 (fun q hq => by cases hq; exact hg0_0)
  refine ⟨fun h => absurd h (ne_true_of_eq_false (by kernel_rfl)), ?_⟩
  refine G.any rfl rfl (.field0 fa95_5 rfl) rfl rfl rfl ?_
  refine G.ef0 rfl rfl rfl rfl ?_
  refine Ef.store sz30 rfl rfl (b2_7) (by simp) (rfl) ?_
  intro w2_9 b2_9 h2_9
  have L2_9 : Le w w2_9 := L2_7.then_ h2_9 (fun q hq => by cases hq; exact hg0_0)
  refine ⟨fun h => absurd h (ne_true_of_eq_false (by kernel_rfl)), ?_⟩
  have b9 : Blk w2_9 g0_0 95 (hopV (readH xs)).toArray := b2_9.cast (by rfl)
  refine G.nil ?_
  refine E.thenN ?_
  refine WC.seq ?_
  refine WC.region ?_
  refine W.rd (.loadAll ag95 (by rfl) rfl (b9)) rfl rfl rfl ?_
  refine W.ef0 rfl rfl ?_
  refine Ef.storeAll sz95 (by rfl) rfl rfl (b9) (by rfl) (hopV_one _) ?_
  intro w3_1 b3_1 h3_1
  have L3_1 : Le w w3_1 := L2_9.then_ h3_1 (fun q hq => by cases hq; exact hg0_0)
  refine W.nil ?_
  refine E.thenN ?_
  refine WC.ret ?_
  refine E.retC rfl rfl b3_1 ag95 (by rfl) ?_
  exact ⟨rfl, L3_1⟩

theorem stopped_ok (ee both : Nat) (w : World) : Calls Try.prog 117 #[.int .u64 ((ee : Nat) : Int), .int .u64 ((both : Nat) : Int)] w fun e w' => e = .returned (.agg (stopV (ee, sharedB both)).toArray) ∧ Le w w' := by
  refine enter Try.func117 rfl rfl ?_
  have L0 := Le.refl w
  refine WC.seq ?_
  refine WC.region ?_
  refine W.ef rfl rfl rfl ?_
  refine Ef.allocA z179 ?_
  intro g0_0 w0_0 hg0_0 b0_0 h0_0
  have L0_0 := L0.trans h0_0
  refine W.nil ?_
  refine E.thenN ?_
  refine WC.seq ?_
  refine WC.region ?_
  refine W.any (.move rfl) rfl rfl rfl ?_
  refine W.any (.move rfl) rfl rfl rfl ?_
  refine W.ef rfl rfl rfl ?_
  refine Ef.call go115 rfl rfl (eight_ok both w0_0) ?_
  rintro _ w1_2 ⟨g2, rfl, hg2, B2, h1_2⟩
  refine ⟨_, rfl, ?_⟩
  have L1_2 := L0_0.trans h1_2
  refine W.ef rfl rfl rfl ?_
  refine Ef.buildSlice1 Try.underlying211 el107 rfl rfl ?_
  intro g1_3 w1_3 hg1_3 b1_3 h1_3
  have L1_3 := L1_2.trans h1_3
  have B2 := B2.le h1_3
  refine W.ef rfl rfl rfl ?_
  refine Ef.call go107 rfl rfl (tag_ok _ nShared w1_3 (ps := [be8 both]) rfl (b1_3.sl (s := 1) (n := 1) rfl) (.cons (B2.sb (be8_length _)) (.nil _)) (by rw [tagLen1, be8_length]; decide)) ?_
  rintro _ w1_4 ⟨rfl, h1_4⟩
  refine ⟨_, rfl, ?_⟩
  have L1_4 := L1_3.trans h1_4
  refine W.any (.as (Any.buildAll [.int .u64 (ee : Nat), .agg ((sharedB both).map u8v).toArray] pl179 z179 rfl ⟨rfl, by simp [Value.cells, sharedB_length], trivial⟩ (by simp [flatV, Value.cells, sharedB_length])) (show _ = Value.agg (stopV (ee, sharedB both)).toArray by simp [flatV, Value.cells, stopV])) rfl rfl rfl ?_
  refine W.ef0 rfl rfl ?_
  refine Ef.storeAll sz179 (by simp [stopV, sharedB_length]) rfl rfl (((b0_0.le h1_2).le h1_3).le h1_4) (by simp [stopV, sharedB_length]) (stopV_one _) ?_
  intro w1_6 b1_6 h1_6
  have L1_6 : Le w w1_6 := L1_4.then_ h1_6 (fun q hq => by cases hq; exact hg0_0)
  refine W.nil ?_
  refine E.thenN ?_
  refine WC.ret ?_
  refine E.retC rfl rfl b1_6 ag179 (by simp [stopV, sharedB_length]) ?_
  exact ⟨rfl, L1_6⟩

theorem blind_ok (s : Stop) (hs : s.2.length = 32) (w : World) : Calls Try.prog 119 #[.agg (stopV s).toArray] w fun e w' => e = .returned (.int .u64 ((blindB s : Nat) : Int)) ∧ Le w w' := by
  refine enter Try.func119 rfl rfl ?_
  have L0 := Le.refl w
  refine WC.seq ?_
  refine WC.region ?_
  refine W.ef rfl rfl rfl ?_
  refine Ef.boxA rfl ?_
  intro g0_0 w0_0 hg0_0 b0_0 h0_0
  have L0_0 := L0.trans h0_0
  have LL := Le.refl w0_0
  refine W.any (.assign rfl) rfl rfl rfl ?_
  refine W.nil ?_
  refine E.thenN ?_
  refine WC.seq ?_
  refine WC.draw [0, 1, 3, 4, 2, 5, 6, 7, 8] mixed (by kernel_rfl) ?_
  intro w1 d1
  have L1 := LL.trans d1
  refine G.any rfl rfl (.field0 fa179_0 rfl) rfl rfl rfl ?_
  refine G.rd rfl rfl (.loadB na31 rfl (b0_0.le L1) (rfl)) rfl rfl rfl ?_
  refine G.any rfl rfl (.field0 fa179_1 rfl) rfl rfl rfl ?_
  refine G.any rfl rfl (.cutArrO Try.underlying89 sz5 (by decide) rfl) rfl rfl rfl ?_
  refine G.ef rfl rfl rfl rfl rfl ?_
  refine Ef.call go115 rfl rfl (eight_ok s.1 w1) ?_
  rintro _ w1_2 ⟨g2, rfl, hg2, B2, h1_2⟩
  refine ⟨_, rfl, ?_⟩
  have L1_2 := L1.trans h1_2
  refine ⟨fun _ => h1_2, ?_⟩
  refine G.ef rfl rfl rfl rfl rfl ?_
  refine Ef.buildSliceN [_, _] Try.underlying211 el107 rfl (one2 _ _ _ _ _ _) rfl (by decide) (by decide) ?_
  intro g1_5 w1_5 hg1_5 b1_5 h1_5
  have L1_5 := L1_2.trans h1_5
  refine ⟨fun _ => h1_5, ?_⟩
  refine G.ef rfl rfl rfl rfl rfl ?_
  refine Ef.call go107 rfl rfl (tag_ok _ nBlind w1_5 (ps := [be8 s.1, s.2]) rfl (b1_5.sl (s := 1) (n := 2) rfl) (.cons ((B2.le h1_5).sb (be8_length _)) (.cons ((b0_0.le L1_5).sbAt 1 32 s.2 hs (stopV_at s)) (.nil _))) (by rw [tagLen2, be8_length, hs]; decide)) ?_
  rintro _ w1_6 ⟨rfl, h1_6⟩
  refine ⟨_, rfl, ?_⟩
  have L1_6 := L1_5.trans h1_6
  refine ⟨fun _ => h1_6, ?_⟩
  refine G.ef rfl rfl rfl rfl rfl ?_
  refine Ef.call go139 rfl rfl (from_ok _ (tag_length _ _) w1_6) ?_
  rintro _ w1_7 ⟨rfl, h1_7⟩
  refine ⟨_, rfl, ?_⟩
  have L1_7 := L1_6.trans h1_7
  refine ⟨fun _ => h1_7, ?_⟩
  refine G.any rfl rfl (.assign rfl) rfl rfl rfl ?_
  refine G.nil ?_
  refine E.thenN ?_
  refine WC.ret ?_
  refine E.ret1 rfl rfl ?_
  exact ⟨rfl, h0_0.trans L1_7⟩

theorem rho_ok (s : Stop) (hs : s.2.length = 32) (n : Nat) (hn : n ≤ 65536) (w : World) : Calls Try.prog 112 #[.agg (stopV s).toArray, .int .i64 (n : Int)] w fun e w' => ∃ A c, e = .returned (.slice A n c) ∧ Own w' w.heap.size 5 1 A n c ((rho s n).map u8v) ∧ Le w w' := by
  refine enter Try.func112 rfl rfl ?_
  have L0 := Le.refl w
  refine WC.seq ?_
  refine WC.region ?_
  refine W.ef rfl rfl rfl ?_
  refine Ef.boxA rfl ?_
  intro g0_0 w0_0 hg0_0 b0_0 h0_0
  have L0_0 := L0.trans h0_0
  have LL := Le.refl w0_0
  refine W.any (.assign rfl) rfl rfl rfl ?_
  refine W.nil ?_
  refine E.thenN ?_
  refine WC.seq ?_
  refine WC.region ?_
  refine W.any (.field0 fa179_1 rfl) rfl rfl rfl ?_
  refine W.any (.cutArrO Try.underlying89 sz5 (by decide) rfl) rfl rfl rfl ?_
  refine W.ef rfl rfl rfl ?_
  refine Ef.buildSlice1 Try.underlying211 el107 rfl rfl ?_
  intro g1_2 w1_2 hg1_2 b1_2 h1_2
  have L1_2 := LL.trans h1_2
  refine W.ef rfl rfl rfl ?_
  refine Ef.call go107 rfl rfl (tag_ok _ nRho w1_2 (ps := [s.2]) rfl (b1_2.sl (s := 1) (n := 1) rfl) (.cons ((b0_0.le L1_2).sbAt 1 32 s.2 hs (stopV_at s)) (.nil _)) (by rw [tagLen1, hs]; decide)) ?_
  rintro _ w1_3 ⟨rfl, h1_3⟩
  refine ⟨_, rfl, ?_⟩
  have L1_3 := L1_2.trans h1_3
  refine W.any (.move rfl) rfl rfl rfl ?_
  refine W.ef rfl rfl rfl ?_
  refine Ef.call go106 rfl rfl (stream_ok _ (tag_length _ _) n hn w1_3) ?_
  rintro _ w1_5 ⟨A1, c1, rfl, o1, h1_5⟩
  refine ⟨_, rfl, ?_⟩
  have L1_5 := L1_3.trans h1_5
  refine W.any (.assign rfl) rfl rfl rfl ?_
  refine W.nil ?_
  refine E.thenN ?_
  refine WC.ret ?_
  refine E.ret1 rfl rfl ?_
  exact ⟨A1, c1, rfl, o1.mono (h0_0.trans L1_3).size, h0_0.trans L1_5⟩

theorem mac_ok (s : Stop) (hs : s.2.length = 32) {A : Option Addr} {n c : Nat} {xs : List Byte} (w : World) (hS : Sb w A n xs) (hn : n ≤ 1000000) : Calls Try.prog 114 #[.agg (stopV s).toArray, .slice A n c] w fun e w' => e = .returned (.agg ((macB s xs).map u8v).toArray) ∧ Le w w' := by
  refine enter Try.func114 rfl rfl ?_
  have L0 := Le.refl w
  refine WC.seq ?_
  refine WC.region ?_
  refine W.ef rfl rfl rfl ?_
  refine Ef.boxA rfl ?_
  intro g0_0 w0_0 hg0_0 b0_0 h0_0
  have L0_0 := L0.trans h0_0
  have LL := Le.refl w0_0
  refine W.ef rfl rfl rfl ?_
  refine Ef.allocA z89 ?_
  intro g0_1 w0_1 hg0_1 b0_1 h0_1
  have L0_1 := LL.trans h0_1
  refine W.nil ?_
  refine E.thenN ?_
  refine WC.seq ?_
  refine WC.region ?_
  refine W.any (.field0 fa179_1 rfl) rfl rfl rfl ?_
  refine W.any (.cutArrO Try.underlying89 sz5 (by decide) rfl) rfl rfl rfl ?_
  refine W.any (.move rfl) rfl rfl rfl ?_
  refine W.ef rfl rfl rfl ?_
  refine Ef.buildSliceN [_, _] Try.underlying211 el107 rfl (one2 _ _ _ _ _ _) rfl (by decide) (by decide) ?_
  intro g1_3 w1_3 hg1_3 b1_3 h1_3
  have L1_3 := L0_1.trans h1_3
  refine W.ef rfl rfl rfl ?_
  refine Ef.call go107 rfl rfl (tag_ok _ nMac w1_3 (ps := [s.2, xs]) rfl (b1_3.sl (s := 1) (n := 2) rfl) (.cons ((b0_0.le L1_3).sbAt 1 32 s.2 hs (stopV_at s)) (.cons (hS.le (h0_0.trans L1_3)) (.nil _))) (by rw [tagLen2, hs, hS.len]; show 24 + 3 + 32 + n ≤ _; omega)) ?_
  rintro _ w1_4 ⟨rfl, h1_4⟩
  refine ⟨_, rfl, ?_⟩
  have L1_4 := L1_3.trans h1_4
  refine W.ef0 rfl rfl ?_
  refine Ef.storeAll sz89 (by simp [tag_length]) rfl rfl ((b0_1.le h1_3).le h1_4) (by simp [tag_length]) (all_u8v _) ?_
  intro w1_5 b1_5 h1_5
  have L1_5 : Le w0_0 w1_5 := L1_4.then_ h1_5 (fun q hq => by cases hq; exact hg0_1)
  refine W.nil ?_
  refine E.thenN ?_
  refine WC.ret ?_
  refine E.retC rfl rfl b1_5 ag89 (by simp [tag_length]) ?_
  exact ⟨rfl, h0_0.trans L1_5⟩

theorem pright_T (a : Nat) (ha : a < 18446744073709551616) (h : right a = true) (w : World) : Calls Try.prog 90 #[.int .u64 ((a : Nat) : Int)] w fun e w' => e = .returned (.bool true) ∧ Le w w' := by
  have := pright_ok a ha w
  rwa [h] at this

theorem pright_F (a : Nat) (ha : a < 18446744073709551616) (h : right a = false) (w : World) : Calls Try.prog 90 #[.int .u64 ((a : Nat) : Int)] w fun e w' => e = .returned (.bool false) ∧ Le w w' := by
  have := pright_ok a ha w
  rwa [h] at this

set_option maxHeartbeats 1000000 in
theorem way_ok (seed : List Byte) (hse : seed.length = 32) {A : Option Addr} {n c : Nat} {ks : List Nat} (w : World) (hK : Sl w 1 A n (ks.map pv)) (hks : ∀ k ∈ ks, k < 18446744073709551616) (hn : n ≤ 1000000) : Calls Try.prog 104 #[.slice A n c, .agg (seed.map u8v).toArray] w fun e w' => Le w w' ∧ ((keysOk ks = true ∧ ∃ A' c', e = .returned (.tuple #[.slice A' n c', .bool true]) ∧ Own w' w.heap.size 179 33 A' n c' (stopRows (wayB (startX seed) ks)).flatten) ∨ (keysOk ks = false ∧ e = .returned (.tuple #[.slice none 0 0, .bool false]))) := by
  have hkl0 := hK.1
  rw [List.length_map, Nat.mul_one] at hkl0
  refine enter Try.func104 rfl rfl ?_
  have L0 := Le.refl w
  refine WC.seq ?_
  refine WC.region ?_
  refine W.ef rfl rfl rfl ?_
  refine Ef.boxA rfl ?_
  intro g0_0 w0_0 hg0_0 b0_0 h0_0
  have L0_0 := L0.trans h0_0
  refine W.any (.assign rfl) rfl rfl rfl ?_
  refine W.any (.assign rfl) rfl rfl rfl ?_
  refine W.nil ?_
  refine E.thenN ?_
  refine WC.seq ?_
  refine WC.seq ?_
  refine WC.region ?_
  refine W.any (.move rfl) rfl rfl rfl ?_
  refine W.rd (.len Try.underlying60 rfl) rfl rfl rfl ?_
  by_cases hl1 : n < 1
  · refine W.any (.dec (.lss rfl rfl) (decide_eq_true (by omega))) rfl rfl rfl ?_
    refine W.any (.move rfl) rfl rfl rfl ?_
    refine W.skip rfl rfl rfl (rfl) rfl rfl ?_
    refine W.skip rfl rfl rfl (rfl) rfl rfl ?_
    refine W.skip rfl rfl rfl (rfl) rfl rfl ?_
    refine W.any (.pickT rfl rfl rfl) rfl rfl rfl ?_
    refine W.nil ?_
    refine E.thenN ?_
    refine WC.condT rfl ?_
    refine WC.seq ?_
    refine WC.region ?_
    refine W.any (.assign rfl) rfl rfl rfl ?_
    refine W.any (.assign rfl) rfl rfl rfl ?_
    refine W.nil ?_
    refine E.thenN ?_
    refine WC.ret ?_
    refine E.thenR ?_
    refine E.ret2 rfl rfl rfl ?_
    exact ⟨L0_0, .inr ⟨by simp [keysOk]; omega, rfl⟩⟩
  · refine W.any (.dec (.lss rfl rfl) (decide_eq_false (by omega))) rfl rfl rfl ?_
    refine W.any (.move rfl) rfl rfl rfl ?_
    refine W.rdg (Any.rd (.move rfl) _) rfl rfl rfl (rfl) rfl rfl ?_
    refine W.rdg (.len Try.underlying60 rfl) rfl rfl rfl (rfl) rfl rfl ?_
    by_cases hl8 : 8 < n
    · refine W.rdg (Any.rd (.dec (.gtr rfl rfl) (decide_eq_true (by omega))) _) rfl rfl rfl (rfl) rfl rfl ?_
      refine W.any (.pickF rfl rfl rfl) rfl rfl rfl ?_
      refine W.nil ?_
      refine E.thenN ?_
      refine WC.condT rfl ?_
      refine WC.seq ?_
      refine WC.region ?_
      refine W.any (.assign rfl) rfl rfl rfl ?_
      refine W.any (.assign rfl) rfl rfl rfl ?_
      refine W.nil ?_
      refine E.thenN ?_
      refine WC.ret ?_
      refine E.thenR ?_
      refine E.ret2 rfl rfl rfl ?_
      exact ⟨L0_0, .inr ⟨by simp [keysOk]; omega, rfl⟩⟩
    · refine W.rdg (Any.rd (.dec (.gtr rfl rfl) (decide_eq_false (by omega))) _) rfl rfl rfl (rfl) rfl rfl ?_
      refine W.any (.pickF rfl rfl rfl) rfl rfl rfl ?_
      refine W.nil ?_
      refine E.thenN ?_
      refine WC.condF rfl ?_
      refine WC.skip ?_
      refine E.thenN ?_
      refine WC.seq ?_
      refine WC.region ?_
      refine W.any (.cutArr Try.underlying89 sz5 rfl) rfl rfl rfl ?_
      refine W.ef rfl rfl rfl ?_
      refine Ef.buildSlice1 Try.underlying211 el107 rfl rfl ?_
      intro g3_1 w3_1 hg3_1 b3_1 h3_1
      have L3_1 := L0_0.trans h3_1
      refine W.ef rfl rfl rfl ?_
      refine Ef.call go107 rfl rfl (tag_ok _ nOnion w3_1 (ps := [seed]) rfl (b3_1.sl (s := 1) (n := 1) rfl) (.cons ((b0_0.le h3_1).sb hse) (.nil _)) (by rw [tagLen1, hse]; decide)) ?_
      rintro _ w3_2 ⟨rfl, h3_2⟩
      refine ⟨_, rfl, ?_⟩
      have L3_2 := L3_1.trans h3_2
      refine W.ef rfl rfl rfl ?_
      refine Ef.call go139 rfl rfl (from_ok _ (tag_length _ _) w3_2) ?_
      rintro _ w3_3 ⟨rfl, h3_3⟩
      refine ⟨_, rfl, ?_⟩
      have L3_3 := L3_2.trans h3_3
      refine W.any (.assign rfl) rfl rfl rfl ?_
      refine W.nil ?_
      refine E.thenN ?_
      refine WC.seq ?_
      refine WC.seq ?_
      refine WC.region ?_
      refine W.any (.move rfl) rfl rfl rfl ?_
      refine W.rd (.len Try.underlying60 rfl) rfl rfl rfl ?_
      refine W.any (.move rfl) rfl rfl rfl ?_
      refine W.nil ?_
      refine E.thenN ?_
      refine WC.block ?_
      refine WC.loop (ι := Nat × Option Addr × Nat) (fun ⟨k, A1, cp⟩ => [(4, .slice A1 k cp), (6, .int .u64 ((xAt (startX seed) (ks.take k) : Nat) : Int)), (22, .slice A n c), (23, .int .i64 (n : Int)), (24, .int .i64 (k : Int))]) (fun ⟨k, A1, cp⟩ wl => k ≤ n ∧ Le w wl ∧ (ks.take k).all keyOk = true ∧ Own wl w.heap.size 179 33 A1 k cp (stopRows (wayB (startX seed) (ks.take k))).flatten) (fun ⟨k, A1, cp⟩ => n - k) (0, none, 0) ?_ ?_ ?_
      · exact .cons rfl (.cons rfl (.cons rfl (.cons rfl (.cons rfl (.nil _)))))
      · exact ⟨Nat.zero_le _, L3_3, rfl, Own.nil _ _ _ _ _⟩
      · rintro ⟨k, A1, cp⟩ wl ⟨hk, Ll, hall, ol⟩
        refine WC.seq ?_
        refine WC.region ?_
        refine W.any (.lss rfl rfl) rfl rfl rfl ?_
        refine W.nil ?_
        refine E.thenN ?_
        refine WC.seq ?_
        refine WC.cond rfl (fun c1 => ?_) (fun c1 => ?_)
        · have hkey := getn ks (show k < ks.length by omega)
          have hkl : ks.getD k 0 < 18446744073709551616 := hks _ (List.mem_of_getElem? hkey)
          refine WC.skip ?_
          refine E.thenN ?_
          refine WC.seq ?_
          refine WC.block ?_
          refine WC.seq ?_
          refine WC.region ?_
          refine W.any (.idxS1 (k) Try.underlying60 sz31 rfl rfl (hK.isSome (j := k) (by omega) (by decide)) (rfl) (by omega)) rfl rfl rfl ?_
          refine W.rd (.loadS na31 rfl (hK.le Ll) (getp ks (by omega))) rfl rfl rfl ?_
          refine W.any (.assign rfl) rfl rfl rfl ?_
          refine W.nil ?_
          refine E.thenN ?_
          refine WC.seq ?_
          refine WC.seq ?_
          refine WC.region ?_
          refine W.any (.move rfl) rfl rfl rfl ?_
          by_cases hk1 : ks.getD k 0 = 1
          · refine W.any (.dec (.eql rfl rfl) (decide_eq_true (by omega))) rfl rfl rfl ?_
            refine W.any (.move rfl) rfl rfl rfl ?_
            refine W.skip rfl rfl rfl (rfl) rfl rfl ?_
            refine W.skip rfl rfl rfl (rfl) rfl rfl ?_
            refine W.skip rfl rfl rfl (rfl) rfl rfl ?_
            refine W.any (.pickT rfl rfl rfl) rfl rfl rfl ?_
            refine W.nil ?_
            refine E.thenN ?_
            refine WC.condT rfl ?_
            refine WC.seq ?_
            refine WC.region ?_
            refine W.any (.assign rfl) rfl rfl rfl ?_
            refine W.any (.assign rfl) rfl rfl rfl ?_
            refine W.nil ?_
            refine E.thenN ?_
            refine WC.ret ?_
            refine E.thenR ?_
            refine E.blkR ?_
            refine E.thenR ?_
            refine E.thenR ?_
            refine E.blkR ?_
            refine E.thenR ?_
            refine E.ret2 rfl rfl rfl ?_
            exact ⟨Ll, .inr ⟨key_bad ks k _ hkey (by rw [hk1]; rfl), rfl⟩⟩
          · refine W.any (.dec (.eql rfl rfl) (decide_eq_false (by omega))) rfl rfl rfl ?_
            refine W.any (.move rfl) rfl rfl rfl ?_
            refine W.rdg (Any.rd (.move rfl) _) rfl rfl rfl (rfl) rfl rfl ?_
            by_cases hrt : right (ks.getD k 0) = true
            · refine W.efg rfl rfl rfl (rfl) rfl rfl ?_
              refine Ef.call go90 rfl rfl (pright_T _ hkl hrt wl) ?_
              rintro _ w7_4 ⟨rfl, h7_4⟩
              refine ⟨_, rfl, ?_⟩
              have L7_4 := Ll.trans h7_4
              refine W.rdg (Any.rd (.not rfl) _) rfl rfl rfl (rfl) rfl rfl ?_
              refine W.any (.pickF rfl rfl rfl) rfl rfl rfl ?_
              refine W.nil ?_
              refine E.thenN ?_
              refine WC.condF rfl ?_
              refine WC.skip ?_
              refine E.thenN ?_
              refine WC.seq ?_
              refine WC.region ?_
              refine W.any (.move rfl) rfl rfl rfl ?_
              refine W.ef rfl rfl rfl ?_
              refine Ef.call go49 rfl rfl (base_ok _ w7_4) ?_
              rintro _ w9_1 ⟨rfl, h9_1⟩
              refine ⟨_, rfl, ?_⟩
              have L9_1 := L7_4.trans h9_1
              refine W.any (.move rfl) rfl rfl rfl ?_
              refine W.any (.move rfl) rfl rfl rfl ?_
              refine W.ef rfl rfl rfl ?_
              refine Ef.call go93 rfl rfl (scale_ok _ _ hkl w9_1) ?_
              rintro _ w9_4 ⟨rfl, h9_4⟩
              refine ⟨_, rfl, ?_⟩
              have L9_4 := L9_1.trans h9_4
              refine W.ef rfl rfl rfl ?_
              refine Ef.call go117 rfl rfl (stopped_ok _ _ w9_4) ?_
              rintro _ w9_5 ⟨rfl, h9_5⟩
              refine ⟨_, rfl, ?_⟩
              have L9_5 := L9_4.trans h9_5
              refine W.ef rfl rfl rfl ?_
              refine Ef.allocA z179 ?_
              intro g9_6 w9_6 hg9_6 b9_6 h9_6
              have L9_6 := L9_5.trans h9_6
              refine W.ef0 rfl rfl ?_
              refine Ef.storeAll sz179 (by simp [stopV, sharedB_length]) rfl rfl (b9_6) (by simp [stopV, sharedB_length]) (stopV_one _) ?_
              intro w9_7 b9_7 h9_7
              have L9_7 : Le w w9_7 := L9_6.then_ h9_7 (fun q hq => by cases hq; exact Nat.le_trans L9_5.size hg9_6)
              have ol2 := (ol.le (h7_4.trans (h9_1.trans (h9_4.trans (h9_5.trans h9_6))))).ch h9_7 (fun q hq => by cases hq; exact fun he => by have := (ol.row he).2; have := h7_4.size; have := h9_1.size; have := h9_4.size; have := h9_5.size; omega)
              have hrow : ∀ q, rowOf A1 cp = some q → q ≠ g9_6 := fun q hq he => by subst he; have := (ol.row hq).2; have := h7_4.size; have := h9_1.size; have := h9_4.size; have := h9_5.size; omega
              refine W.nil ?_
              refine E.thenN ?_
              refine WC.drawS (fun w10 w' => Ch w10 w' (rowOf A1 cp)) [0, 1, 4, 5, 2, 3, 6, 7, 8, 9] mixed (by kernel_rfl) ?_
              intro w10 d10
              refine ⟨Ch.refl _ _, ?_⟩
              have L10 := L9_7.trans d10
              have ol3 := ol2.le d10
              have b9 := b9_7.le d10
              refine GS.any rfl rfl (.move rfl) rfl rfl rfl ?_
              refine GS.rd rfl rfl (fun w' hs => .loadAll ag179 (by simp [stopV, sharedB_length]) rfl (b9.ch hs (fun he => hrow _ he rfl))) rfl rfl rfl ?_
              refine GS.any rfl rfl (.move rfl) rfl rfl rfl ?_
              refine GS.rd rfl rfl (fun w' hs => .loadAll ag179 (by simp [stopV, sharedB_length]) rfl (b9.ch hs (fun he => hrow _ he rfl))) rfl rfl rfl ?_
              refine GS.ef rfl rfl rfl rfl rfl ?_
              refine Ef.buildSliceA Try.underlying169 el179 (by decide) rfl (by simp [stopV, sharedB_length]) ?_
              intro g10_2 w10_2 hg10_2 b10_2 h10_2
              have L10_2 := L10.trans h10_2
              refine ⟨h10_2.ch _, ?_⟩
              refine GS.ef rfl rfl rfl rfl rfl ?_
              refine Ef.append Try.underlying169 el179 rfl (ol3.le h10_2) rfl (b10_2.srcA Try.underlying169 (by simp [stopV, sharedB_length]) (by decide) (stopV_one _)) (by omega) (by unfold maxLen; omega) (L10_2.size) ?_
              intro A10_3 c10_3 w10_3 o10_3 h10_3 at10_3
              have L10_3 : Le w w10_3 := L10_2.then_ h10_3 (fun q hq => (ol.row hq).1)
              refine ⟨(h10_2.ch _).trans h10_3, ?_⟩
              have oo := o10_3
              refine GS.ef rfl rfl rfl rfl rfl ?_
              refine Ef.call go119 rfl rfl (blind_ok _ (sharedB_length _) w10_3) ?_
              rintro _ w10_6 ⟨rfl, h10_6⟩
              refine ⟨_, rfl, ?_⟩
              have L10_6 := L10_3.trans h10_6
              refine ⟨((h10_2.ch _).trans h10_3).trans (h10_6.ch _), ?_⟩
              refine GS.ef rfl rfl rfl rfl rfl ?_
              refine Ef.call go143 rfl rfl (fmul_ok _ _ w10_6) ?_
              rintro _ w10_7 ⟨rfl, h10_7⟩
              refine ⟨_, rfl, ?_⟩
              have L10_7 := L10_6.trans h10_7
              refine ⟨(((h10_2.ch _).trans h10_3).trans (h10_6.ch _)).trans (h10_7.ch _), ?_⟩
              refine GS.any rfl rfl (.assign rfl) rfl rfl rfl ?_
              refine GS.any rfl rfl (.assign rfl) rfl rfl rfl ?_
              refine GS.nil ?_
              refine E.blkN ?_
              refine E.thenN ?_
              refine WC.region ?_
              refine W.any (.add rfl rfl (by omega)) rfl rfl rfl ?_
              refine W.any (.move rfl) rfl rfl rfl ?_
              refine W.nil ?_
              refine E.again (k + 1, A10_3, c10_3) (.cons rfl (.cons' rfl (int_eq (congrArg Nat.cast (by rw [xAt_snoc _ ks k _ hkey]; rfl))) (.cons rfl (.cons rfl (.cons rfl (.nil _)))))) ?_ ?_
              · exact ⟨by omega, L10_7, by rw [keys_all ks k _ hkey hall]; exact keyOk_yes hk1 hrt, (oo.le (h10_6.trans h10_7)).cast rfl (by rw [wayB_snoc _ ks k _ hkey]; simp [stopRows, stopB])⟩
              · first | omega | (simp only []; omega)
            · refine W.efg rfl rfl rfl (rfl) rfl rfl ?_
              refine Ef.call go90 rfl rfl (pright_F _ hkl (by simpa using hrt) wl) ?_
              rintro _ w7_4 ⟨rfl, h7_4⟩
              refine ⟨_, rfl, ?_⟩
              have L7_4 := Ll.trans h7_4
              refine W.rdg (Any.rd (.not rfl) _) rfl rfl rfl (rfl) rfl rfl ?_
              refine W.any (.pickF rfl rfl rfl) rfl rfl rfl ?_
              refine W.nil ?_
              refine E.thenN ?_
              refine WC.condT rfl ?_
              refine WC.seq ?_
              refine WC.region ?_
              refine W.any (.assign rfl) rfl rfl rfl ?_
              refine W.any (.assign rfl) rfl rfl rfl ?_
              refine W.nil ?_
              refine E.thenN ?_
              refine WC.ret ?_
              refine E.thenR ?_
              refine E.blkR ?_
              refine E.thenR ?_
              refine E.thenR ?_
              refine E.blkR ?_
              refine E.thenR ?_
              refine E.ret2 rfl rfl rfl ?_
              exact ⟨L7_4, .inr ⟨key_bad ks k _ hkey (keyOk_no (by simpa using hrt)), rfl⟩⟩
        · have hkn : n = k := by omega
          subst hkn
          rw [List.take_of_length_le (by omega)] at hall ol
          refine WC.exit ?_
          refine E.thenX ?_
          refine E.thenX ?_
          refine E.blkH ?_
          refine E.thenN ?_
          refine WC.seq ?_
          refine WC.region ?_
          refine W.any (.move rfl) rfl rfl rfl ?_
          refine W.any (.assign rfl) rfl rfl rfl ?_
          refine W.any (.assign rfl) rfl rfl rfl ?_
          refine W.nil ?_
          refine E.thenN ?_
          refine WC.ret ?_
          refine E.ret2 rfl rfl rfl ?_
          exact ⟨Ll, .inl ⟨by rw [keysOk, hall]; simp; omega, A1, cp, rfl, ol⟩⟩
end Go.Proofs.Ytfgakofjkldcjaa
