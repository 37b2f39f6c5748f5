/- The onion's small functions (layer 31), and slices.Concat, walked. -/
import Derived.Test.YtfgakofjkldcjaaPoint
import Derived.Test.YtfgakofjkldcjaaSeal
import Derived.Test.YtfgakofjkldcjaaOsp
import Derived.Test.YtfgakofjkldcjaaTy2
namespace Go.Proofs.Ytfgakofjkldcjaa
open Go Go.Sx Go.Hsp Go.Num Go.Osp
set_option maxRecDepth 20000
def hopV (h : Hop) : List Value := [.int .i64 h.1, .int .i64 h.2.1, .int .i64 h.2.2.1, .int .i64 h.2.2.2.1, .int .u64 (h.2.2.2.2.1 : Nat), .int .u64 (h.2.2.2.2.2 : Nat)]
def stopV (s : Stop) : List Value := .int .u64 (s.1 : Nat) :: s.2.map u8v
theorem hopV_length (h : Hop) : (hopV h).length = 6 := rfl
theorem stopV_length (s : Stop) (h : s.2.length = 32) : (stopV s).length = 33 := by simp [stopV, h]
theorem hopV_one (h : Hop) : ∀ u ∈ hopV h, u.oneCell' = true := fun u hu => by simp [hopV] at hu; rcases hu with rfl | rfl | rfl | rfl | rfl | rfl <;> rfl
theorem stopV_one (s : Stop) : ∀ u ∈ stopV s, u.oneCell' = true := fun u hu => by
  simp only [stopV, List.mem_cons] at hu
  rcases hu with rfl | hu
  · rfl
  · exact all_u8v _ u hu
theorem stopV_at (s : Stop) : ∀ i u, (s.2.map u8v)[i]? = some u → (stopV s).toArray[1 + i]? = some u := fun i u hu => by
  rw [Nat.add_comm]; simpa [stopV] using hu
theorem wrap_usg (i : Int) : IntKind.u64.wrap i = ((usg i : Nat) : Int) := by rw [wrap_u64]; unfold usg; omega
theorem wrap_sgn (m : Nat) (hm : m < 18446744073709551616) : IntKind.i64.wrap (m : Int) = sgn m := by
  rw [IntKind.wrap_i64]; unfold sgn
  split <;> omega
theorem numTo_snoc (xs : List Byte) (k n : Nat) (b : Byte) (h : xs[k]? = some b) : numTo n (xs.take (k + 1)) = numTo n (xs.take k) * 256 + b.toNat := by
  have ap : ∀ (l m : List Byte) (n : Nat), numTo n (l ++ m) = numTo (numTo n l) m := by
    intro l
    induction l with
    | nil => intro m n; rfl
    | cons c l ih => intro m n; exact ih m _
  rw [List.take_add_one, h, ap]
  rfl
theorem flatten_snoc (ps : List (List Byte)) (k : Nat) (q : List Byte) (h : ps[k]? = some q) : (ps.take (k + 1)).flatten = (ps.take k).flatten ++ q := by
  rw [List.take_add_one, h]; simp
theorem flatten_take_le : ∀ (ps : List (List Byte)) (k : Nat), (ps.take k).flatten.length ≤ ps.flatten.length
  | [], k => by simp
  | p :: ps, 0 => by simp
  | p :: ps, k + 1 => by
    have := flatten_take_le ps k
    simp only [List.take_succ_cons, List.flatten_cons, List.length_append]; omega
theorem eight_ok (m : Nat) (w : World) : Calls Try.prog 115 #[.int .u64 ((m : Nat) : Int)] w fun e w' => ∃ g, e = .returned (.slice (some ⟨g, 0, none⟩) 8 8) ∧ w.heap.size ≤ g ∧ Blk w' g 5 ((be8 m).map u8v).toArray ∧ Le w w' := by
  refine enter Try.func115 rfl rfl ?_
  have L0 := Le.refl w
  refine WC.seq ?_
  refine WC.region ?_
  refine W.any (.assign rfl) rfl rfl rfl ?_
  refine W.nil ?_
  refine E.thenN ?_
  refine WC.seq ?_
  refine WC.region ?_
  refine W.ef rfl rfl rfl ?_
  refine Ef.makeSlice 8 8 Try.underlying107 el5 rfl rfl rfl rfl (by decide) (by decide) (by decide) ?_
  intro g1_0 w1_0 hg1_0 b1_0 h1_0
  have L1_0 := L0.trans h1_0
  refine W.any (.assign rfl) rfl rfl rfl ?_
  refine W.nil ?_
  refine E.thenN ?_
  refine WC.seq ?_
  refine WC.seq ?_
  refine WC.region ?_
  refine W.any (.move rfl) rfl rfl rfl ?_
  refine W.rd (.len Try.underlying107 rfl) rfl rfl rfl ?_
  refine W.any (.move rfl) rfl rfl rfl ?_
  refine W.nil ?_
  refine E.thenN ?_
  refine WC.block ?_
  refine WC.loop (ι := Nat) (fun k => [(0, .int .u64 ((m : Nat) : Int)), (3, .slice (some ⟨g1_0, 0, none⟩) 8 8), (7, .int .i64 8), (8, .int .i64 (k : Int))]) (fun k wl => k ≤ 8 ∧ Le w wl ∧ Blk wl g1_0 5 (((be8To m k) ++ List.replicate (8 - k) 0#8).map u8v).toArray) (fun k => 8 - k) 0 ?_ ?_ ?_
  · exact .cons rfl (.cons rfl (.cons rfl (.cons rfl (.nil _))))
  · exact ⟨by omega, L1_0, b1_0.cast (made_u8 8)⟩
  · rintro k wl ⟨hk8, Ll, b1⟩
    have hbl : (be8To m k).length = k := by simp [be8To, be8_length]; omega
    refine WC.seq ?_
    refine WC.region ?_
    refine W.any (.lss rfl rfl) rfl rfl rfl ?_
    refine W.nil ?_
    refine E.thenN ?_
    refine WC.seq ?_
    refine WC.cond rfl (fun c0 => ?_) (fun c0 => ?_)
    · refine WC.skip ?_
      refine E.thenN ?_
      refine WC.seq ?_
      refine WC.block ?_
      refine WC.seq ?_
      refine WC.region ?_
      refine W.any (.move rfl) rfl rfl rfl ?_
      refine W.any (.assign rfl) rfl rfl rfl ?_
      refine W.nil ?_
      refine E.thenN ?_
      refine WC.region ?_
      refine W.any (.move rfl) rfl rfl rfl ?_
      refine W.any (.move rfl) rfl rfl rfl ?_
      refine W.any (.move rfl) rfl rfl rfl ?_
      refine W.any (.move rfl) rfl rfl rfl ?_
      refine W.any (.mul rfl rfl (by omega)) rfl rfl rfl ?_
      refine W.any (.sub rfl rfl (by omega)) rfl rfl rfl ?_
      refine W.any (.shrN m (56 - 8 * k) rfl rfl rfl (by omega) (by show 56 - 8 * k ≤ 64; omega)) rfl rfl rfl ?_
      refine W.rd (.toU8 (m >>> (56 - 8 * k)) (isS Try.underlying29) Try.underlying5 rfl rfl) rfl rfl rfl ?_
      refine W.any (.idxB1 (k) Try.underlying107 sz5 rfl rfl (rfl) (by omega)) rfl rfl rfl ?_
      refine W.ef0 rfl rfl ?_
      refine Ef.store sz5 rfl rfl (b1) (by simp; omega) (rfl) ?_
      intro w5_9 b5_9 h5_9
      have L5_9 : Le w w5_9 := Ll.then_ h5_9 (fun q hq => by cases hq; exact hg1_0)
      refine W.nil ?_
      refine E.blkN ?_
      refine E.thenN ?_
      refine WC.region ?_
      refine W.any (.add rfl rfl (by omega)) rfl rfl rfl ?_
      refine W.any (.move rfl) rfl rfl rfl ?_
      refine W.nil ?_
      refine E.again (k + 1) (.cons rfl (.cons rfl (.cons rfl (.cons rfl (.nil _))))) ?_ ?_
      · exact ⟨by omega, L5_9, b5_9.cast (by rw [fill_set u8v (be8To m k) 0#8 _ 8 k hbl (by omega), be8To_succ m k (by omega)])⟩
      · first | omega | (simp only []; omega)
    · have hk8 : k = 8 := by omega
      subst hk8
      have b1 : Blk wl g1_0 5 ((be8 m).map u8v).toArray := b1
      refine WC.exit ?_
      refine E.thenX ?_
      refine E.thenX ?_
      refine E.blkH ?_
      refine E.thenN ?_
      refine WC.seq ?_
      refine WC.region ?_
      refine W.any (.move rfl) rfl rfl rfl ?_
      refine W.any (.assign rfl) rfl rfl rfl ?_
      refine W.nil ?_
      refine E.thenN ?_
      refine WC.ret ?_
      refine E.ret1 rfl rfl ?_
      exact ⟨g1_0, rfl, hg1_0, b1, Ll⟩

theorem number_ok {A : Option Addr} {n c : Nat} {xs : List Byte} (w : World) (hS : Sb w A n xs) (h8 : 8 ≤ n) (hc : n ≤ c) : Calls Try.prog 116 #[.slice A n c] w fun e w' => e = .returned (.int .u64 ((numB xs : Nat) : Int)) ∧ Le w w' := by
  have hl := hS.len
  refine enter Try.func116 rfl rfl ?_
  have L0 := Le.refl w
  refine WC.seq ?_
  refine WC.region ?_
  refine W.any (.assign rfl) rfl rfl rfl ?_
  refine W.nil ?_
  refine E.thenN ?_
  refine WC.seq ?_
  refine WC.seq ?_
  refine WC.region ?_
  refine W.any (.move rfl) rfl rfl rfl ?_
  refine W.any (.cutH (8) Try.underlying107 sz5 rfl rfl (rfl) (by omega)) rfl rfl rfl ?_
  refine W.rd (.len Try.underlying107 rfl) rfl rfl rfl ?_
  refine W.any (.move rfl) rfl rfl rfl ?_
  refine W.nil ?_
  refine E.thenN ?_
  refine WC.block ?_
  refine WC.loop (ι := Nat) (fun k => [(2, .int .u64 ((numTo 0 (xs.take k) : Nat) : Int)), (6, .slice A 8 c), (7, .int .i64 8), (8, .int .i64 (k : Int))]) (fun k wl => k ≤ 8 ∧ Le w wl) (fun k => 8 - k) 0 ?_ ?_ ?_
  · exact .cons rfl (.cons rfl (.cons rfl (.cons rfl (.nil _))))
  · exact ⟨by omega, L0⟩
  · rintro k wl ⟨hk, Ll⟩
    refine WC.seq ?_
    refine WC.region ?_
    refine W.any (.lss rfl rfl) rfl rfl rfl ?_
    refine W.nil ?_
    refine E.thenN ?_
    refine WC.seq ?_
    refine WC.cond rfl (fun c0 => ?_) (fun c0 => ?_)
    · have hb : xs[k]? = some (xs.getD k 0) := by rw [List.getElem?_eq_getElem (by omega), List.getD_eq_getElem?_getD, List.getElem?_eq_getElem (by omega)]; rfl
      have hbl := (xs.getD k 0).isLt
      have hnl : numTo 0 (xs.take k) < 256 ^ 7 := by
        have h1 := numTo_lt (xs.take k) 0 0 (by decide)
        exact Nat.lt_of_lt_of_le h1 (Nat.pow_le_pow_right (by decide) (by rw [List.length_take]; omega))
      have hnl' : numTo 0 (xs.take k) < 72057594037927936 := hnl
      refine WC.skip ?_
      refine E.thenN ?_
      refine WC.seq ?_
      refine WC.block ?_
      refine WC.seq ?_
      refine WC.region ?_
      refine W.any (.idxS1 (k) Try.underlying107 sz5 rfl rfl (hS.isSome (by omega)) (rfl) (by omega)) rfl rfl rfl ?_
      refine W.rd (.loadS na5 rfl (hS.le Ll) (getb xs (by omega))) rfl rfl rfl ?_
      refine W.any (.assign rfl) rfl rfl rfl ?_
      refine W.nil ?_
      refine E.thenN ?_
      refine WC.region ?_
      refine W.any (.move rfl) rfl rfl rfl ?_
      refine W.any (.shlN (numTo 0 (xs.take k)) (8) (numTo 0 (xs.take k) * 256) rfl rfl rfl rfl (by decide) (by omega)) rfl rfl rfl ?_
      refine W.any (.move rfl) rfl rfl rfl ?_
      refine W.rd (.u8to64 (isS Try.underlying5) Try.underlying29 rfl) rfl rfl rfl ?_
      refine W.any (.orE (numTo 0 (xs.take k) * 256) ((xs.getD k 0).toNat) (numTo 0 (xs.take k) * 256 + (xs.getD k 0).toNat) rfl rfl rfl rfl (by omega) (by omega) (or_byte _ _ hbl)) rfl rfl rfl ?_
      refine W.any (.assign rfl) rfl rfl rfl ?_
      refine W.nil ?_
      refine E.blkN ?_
      refine E.thenN ?_
      refine WC.region ?_
      refine W.any (.add rfl rfl (by omega)) rfl rfl rfl ?_
      refine W.any (.move rfl) rfl rfl rfl ?_
      refine W.nil ?_
      refine E.again (k + 1) (.cons' rfl (int_eq (congrArg Nat.cast (by rw [numTo_snoc xs k 0 _ hb]))) (.cons rfl (.cons rfl (.cons rfl (.nil _))))) ?_ ?_
      · exact ⟨by omega, Ll⟩
      · first | omega | (simp only []; omega)
    · have hk8 : k = 8 := by omega
      subst hk8
      refine WC.exit ?_
      refine E.thenX ?_
      refine E.thenX ?_
      refine E.blkH ?_
      refine E.thenN ?_
      refine WC.seq ?_
      refine WC.region ?_
      refine W.any (.move rfl) rfl rfl rfl ?_
      refine W.any (.assign rfl) rfl rfl rfl ?_
      refine W.nil ?_
      refine E.thenN ?_
      refine WC.ret ?_
      refine E.ret1 rfl rfl ?_
      exact ⟨rfl, Ll⟩

theorem xor_ok {A B : Option Addr} {n c c' : Nat} {xs ys : List Byte} (w : World) (hS : Sb w A n xs) (hT : Sb w B n ys) (hn : n ≤ 1000000) : Calls Try.prog 109 #[.slice A n c, .slice B n c'] w fun e w' => ∃ A' c', e = .returned (.slice A' n c') ∧ Own w' w.heap.size 5 1 A' n c' ((xorB xs ys).map u8v) ∧ Le w w' := by
  have hl := hS.len
  have hl2 := hT.len
  refine enter Try.func109 rfl rfl ?_
  have L0 := Le.refl w
  refine WC.seq ?_
  refine WC.region ?_
  refine W.any (.assign rfl) rfl rfl rfl ?_
  refine W.nil ?_
  refine E.thenN ?_
  refine WC.seq ?_
  refine WC.region ?_
  refine W.any (.move rfl) rfl rfl rfl ?_
  refine W.ef rfl rfl rfl ?_
  refine Ef.call go125 rfl rfl (clone_ok w hS (by omega)) ?_
  rintro _ w1_1 ⟨A1, c1, rfl, o1, h1_1⟩
  refine ⟨_, rfl, ?_⟩
  have L1_1 := L0.trans h1_1
  refine W.any (.assign rfl) rfl rfl rfl ?_
  refine W.nil ?_
  refine E.thenN ?_
  refine WC.seq ?_
  refine WC.seq ?_
  refine WC.region ?_
  refine W.any (.move rfl) rfl rfl rfl ?_
  refine W.rd (.len Try.underlying107 rfl) rfl rfl rfl ?_
  refine W.any (.move rfl) rfl rfl rfl ?_
  refine W.nil ?_
  refine E.thenN ?_
  refine WC.block ?_
  refine WC.loop (ι := Nat) (fun k => [(1, .slice B n c'), (5, .slice A1 n c1), (10, .int .i64 (n : Int)), (11, .int .i64 (k : Int))]) (fun k wl => k ≤ n ∧ Le w wl ∧ Own wl w.heap.size 5 1 A1 n c1 ((overTo xs ys k).map u8v)) (fun k => n - k) 0 ?_ ?_ ?_
  · exact .cons rfl (.cons rfl (.cons rfl (.cons rfl (.nil _))))
  · exact ⟨Nat.zero_le _, L1_1, o1.cast rfl (by rw [overTo_zero])⟩
  · rintro k wl ⟨hkn, Ll, ol⟩
    have hol := overTo_length xs ys k (by omega) (by omega)
    refine WC.seq ?_
    refine WC.region ?_
    refine W.any (.lss rfl rfl) rfl rfl rfl ?_
    refine W.nil ?_
    refine E.thenN ?_
    refine WC.seq ?_
    refine WC.cond rfl (fun c0 => ?_) (fun c0 => ?_)
    · obtain ⟨gA, hA1, hgA1, hgA2, hrow⟩ := ol.lit (by omega)
      subst hA1
      refine WC.skip ?_
      refine E.thenN ?_
      refine WC.seq ?_
      refine WC.block ?_
      refine WC.seq ?_
      refine WC.region ?_
      refine W.any (.move rfl) rfl rfl rfl ?_
      refine W.any (.assign rfl) rfl rfl rfl ?_
      refine W.nil ?_
      refine E.thenN ?_
      refine WC.draw [0, 1, 2, 3, 4, 5, 6, 7, 8, 9, 10] mixed (by kernel_rfl) ?_
      intro w5 d5
      have L5 := Ll.trans d5
      refine G.any rfl rfl (.move rfl) rfl rfl rfl ?_
      refine G.any rfl rfl (.move rfl) rfl rfl rfl ?_
      refine G.any rfl rfl (.idxB1 (k) Try.underlying107 sz5 rfl rfl (rfl) (by omega)) rfl rfl rfl ?_
      refine G.rd rfl rfl (.load na5 rfl (((ol.le d5).sl.2 k _ (getb _ (by omega))).elim fun ad h => by obtain ⟨h1, h2⟩ := h; injection h1 with h1; subst h1; rw [add_lit, Nat.zero_add] at h2; exact h2)) rfl rfl rfl ?_
      refine G.any rfl rfl (.move rfl) rfl rfl rfl ?_
      refine G.any rfl rfl (.move rfl) rfl rfl rfl ?_
      refine G.any rfl rfl (.idxS1 (k) Try.underlying107 sz5 rfl rfl (hT.isSome (by omega)) (rfl) (by omega)) rfl rfl rfl ?_
      refine G.rd rfl rfl (.loadS na5 rfl (hT.le L5) (getb ys (by omega))) rfl rfl rfl ?_
      refine G.any rfl rfl (.xor8 rfl rfl) rfl rfl rfl ?_
      refine G.any rfl rfl (.idxB1 (k) Try.underlying107 sz5 rfl rfl (rfl) (by omega)) rfl rfl rfl ?_
      refine G.ef0 rfl rfl rfl rfl ?_
      refine Ef.storeO sz5 rfl rfl (ol.le d5) (by omega) (rfl) ?_
      intro w5_10 o5_10 h5_10
      have L5_10 : Le w w5_10 := L5.then_ h5_10 (fun q hq => by cases hq; exact hgA1)
      refine ⟨fun h => absurd h (ne_true_of_eq_false (by kernel_rfl)), ?_⟩
      refine G.nil ?_
      refine E.blkN ?_
      refine E.thenN ?_
      refine WC.region ?_
      refine W.any (.add rfl rfl (by omega)) rfl rfl rfl ?_
      refine W.any (.move rfl) rfl rfl rfl ?_
      refine W.nil ?_
      refine E.again (k + 1) (.cons rfl (.cons rfl (.cons rfl (.cons rfl (.nil _))))) ?_ ?_
      · exact ⟨by omega, L5_10, o5_10.cast rfl (by rw [← overTo_succ xs ys k (by omega) (by omega), overTo_at xs ys k (by omega) (by omega), List.map_set])⟩
      · first | omega | (simp only []; omega)
    · have hkn : k = n := by omega
      subst hkn
      refine WC.exit ?_
      refine E.thenX ?_
      refine E.thenX ?_
      refine E.blkH ?_
      refine E.thenN ?_
      refine WC.seq ?_
      refine WC.region ?_
      refine W.any (.move rfl) rfl rfl rfl ?_
      refine W.any (.assign rfl) rfl rfl rfl ?_
      refine W.nil ?_
      refine E.thenN ?_
      refine WC.ret ?_
      refine E.ret1 rfl rfl ?_
      exact ⟨A1, c1, rfl, ol.cast rfl (by rw [← overTo_all xs ys (by omega), hl2]), Ll⟩

theorem within_T (i lo hi : Int) (h : (lo ≤ i ∧ i ≤ hi)) (w : World) : Calls Try.prog 144 #[.int .i64 i, .int .i64 lo, .int .i64 hi] w fun e w' => e = .returned (.bool true) ∧ Le w w' := by
  refine enter Try.func144 rfl rfl ?_
  have L0 := Le.refl w
  refine WC.seq ?_
  refine WC.region ?_
  refine W.any (.assign rfl) rfl rfl rfl ?_
  refine W.nil ?_
  refine E.thenN ?_
  refine WC.seq ?_
  refine WC.region ?_
  refine W.any (.move rfl) rfl rfl rfl ?_
  refine W.any (.move rfl) rfl rfl rfl ?_
  refine W.any (.dec (.leq rfl rfl) (decide_eq_true (by omega))) rfl rfl rfl ?_
  refine W.any (.move rfl) rfl rfl rfl ?_
  refine W.rdg (Any.rd (.move rfl) _) rfl rfl rfl (rfl) rfl rfl ?_
  refine W.rdg (Any.rd (.move rfl) _) rfl rfl rfl (rfl) rfl rfl ?_
  refine W.rdg (Any.rd (.dec (.leq rfl rfl) (decide_eq_true (by omega))) _) rfl rfl rfl (rfl) rfl rfl ?_
  refine W.any (.pickT rfl rfl rfl) rfl rfl rfl ?_
  refine W.any (.assign rfl) rfl rfl rfl ?_
  refine W.nil ?_
  refine E.thenN ?_
  refine WC.ret ?_
  refine E.ret1 rfl rfl ?_
  exact ⟨rfl, L0⟩

theorem within_F (i lo hi : Int) (h : ¬ (lo ≤ i ∧ i ≤ hi)) (w : World) : Calls Try.prog 144 #[.int .i64 i, .int .i64 lo, .int .i64 hi] w fun e w' => e = .returned (.bool false) ∧ Le w w' := by
  refine enter Try.func144 rfl rfl ?_
  have L0 := Le.refl w
  refine WC.seq ?_
  refine WC.region ?_
  refine W.any (.assign rfl) rfl rfl rfl ?_
  refine W.nil ?_
  refine E.thenN ?_
  refine WC.seq ?_
  refine WC.region ?_
  refine W.any (.move rfl) rfl rfl rfl ?_
  refine W.any (.move rfl) rfl rfl rfl ?_
  by_cases h1 : lo ≤ i
  · refine W.any (.dec (.leq rfl rfl) (decide_eq_true (by omega))) rfl rfl rfl ?_
    refine W.any (.move rfl) rfl rfl rfl ?_
    refine W.rdg (Any.rd (.move rfl) _) rfl rfl rfl (rfl) rfl rfl ?_
    refine W.rdg (Any.rd (.move rfl) _) rfl rfl rfl (rfl) rfl rfl ?_
    refine W.rdg (Any.rd (.dec (.leq rfl rfl) (decide_eq_false (by omega))) _) rfl rfl rfl (rfl) rfl rfl ?_
    refine W.any (.pickT rfl rfl rfl) rfl rfl rfl ?_
    refine W.any (.assign rfl) rfl rfl rfl ?_
    refine W.nil ?_
    refine E.thenN ?_
    refine WC.ret ?_
    refine E.ret1 rfl rfl ?_
    exact ⟨rfl, L0⟩
  · refine W.any (.dec (.leq rfl rfl) (decide_eq_false (by omega))) rfl rfl rfl ?_
    refine W.any (.move rfl) rfl rfl rfl ?_
    refine W.skip rfl rfl rfl (rfl) rfl rfl ?_
    refine W.skip rfl rfl rfl (rfl) rfl rfl ?_
    refine W.skip rfl rfl rfl (rfl) rfl rfl ?_
    refine W.any (.pickF rfl rfl rfl) rfl rfl rfl ?_
    refine W.any (.assign rfl) rfl rfl rfl ?_
    refine W.nil ?_
    refine E.thenN ?_
    refine WC.ret ?_
    refine E.ret1 rfl rfl ?_
    exact ⟨rfl, L0⟩

theorem fright_T (a : Nat) (h : a < q) (w : World) : Calls Try.prog 60 #[.int .u64 ((a : Nat) : Int)] w fun e w' => e = .returned (.bool true) ∧ Le w w' := by
  have := fright_ok a w
  rwa [decide_eq_true h] at this

theorem fright_F (a : Nat) (h : ¬ a < q) (w : World) : Calls Try.prog 60 #[.int .u64 ((a : Nat) : Int)] w fun e w' => e = .returned (.bool false) ∧ Le w w' := by
  have := fright_ok a w
  rwa [decide_eq_false h] at this

theorem may_ok (h : Hop) (ho : HopOk h) (w : World) : Calls Try.prog 105 #[.agg (hopV h).toArray] w fun e w' => e = .returned (.bool (mayB h)) ∧ Le w w' := by
  refine enter Try.func105 rfl rfl ?_
  have L0 := Le.refl w
  refine WC.seq ?_
  refine WC.region ?_
  refine W.ef rfl rfl rfl ?_
  refine Ef.boxA rfl ?_
  intro g0_0 w0_0 hg0_0 b0_0 h0_0
  have L0_0 := L0.trans h0_0
  have LL := Le.refl w0_0
  refine W.any (.assign rfl) rfl rfl rfl ?_
  refine W.nil ?_
  refine E.thenN ?_
  refine WC.seq ?_
  refine WC.region ?_
  refine W.any (.assign rfl) rfl rfl rfl ?_
  refine W.nil ?_
  refine E.thenN ?_
  refine WC.seq ?_
  refine WC.region ?_
  refine W.any (.move rfl) rfl rfl rfl ?_
  refine W.any (.field0 fa95_0 rfl) rfl rfl rfl ?_
  refine W.rd (.loadB na3 rfl (b0_0.le LL) (rfl)) rfl rfl rfl ?_
  by_cases q1 : -1 ≤ h.1 ∧ h.1 ≤ 11
  · refine W.ef rfl rfl rfl ?_
    refine Ef.call go144 rfl rfl (within_T _ _ _ q1 w0_0) ?_
    rintro _ w2_3 ⟨rfl, h2_3⟩
    refine ⟨_, rfl, ?_⟩
    have L2_3 := LL.trans h2_3
    refine W.any (.move rfl) rfl rfl rfl ?_
    refine W.rdg (Any.rd (.move rfl) _) rfl rfl rfl (rfl) rfl rfl ?_
    refine W.rdg (Any.rd (.field0 fa95_1 rfl) _) rfl rfl rfl (rfl) rfl rfl ?_
    refine W.rdg (.loadB na3 rfl (b0_0.le L2_3) (rfl)) rfl rfl rfl (rfl) rfl rfl ?_
    by_cases q2 : 0 ≤ h.2.1 ∧ h.2.1 ≤ 1048575
    · refine W.efg rfl rfl rfl (rfl) rfl rfl ?_
      refine Ef.call go144 rfl rfl (within_T _ _ _ q2 w2_3) ?_
      rintro _ w2_8 ⟨rfl, h2_8⟩
      refine ⟨_, rfl, ?_⟩
      have L2_8 := L2_3.trans h2_8
      refine W.any (.pickT rfl rfl rfl) rfl rfl rfl ?_
      refine W.any (.move rfl) rfl rfl rfl ?_
      refine W.rdg (Any.rd (.move rfl) _) rfl rfl rfl (rfl) rfl rfl ?_
      refine W.rdg (Any.rd (.field0 fa95_2 rfl) _) rfl rfl rfl (rfl) rfl rfl ?_
      refine W.rdg (.loadB na3 rfl (b0_0.le L2_8) (rfl)) rfl rfl rfl (rfl) rfl rfl ?_
      by_cases q3 : 0 ≤ h.2.2.1 ∧ h.2.2.1 ≤ 1125899906842624
      · refine W.efg rfl rfl rfl (rfl) rfl rfl ?_
        refine Ef.call go144 rfl rfl (within_T _ _ _ q3 w2_8) ?_
        rintro _ w2_14 ⟨rfl, h2_14⟩
        refine ⟨_, rfl, ?_⟩
        have L2_14 := L2_8.trans h2_14
        refine W.any (.pickT rfl rfl rfl) rfl rfl rfl ?_
        refine W.any (.move rfl) rfl rfl rfl ?_
        refine W.rdg (Any.rd (.move rfl) _) rfl rfl rfl (rfl) rfl rfl ?_
        refine W.rdg (Any.rd (.field0 fa95_3 rfl) _) rfl rfl rfl (rfl) rfl rfl ?_
        refine W.rdg (.loadB na3 rfl (b0_0.le L2_14) (rfl)) rfl rfl rfl (rfl) rfl rfl ?_
        by_cases q4 : 0 ≤ h.2.2.2.1 ∧ h.2.2.2.1 ≤ 1048576
        · refine W.efg rfl rfl rfl (rfl) rfl rfl ?_
          refine Ef.call go144 rfl rfl (within_T _ _ _ q4 w2_14) ?_
          rintro _ w2_20 ⟨rfl, h2_20⟩
          refine ⟨_, rfl, ?_⟩
          have L2_20 := L2_14.trans h2_20
          refine W.any (.pickT rfl rfl rfl) rfl rfl rfl ?_
          refine W.any (.assign rfl) rfl rfl rfl ?_
          refine W.nil ?_
          refine E.thenN ?_
          refine WC.seq ?_
          refine WC.region ?_
          refine W.any (.move rfl) rfl rfl rfl ?_
          refine W.any (.move rfl) rfl rfl rfl ?_
          refine W.rdg (Any.rd (.field0 fa95_5 rfl) _) rfl rfl rfl (rfl) rfl rfl ?_
          refine W.rdg (.loadB na30 rfl (b0_0.le L2_20) (rfl)) rfl rfl rfl (rfl) rfl rfl ?_
          by_cases q5 : h.2.2.2.2.2 < q
          · refine W.efg rfl rfl rfl (rfl) rfl rfl ?_
            refine Ef.call go60 rfl rfl (fright_T _ q5 w2_20) ?_
            rintro _ w3_4 ⟨rfl, h3_4⟩
            refine ⟨_, rfl, ?_⟩
            have L3_4 := L2_20.trans h3_4
            refine W.any (.pickT rfl rfl rfl) rfl rfl rfl ?_
            refine W.any (.move rfl) rfl rfl rfl ?_
            refine W.rdg (Any.rd (.field0 fa95_4 rfl) _) rfl rfl rfl (rfl) rfl rfl ?_
            refine W.rdg (.loadB na31 rfl (b0_0.le L3_4) (rfl)) rfl rfl rfl (rfl) rfl rfl ?_
            by_cases q6 : h.2.2.2.2.1 = 0
            · refine W.rdg (Any.rd (.dec (.eql rfl rfl) (decide_eq_true (by omega))) _) rfl rfl rfl (rfl) rfl rfl ?_
              refine W.rdg (Any.rd (.move rfl) _) rfl rfl rfl (rfl) rfl rfl ?_
              refine W.skip rfl rfl rfl (rfl) rfl rfl ?_
              refine W.skip rfl rfl rfl (rfl) rfl rfl ?_
              refine W.skip rfl rfl rfl (rfl) rfl rfl ?_
              refine W.rdg (Any.rd (.pickT rfl rfl rfl) _) rfl rfl rfl (rfl) rfl rfl ?_
              refine W.any (.pickT rfl rfl rfl) rfl rfl rfl ?_
              refine W.any (.assign rfl) rfl rfl rfl ?_
              refine W.nil ?_
              refine E.thenN ?_
              refine WC.ret ?_
              refine E.ret1 rfl rfl ?_
              exact ⟨by rw [mayB, decide_eq_true q1, decide_eq_true q2, decide_eq_true q3, decide_eq_true q4, decide_eq_true q5, decide_eq_true q6]; rfl, h0_0.trans L3_4⟩
            · refine W.rdg (Any.rd (.dec (.eql rfl rfl) (decide_eq_false (by omega))) _) rfl rfl rfl (rfl) rfl rfl ?_
              refine W.rdg (Any.rd (.move rfl) _) rfl rfl rfl (rfl) rfl rfl ?_
              refine W.rdg (Any.rd (.field0 fa95_4 rfl) _) rfl rfl rfl (rfl) rfl rfl ?_
              refine W.rdg (.loadB na31 rfl (b0_0.le L3_4) (rfl)) rfl rfl rfl (rfl) rfl rfl ?_
              refine W.efg rfl rfl rfl (rfl) rfl rfl ?_
              refine Ef.call go90 rfl rfl (pright_ok _ ho.2.2.2.2.1 w3_4) ?_
              rintro _ w3_13 ⟨rfl, h3_13⟩
              refine ⟨_, rfl, ?_⟩
              have L3_13 := L3_4.trans h3_13
              refine W.rdg (Any.rd (.pickF rfl rfl rfl) _) rfl rfl rfl (rfl) rfl rfl ?_
              refine W.any (.pickT rfl rfl rfl) rfl rfl rfl ?_
              refine W.any (.assign rfl) rfl rfl rfl ?_
              refine W.nil ?_
              refine E.thenN ?_
              refine WC.ret ?_
              refine E.ret1 rfl rfl ?_
              exact ⟨by rw [mayB, decide_eq_true q1, decide_eq_true q2, decide_eq_true q3, decide_eq_true q4, decide_eq_true q5, decide_eq_false q6]; rfl, h0_0.trans L3_13⟩
          · refine W.efg rfl rfl rfl (rfl) rfl rfl ?_
            refine Ef.call go60 rfl rfl (fright_F _ q5 w2_20) ?_
            rintro _ w3_4 ⟨rfl, h3_4⟩
            refine ⟨_, rfl, ?_⟩
            have L3_4 := L2_20.trans h3_4
            refine W.any (.pickT rfl rfl rfl) rfl rfl rfl ?_
            refine W.any (.move rfl) rfl rfl rfl ?_
            refine W.skip rfl rfl rfl (rfl) rfl rfl ?_
            refine W.skip rfl rfl rfl (rfl) rfl rfl ?_
            refine W.skip rfl rfl rfl (rfl) rfl rfl ?_
            refine W.skip rfl rfl rfl (rfl) rfl rfl ?_
            refine W.skipu rfl rfl rfl rfl rfl ?_
            refine W.skipu rfl rfl rfl rfl rfl ?_
            refine W.skipu rfl rfl rfl rfl rfl ?_
            refine W.skip rfl rfl rfl (rfl) rfl rfl ?_
            refine W.any (.pickF rfl rfl rfl) rfl rfl rfl ?_
            refine W.any (.assign rfl) rfl rfl rfl ?_
            refine W.nil ?_
            refine E.thenN ?_
            refine WC.ret ?_
            refine E.ret1 rfl rfl ?_
            exact ⟨by rw [mayB, decide_eq_true q1, decide_eq_true q2, decide_eq_true q3, decide_eq_true q4, decide_eq_false q5]; rfl, h0_0.trans L3_4⟩
        · refine W.efg rfl rfl rfl (rfl) rfl rfl ?_
          refine Ef.call go144 rfl rfl (within_F _ _ _ q4 w2_14) ?_
          rintro _ w2_20 ⟨rfl, h2_20⟩
          refine ⟨_, rfl, ?_⟩
          have L2_20 := L2_14.trans h2_20
          refine W.any (.pickT rfl rfl rfl) rfl rfl rfl ?_
          refine W.any (.assign rfl) rfl rfl rfl ?_
          refine W.nil ?_
          refine E.thenN ?_
          refine WC.seq ?_
          refine WC.region ?_
          refine W.any (.move rfl) rfl rfl rfl ?_
          refine W.any (.move rfl) rfl rfl rfl ?_
          refine W.skip rfl rfl rfl (rfl) rfl rfl ?_
          refine W.skip rfl rfl rfl (rfl) rfl rfl ?_
          refine W.skip rfl rfl rfl (rfl) rfl rfl ?_
          refine W.any (.pickF rfl rfl rfl) rfl rfl rfl ?_
          refine W.any (.move rfl) rfl rfl rfl ?_
          refine W.skip rfl rfl rfl (rfl) rfl rfl ?_
          refine W.skip rfl rfl rfl (rfl) rfl rfl ?_
          refine W.skip rfl rfl rfl (rfl) rfl rfl ?_
          refine W.skip rfl rfl rfl (rfl) rfl rfl ?_
          refine W.skipu rfl rfl rfl rfl rfl ?_
          refine W.skipu rfl rfl rfl rfl rfl ?_
          refine W.skipu rfl rfl rfl rfl rfl ?_
          refine W.skip rfl rfl rfl (rfl) rfl rfl ?_
          refine W.any (.pickF rfl rfl rfl) rfl rfl rfl ?_
          refine W.any (.assign rfl) rfl rfl rfl ?_
          refine W.nil ?_
          refine E.thenN ?_
          refine WC.ret ?_
          refine E.ret1 rfl rfl ?_
          exact ⟨by rw [mayB, decide_eq_false q4, Bool.and_false, Bool.false_and], h0_0.trans L2_20⟩
      · refine W.efg rfl rfl rfl (rfl) rfl rfl ?_
        refine Ef.call go144 rfl rfl (within_F _ _ _ q3 w2_8) ?_
        rintro _ w2_14 ⟨rfl, h2_14⟩
        refine ⟨_, rfl, ?_⟩
        have L2_14 := L2_8.trans h2_14
        refine W.any (.pickT rfl rfl rfl) rfl rfl rfl ?_
        refine W.any (.move rfl) rfl rfl rfl ?_
        refine W.skip rfl rfl rfl (rfl) rfl rfl ?_
        refine W.skip rfl rfl rfl (rfl) rfl rfl ?_
        refine W.skip rfl rfl rfl (rfl) rfl rfl ?_
        refine W.skip rfl rfl rfl (rfl) rfl rfl ?_
        refine W.any (.pickF rfl rfl rfl) rfl rfl rfl ?_
        refine W.any (.assign rfl) rfl rfl rfl ?_
        refine W.nil ?_
        refine E.thenN ?_
        refine WC.seq ?_
        refine WC.region ?_
        refine W.any (.move rfl) rfl rfl rfl ?_
        refine W.any (.move rfl) rfl rfl rfl ?_
        refine W.skip rfl rfl rfl (rfl) rfl rfl ?_
        refine W.skip rfl rfl rfl (rfl) rfl rfl ?_
        refine W.skip rfl rfl rfl (rfl) rfl rfl ?_
        refine W.any (.pickF rfl rfl rfl) rfl rfl rfl ?_
        refine W.any (.move rfl) rfl rfl rfl ?_
        refine W.skip rfl rfl rfl (rfl) rfl rfl ?_
        refine W.skip rfl rfl rfl (rfl) rfl rfl ?_
        refine W.skip rfl rfl rfl (rfl) rfl rfl ?_
        refine W.skip rfl rfl rfl (rfl) rfl rfl ?_
        refine W.skipu rfl rfl rfl rfl rfl ?_
        refine W.skipu rfl rfl rfl rfl rfl ?_
        refine W.skipu rfl rfl rfl rfl rfl ?_
        refine W.skip rfl rfl rfl (rfl) rfl rfl ?_
        refine W.any (.pickF rfl rfl rfl) rfl rfl rfl ?_
        refine W.any (.assign rfl) rfl rfl rfl ?_
        refine W.nil ?_
        refine E.thenN ?_
        refine WC.ret ?_
        refine E.ret1 rfl rfl ?_
        exact ⟨by rw [mayB, decide_eq_false q3, Bool.and_false, Bool.false_and, Bool.false_and], h0_0.trans L2_14⟩
    · refine W.efg rfl rfl rfl (rfl) rfl rfl ?_
      refine Ef.call go144 rfl rfl (within_F _ _ _ q2 w2_3) ?_
      rintro _ w2_8 ⟨rfl, h2_8⟩
      refine ⟨_, rfl, ?_⟩
      have L2_8 := L2_3.trans h2_8
      refine W.any (.pickT rfl rfl rfl) rfl rfl rfl ?_
      refine W.any (.move rfl) rfl rfl rfl ?_
      refine W.skip rfl rfl rfl (rfl) rfl rfl ?_
      refine W.skip rfl rfl rfl (rfl) rfl rfl ?_
      refine W.skip rfl rfl rfl (rfl) rfl rfl ?_
      refine W.skip rfl rfl rfl (rfl) rfl rfl ?_
      refine W.any (.pickF rfl rfl rfl) rfl rfl rfl ?_
      refine W.any (.move rfl) rfl rfl rfl ?_
      refine W.skip rfl rfl rfl (rfl) rfl rfl ?_
      refine W.skip rfl rfl rfl (rfl) rfl rfl ?_
      refine W.skip rfl rfl rfl (rfl) rfl rfl ?_
      refine W.skip rfl rfl rfl (rfl) rfl rfl ?_
      refine W.any (.pickF rfl rfl rfl) rfl rfl rfl ?_
      refine W.any (.assign rfl) rfl rfl rfl ?_
      refine W.nil ?_
      refine E.thenN ?_
      refine WC.seq ?_
      refine WC.region ?_
      refine W.any (.move rfl) rfl rfl rfl ?_
      refine W.any (.move rfl) rfl rfl rfl ?_
      refine W.skip rfl rfl rfl (rfl) rfl rfl ?_
      refine W.skip rfl rfl rfl (rfl) rfl rfl ?_
      refine W.skip rfl rfl rfl (rfl) rfl rfl ?_
      refine W.any (.pickF rfl rfl rfl) rfl rfl rfl ?_
      refine W.any (.move rfl) rfl rfl rfl ?_
      refine W.skip rfl rfl rfl (rfl) rfl rfl ?_
      refine W.skip rfl rfl rfl (rfl) rfl rfl ?_
      refine W.skip rfl rfl rfl (rfl) rfl rfl ?_
      refine W.skip rfl rfl rfl (rfl) rfl rfl ?_
      refine W.skipu rfl rfl rfl rfl rfl ?_
      refine W.skipu rfl rfl rfl rfl rfl ?_
      refine W.skipu rfl rfl rfl rfl rfl ?_
      refine W.skip rfl rfl rfl (rfl) rfl rfl ?_
      refine W.any (.pickF rfl rfl rfl) rfl rfl rfl ?_
      refine W.any (.assign rfl) rfl rfl rfl ?_
      refine W.nil ?_
      refine E.thenN ?_
      refine WC.ret ?_
      refine E.ret1 rfl rfl ?_
      exact ⟨by rw [mayB, decide_eq_false q2, Bool.and_false, Bool.false_and, Bool.false_and, Bool.false_and], h0_0.trans L2_8⟩
  · refine W.ef rfl rfl rfl ?_
    refine Ef.call go144 rfl rfl (within_F _ _ _ q1 w0_0) ?_
    rintro _ w2_3 ⟨rfl, h2_3⟩
    refine ⟨_, rfl, ?_⟩
    have L2_3 := LL.trans h2_3
    refine W.any (.move rfl) rfl rfl rfl ?_
    refine W.skip rfl rfl rfl (rfl) rfl rfl ?_
    refine W.skip rfl rfl rfl (rfl) rfl rfl ?_
    refine W.skip rfl rfl rfl (rfl) rfl rfl ?_
    refine W.skip rfl rfl rfl (rfl) rfl rfl ?_
    refine W.any (.pickF rfl rfl rfl) rfl rfl rfl ?_
    refine W.any (.move rfl) rfl rfl rfl ?_
    refine W.skip rfl rfl rfl (rfl) rfl rfl ?_
    refine W.skip rfl rfl rfl (rfl) rfl rfl ?_
    refine W.skip rfl rfl rfl (rfl) rfl rfl ?_
    refine W.skip rfl rfl rfl (rfl) rfl rfl ?_
    refine W.any (.pickF rfl rfl rfl) rfl rfl rfl ?_
    refine W.any (.move rfl) rfl rfl rfl ?_
    refine W.skip rfl rfl rfl (rfl) rfl rfl ?_
    refine W.skip rfl rfl rfl (rfl) rfl rfl ?_
    refine W.skip rfl rfl rfl (rfl) rfl rfl ?_
    refine W.skip rfl rfl rfl (rfl) rfl rfl ?_
    refine W.any (.pickF rfl rfl rfl) rfl rfl rfl ?_
    refine W.any (.assign rfl) rfl rfl rfl ?_
    refine W.nil ?_
    refine E.thenN ?_
    refine WC.seq ?_
    refine WC.region ?_
    refine W.any (.move rfl) rfl rfl rfl ?_
    refine W.any (.move rfl) rfl rfl rfl ?_
    refine W.skip rfl rfl rfl (rfl) rfl rfl ?_
    refine W.skip rfl rfl rfl (rfl) rfl rfl ?_
    refine W.skip rfl rfl rfl (rfl) rfl rfl ?_
    refine W.any (.pickF rfl rfl rfl) rfl rfl rfl ?_
    refine W.any (.move rfl) rfl rfl rfl ?_
    refine W.skip rfl rfl rfl (rfl) rfl rfl ?_
    refine W.skip rfl rfl rfl (rfl) rfl rfl ?_
    refine W.skip rfl rfl rfl (rfl) rfl rfl ?_
    refine W.skip rfl rfl rfl (rfl) rfl rfl ?_
    refine W.skipu rfl rfl rfl rfl rfl ?_
    refine W.skipu rfl rfl rfl rfl rfl ?_
    refine W.skipu rfl rfl rfl rfl rfl ?_
    refine W.skip rfl rfl rfl (rfl) rfl rfl ?_
    refine W.any (.pickF rfl rfl rfl) rfl rfl rfl ?_
    refine W.any (.assign rfl) rfl rfl rfl ?_
    refine W.nil ?_
    refine E.thenN ?_
    refine WC.ret ?_
    refine E.ret1 rfl rfl ?_
    exact ⟨by rw [mayB, decide_eq_false q1, Bool.false_and, Bool.false_and, Bool.false_and, Bool.false_and], h0_0.trans L2_3⟩

theorem grow_ok (m : Nat) (h0 : 0 < m) (hm : m ≤ 1000000) (w : World) : Calls Try.prog 147 #[.slice none 0 0, .int .i64 (m : Int)] w fun e w' => ∃ A c, e = .returned (.slice A 0 c) ∧ Own w' w.heap.size 5 1 A 0 c [] ∧ Le w w' := by
  refine enter Try.func147 rfl rfl ?_
  have L0 := Le.refl w
  refine WC.seq ?_
  refine WC.region ?_
  refine W.any (.assign rfl) rfl rfl rfl ?_
  refine W.nil ?_
  refine E.thenN ?_
  refine WC.seq ?_
  refine WC.seq ?_
  refine WC.region ?_
  refine W.any (.move rfl) rfl rfl rfl ?_
  refine W.any (.lss rfl rfl) rfl rfl rfl ?_
  refine W.nil ?_
  refine E.thenN ?_
  refine WC.condB rfl (fun h => absurd h (by simp)) (fun _ => ?_)
  refine WC.skip ?_
  refine E.thenN ?_
  refine WC.seq ?_
  refine WC.seq ?_
  refine WC.region ?_
  refine W.any (.move rfl) rfl rfl rfl ?_
  refine W.any (.move rfl) rfl rfl rfl ?_
  refine W.rd (.cap Try.underlying107 rfl rfl) rfl rfl rfl ?_
  refine W.any (.move rfl) rfl rfl rfl ?_
  refine W.rd (.len Try.underlying107 rfl) rfl rfl rfl ?_
  refine W.any (.sub rfl rfl (by omega)) rfl rfl rfl ?_
  refine W.any (.sub rfl rfl (by omega)) rfl rfl rfl ?_
  refine W.any (.assign rfl) rfl rfl rfl ?_
  refine W.nil ?_
  refine E.thenN ?_
  refine WC.seq ?_
  refine WC.region ?_
  refine W.any (.move rfl) rfl rfl rfl ?_
  refine W.any (.gtr rfl rfl) rfl rfl rfl ?_
  refine W.nil ?_
  refine E.thenN ?_
  refine WC.condB rfl (fun _ => ?_) (fun h => absurd h (by simp; omega))
  refine WC.region ?_
  refine W.any (.move rfl) rfl rfl rfl ?_
  refine W.any (.move rfl) rfl rfl rfl ?_
  refine W.rd (.cap Try.underlying107 rfl rfl) rfl rfl rfl ?_
  refine W.any (.cutH (0) Try.underlying107 sz5 rfl rfl (rfl) (by decide)) rfl rfl rfl ?_
  refine W.any (.move rfl) rfl rfl rfl ?_
  refine W.ef rfl rfl rfl ?_
  refine Ef.appendZ m Try.underlying107 Try.underlying3 el5 rfl rfl (Own.nil _ _ _ _ _) rfl (by omega) h0 (by omega) (by unfold maxLen; omega) (Nat.le_refl _) ?_
  intro A5 c5 w5_5 o5 h5_5 at5
  have L5_5 : Le w w5_5 := L0.then_ h5_5 (fun q hq => by simp [rowOf_zero] at hq)
  refine W.any (.move rfl) rfl rfl rfl ?_
  refine W.rd (.len Try.underlying107 rfl) rfl rfl rfl ?_
  refine W.any (.cutH (0) Try.underlying107 sz5 rfl rfl (rfl) (Nat.zero_le _)) rfl rfl rfl ?_
  refine W.any (.assign rfl) rfl rfl rfl ?_
  refine W.nil ?_
  refine E.thenN ?_
  refine WC.seq ?_
  refine WC.region ?_
  refine W.any (.move rfl) rfl rfl rfl ?_
  refine W.any (.assign rfl) rfl rfl rfl ?_
  refine W.nil ?_
  refine E.thenN ?_
  refine WC.ret ?_
  refine E.ret1 rfl rfl ?_
  exact ⟨A5, c5, rfl, (o5.front 0 (Nat.zero_le _)).cast rfl (by simp), L5_5⟩

theorem concat_ok {A : Option Addr} {n c : Nat} {vs : List Value} {ps : List (List Byte)} (w : World) (hV : Sl w 1 A n vs) (hP : Parts w vs ps) (h0 : 0 < ps.flatten.length) (hT : ps.flatten.length ≤ 1000000) (hn : n ≤ 1000) : Calls Try.prog 110 #[.slice A n c] w fun e w' => ∃ A' c', e = .returned (.slice A' ps.flatten.length c') ∧ Own w' w.heap.size 5 1 A' ps.flatten.length c' (ps.flatten.map u8v) ∧ Le w w' := by
  have hvl := hV.1
  rw [Nat.mul_one] at hvl
  have hpl := hP.1
  have hgr : ∀ w, Calls Try.prog 147 #[.slice none 0 0, .int .i64 (((ps.take n).flatten.length : Nat) : Int)] w fun e w' => ∃ A c, e = .returned (.slice A 0 c) ∧ Own w' w.heap.size 5 1 A 0 c [] ∧ Le w w' := fun w => by
    rw [List.take_of_length_le (by omega)]
    exact grow_ok _ h0 hT w
  refine enter Try.func110 rfl rfl ?_
  have L0 := Le.refl w
  refine WC.seq ?_
  refine WC.region ?_
  refine W.any (.assign rfl) rfl rfl rfl ?_
  refine W.nil ?_
  refine E.thenN ?_
  refine WC.seq ?_
  refine WC.region ?_
  refine W.any (.assign rfl) rfl rfl rfl ?_
  refine W.nil ?_
  refine E.thenN ?_
  refine WC.seq ?_
  refine WC.seq ?_
  refine WC.region ?_
  refine W.any (.move rfl) rfl rfl rfl ?_
  refine W.rd (.len Try.underlying211 rfl) rfl rfl rfl ?_
  refine W.any (.move rfl) rfl rfl rfl ?_
  refine W.nil ?_
  refine E.thenN ?_
  refine WC.block ?_
  refine WC.loop (ι := Nat) (fun k => [(0, .slice A n c), (3, .int .i64 (((ps.take k).flatten.length : Nat) : Int)), (9, .slice A n c), (10, .int .i64 (n : Int)), (11, .int .i64 (k : Int))]) (fun k wl => k ≤ n ∧ Le w wl) (fun k => n - k) 0 ?_ ?_ ?_
  · exact .cons rfl (.cons rfl (.cons rfl (.cons rfl (.cons rfl (.nil _)))))
  · exact ⟨Nat.zero_le _, L0⟩
  · rintro k wl ⟨hk, Ll⟩
    have hle := flatten_take_le ps k
    refine WC.seq ?_
    refine WC.region ?_
    refine W.any (.lss rfl rfl) rfl rfl rfl ?_
    refine W.nil ?_
    refine E.thenN ?_
    refine WC.seq ?_
    refine WC.cond rfl (fun c0 => ?_) (fun c0 => ?_)
    · obtain ⟨q, hq⟩ : ∃ q, ps[k]? = some q := ⟨_, List.getElem?_eq_getElem (by omega)⟩
      obtain ⟨v, hv⟩ : ∃ v, vs[k]? = some v := ⟨_, List.getElem?_eq_getElem (by omega)⟩
      obtain ⟨Aq, cq, rfl, hq2⟩ := hP.2 k v q hv hq
      have hle2 := flatten_take_le ps (k + 1)
      rw [flatten_snoc ps k q hq, List.length_append] at hle2
      refine WC.skip ?_
      refine E.thenN ?_
      refine WC.seq ?_
      refine WC.block ?_
      refine WC.seq ?_
      refine WC.region ?_
      refine W.any (.idxS1 (k) Try.underlying211 sz107 rfl rfl (hV.isSome (j := k) (by omega) (by decide)) (rfl) (by omega)) rfl rfl rfl ?_
      refine W.rd (.loadS na107 rfl (hV.le Ll) (hv)) rfl rfl rfl ?_
      refine W.any (.assign rfl) rfl rfl rfl ?_
      refine W.nil ?_
      refine E.thenN ?_
      refine WC.seq ?_
      refine WC.region ?_
      refine W.any (.move rfl) rfl rfl rfl ?_
      refine W.any (.move rfl) rfl rfl rfl ?_
      refine W.rd (.len Try.underlying107 rfl) rfl rfl rfl ?_
      refine W.any (.add rfl rfl (by omega)) rfl rfl rfl ?_
      refine W.any (.assign rfl) rfl rfl rfl ?_
      refine W.nil ?_
      refine E.thenN ?_
      refine WC.seq ?_
      refine WC.region ?_
      refine W.any (.move rfl) rfl rfl rfl ?_
      refine W.any (.lss rfl rfl) rfl rfl rfl ?_
      refine W.nil ?_
      refine E.thenN ?_
      refine WC.condB rfl (fun h => absurd h (by simp; omega)) (fun _ => ?_)
      refine WC.skip ?_
      refine E.blkN ?_
      refine E.thenN ?_
      refine WC.region ?_
      refine W.any (.add rfl rfl (by omega)) rfl rfl rfl ?_
      refine W.any (.move rfl) rfl rfl rfl ?_
      refine W.nil ?_
      refine E.again (k + 1) (.cons rfl (.cons' rfl (int_eq (by rw [flatten_snoc ps k q hq, List.length_append, Int.natCast_add])) (.cons rfl (.cons rfl (.cons rfl (.nil _)))))) ?_ ?_
      · exact ⟨by omega, Ll⟩
      · first | omega | (simp only []; omega)
    · have hkn : n = k := by omega
      subst hkn
      rw [List.take_of_length_le (by omega)] at hle
      refine WC.exit ?_
      refine E.thenX ?_
      refine E.thenX ?_
      refine E.blkH ?_
      refine E.thenN ?_
      refine WC.seq ?_
      refine WC.region ?_
      refine W.any (.move rfl) rfl rfl rfl ?_
      refine W.ef rfl rfl rfl ?_
      refine Ef.call go147 rfl rfl (hgr wl) ?_
      rintro _ w9_1 ⟨A9, c9, rfl, o9, h9_1⟩
      refine ⟨_, rfl, ?_⟩
      have L9_1 := Ll.trans h9_1
      have o9 := o9.mono Ll.size
      refine W.any (.assign rfl) rfl rfl rfl ?_
      refine W.nil ?_
      refine E.thenN ?_
      refine WC.seq ?_
      refine WC.seq ?_
      refine WC.region ?_
      refine W.any (.move rfl) rfl rfl rfl ?_
      refine W.rd (.len Try.underlying211 rfl) rfl rfl rfl ?_
      refine W.any (.move rfl) rfl rfl rfl ?_
      refine W.nil ?_
      refine E.thenN ?_
      refine WC.block ?_
      refine WC.loop (ι := Nat × Option Addr × Nat) (fun ⟨k, A1, c1⟩ => [(6, .slice A1 ((ps.take k).flatten.length) c1), (25, .slice A n c), (26, .int .i64 (n : Int)), (27, .int .i64 (k : Int))]) (fun ⟨k, A1, c1⟩ wm => k ≤ n ∧ Le w wm ∧ Own wm w.heap.size 5 1 A1 ((ps.take k).flatten.length) c1 ((ps.take k).flatten.map u8v)) (fun ⟨k, A1, c1⟩ => n - k) (0, A9, c9) ?_ ?_ ?_
      · exact .cons rfl (.cons rfl (.cons rfl (.cons rfl (.nil _))))
      · exact ⟨Nat.zero_le _, L9_1, o9⟩
      · rintro ⟨k, A1, c1⟩ wm ⟨hk, Lm, om⟩
        refine WC.seq ?_
        refine WC.region ?_
        refine W.any (.lss rfl rfl) rfl rfl rfl ?_
        refine W.nil ?_
        refine E.thenN ?_
        refine WC.seq ?_
        refine WC.cond rfl (fun c2 => ?_) (fun c2 => ?_)
        · obtain ⟨q, hq⟩ : ∃ q, ps[k]? = some q := ⟨_, List.getElem?_eq_getElem (by omega)⟩
          obtain ⟨v, hv⟩ : ∃ v, vs[k]? = some v := ⟨_, List.getElem?_eq_getElem (by omega)⟩
          obtain ⟨Aq, cq, rfl, hq2⟩ := hP.2 k v q hv hq
          have hle2 := flatten_take_le ps (k + 1)
          rw [flatten_snoc ps k q hq, List.length_append] at hle2
          refine WC.skip ?_
          refine E.thenN ?_
          refine WC.seq ?_
          refine WC.block ?_
          refine WC.seq ?_
          refine WC.region ?_
          refine W.any (.idxS1 (k) Try.underlying211 sz107 rfl rfl (hV.isSome (j := k) (by omega) (by decide)) (rfl) (by omega)) rfl rfl rfl ?_
          refine W.rd (.loadS na107 rfl (hV.le Lm) (hv)) rfl rfl rfl ?_
          refine W.any (.assign rfl) rfl rfl rfl ?_
          refine W.nil ?_
          refine E.thenN ?_
          refine WC.region ?_
          refine W.any (.move rfl) rfl rfl rfl ?_
          refine W.any (.move rfl) rfl rfl rfl ?_
          refine W.ef rfl rfl rfl ?_
          refine Ef.append Try.underlying107 el5 rfl (om) rfl ((hq2.le Lm).src Try.underlying107 _) (by omega) (by unfold maxLen; omega) (Lm.size) ?_
          intro A13_2 c13_2 w13_2 o13_2 h13_2 at13_2
          have L13_2 : Le w w13_2 := Lm.then_ h13_2 (fun q hq => (om.row hq).1)
          refine W.any (.assign rfl) rfl rfl rfl ?_
          refine W.nil ?_
          refine E.blkN ?_
          refine E.thenN ?_
          refine WC.region ?_
          refine W.any (.add rfl rfl (by omega)) rfl rfl rfl ?_
          refine W.any (.move rfl) rfl rfl rfl ?_
          refine W.nil ?_
          refine E.again (k + 1, A13_2, c13_2) (.cons' rfl (slice_eq (by rw [flatten_snoc ps k q hq, List.length_append])) (.cons rfl (.cons rfl (.cons rfl (.nil _))))) ?_ ?_
          · exact ⟨by omega, L13_2, o13_2.cast (by rw [flatten_snoc ps k q hq, List.length_append]) (by rw [flatten_snoc ps k q hq, List.map_append])⟩
          · first | omega | (simp only []; omega)
        · have hkn : n = k := by omega
          subst hkn
          rw [List.take_of_length_le (by omega)] at om
          refine WC.exit ?_
          refine E.thenX ?_
          refine E.thenX ?_
          refine E.blkH ?_
          refine E.thenN ?_
          refine WC.seq ?_
          refine WC.region ?_
          refine W.any (.move rfl) rfl rfl rfl ?_
          refine W.any (.assign rfl) rfl rfl rfl ?_
          refine W.nil ?_
          refine E.thenN ?_
          refine WC.ret ?_
          refine E.ret1 rfl rfl ?_
          exact ⟨A1, c1, by rw [List.take_of_length_le (by omega)], om, Lm⟩
end Go.Proofs.Ytfgakofjkldcjaa
