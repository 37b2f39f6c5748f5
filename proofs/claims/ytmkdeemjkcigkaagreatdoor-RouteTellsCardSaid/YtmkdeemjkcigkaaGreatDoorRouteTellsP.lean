/- RouteTells: for every input the law answers true and leaves its arguments as they were. -/
import Derived.Test.YtmkdeemjkcigkaaGreatDoorRouteTellsO
set_option linter.unusedVariables false
set_option linter.unusedSimpArgs false
namespace Go.Proofs.YtmkdeemjkcigkaaGreatDoor
open Go Go.Sx Go.Nsp
set_option maxRecDepth 20000
theorem val_two' (n : Nat) (h : n < 18446744073709551616) : val [n % 4294967296 % 4294967296, n / 4294967296 % 4294967296] = n := by
  simp only [val, B]
  omega
theorem two_lt' (n : Nat) : ∀ d ∈ [n % 4294967296 % 4294967296, n / 4294967296 % 4294967296], d < B := fun d hd => by
  have e : B = 4294967296 := rfl
  simp only [List.mem_cons, List.not_mem_nil, or_false] at hd
  omega
theorem digs_len_pos' {q : Nat} (h : 0 < q) : 0 < (digs q).length := by rw [digs_pos (by omega)]; simp
theorem cmpN_ge {a b : Nat} : (0 ≤ cmpN a b ↔ b ≤ a) := by unfold cmpN; split <;> (try split) <;> omega
def QR (a b k Q r : Nat) : Prop := a / 2 ^ k = b * Q + r
theorem rdiv_more {a b k Q r' : Nat} (h : a / 2 ^ k = b * (2 * Q) + r') (hb : b ≤ r') : QR a b k (2 * Q + 1) (r' - b) := by
  show a / 2 ^ k = b * (2 * Q + 1) + (r' - b)
  rw [h, Nat.mul_add, Nat.mul_one]; omega
theorem rdiv_low {q : List Nat} {Q k : Nat} (h : val q = Q * 2 ^ k) (hk : 0 < k) : val q = 2 * Q * 2 ^ (k - 1) := by
  obtain ⟨j, rfl⟩ : ∃ j, k = j + 1 := ⟨k - 1, by omega⟩
  rw [h, Nat.add_sub_cancel, Nat.pow_succ, Nat.mul_comm 2 Q, Nat.mul_assoc, Nat.mul_comm 2]
theorem rdiv_end {a b k Q r : Nat} {q : List Nat} (h : QR a b k Q r) (hv : val q = Q * 2 ^ k) (hr : r < b) (hk : k = 0) : val q = a / b ∧ val (digs r) = a % b := by
  subst hk
  have h1 : a / 2 ^ 0 = b * Q + r := h
  rw [Nat.pow_zero, Nat.div_one] at h1
  rw [Nat.pow_zero, Nat.mul_one] at hv
  obtain ⟨e1, e2⟩ := div_mod h1 hr
  rw [hv, val_digs, e1, e2]
  exact ⟨rfl, rfl⟩
theorem digs_add_len (a b : Nat) : (digs (a + b)).length ≤ max (digs a).length (digs b).length + 1 := by
  refine digs_len_pow _ ?_
  have h1 := lt_pow a (j := max (digs a).length (digs b).length) (Nat.le_max_left _ _)
  have h2 := lt_pow b (j := max (digs a).length (digs b).length) (Nat.le_max_right _ _)
  rw [Nat.pow_succ]
  have h3 : B ^ (max (digs a).length (digs b).length) * 2 ≤ B ^ (max (digs a).length (digs b).length) * B := Nat.mul_le_mul_left _ (by decide)
  omega
theorem rnright_ok {A : Option Addr} {n c a : Nat} (w : World) (hV : Vec w dv 1 A n (digs a)) (hn : n ≤ 1000000) : Calls Tryz.prog 145 #[.slice A n c] w fun r w' => r = .returned (.bool true) ∧ Le w w' := by
 have hl := hV.1
 refine enter Tryz.func145 rfl rfl ?_
 have L0 := Le.refl w
 refine WC.sr (W.run 1 rfl (W.nx (WC.sr (W.run 1 rfl ?_))))
 refine W.r (.len Tryz.underlying31 rfl) ?_
 refine W.run 1 rfl ?_
 by_cases q1_3 : ((n : Nat) : Int) = 0
 ·refine W.dt q1_3 rfl rfl (W.run 9 rfl (W.nx (WC.ret ?_)))
  refine E.retG1 rfl rfl ?_
  exact ⟨rfl, L0⟩
 refine W.df q1_3 rfl rfl (W.run 2 rfl ?_)
 refine W.g (.len Tryz.underlying31 rfl) ?_
 refine W.g (Any.rd (.sub rfl rfl (by omega)) _) ?_
 refine W.g (Any.rd (.idxS ((n - 1)) Tryz.underlying31 sz122 rfl rfl (hV.isSome dv_row (by omega)) (by omega) (by omega)) _) ?_
 refine W.g (.vone (v := .int .u32 (((((digs a).getD (n - 1) 0) : Nat) : Int))) na122 rfl (hV.le L0) dv_row (getS (digs a) 0 (by first | omega | (simp only [List.length_cons, List.length_nil]; omega))) rfl) ?_
 refine W.g (Any.rd (.dec (.gtr rfl rfl) (decide_eq_true (by have h := digs_last a (by omega); rw [hl] at h; omega))) _) ?_
 refine W.run 2 rfl (W.nx (WC.ret ?_))
 refine E.retG1 rfl rfl ?_
 exact ⟨rfl, L0⟩

theorem rntaken_ok {A : Option Addr} {n c a : Nat} (w : World) (hV : Vec w dv 1 A n (digs a)) (hn : n ≤ 1000000) : Calls Tryz.prog 122 #[.slice A n c] w fun r w' => r = .returned (.slice A n c) ∧ Le w w' := by
 have hl := hV.1
 refine enter Tryz.func122 rfl rfl ?_
 have L0 := Le.refl w
 refine WC.sr (W.run 1 rfl (W.nx (WC.sr (W.run 1 rfl ?_))))
 refine W.cl go145 rfl rfl (rnright_ok w (hV.le L0) (by omega)) ?_
 rintro _ w1_1 ⟨rfl, h1_1⟩
 have L1 := L0.trans h1_1
 refine W.run 1 rfl (W.nx (WC.seq (WC.sr (W.run 2 rfl (W.nx (WC.condF rfl (WC.sn (WC.sr (W.run 2 rfl (W.nx (WC.ret ?_)))))))))))
 refine E.retG1 rfl rfl ?_
 exact ⟨rfl, L1⟩

theorem rndigit_ok {A : Option Addr} {n c a : Nat} (i : Nat) (w : World) (hV : Vec w dv 1 A n (digs a)) (hn : n ≤ 1000000) (hi : i ≤ 9000000000000000000) : Calls Tryz.prog 123 #[.slice A n c, .int .i64 (((i : Nat) : Int))] w fun r w' => r = .returned (.int .u64 ((((digs a).getD i 0 : Nat)) : Int)) ∧ Le w w' := by
 have hl := hV.1
 have hdl := dig_lt a i
 refine enter Tryz.func123 rfl rfl ?_
 have L0 := Le.refl w
 refine WC.sr (W.run 1 rfl (W.nx (WC.seq (WC.sr (W.run 2 rfl ?_)))))
 refine W.r (.len Tryz.underlying31 rfl) ?_
 refine W.run 1 rfl (W.nx ?_)
 by_cases c0 : ((i : Nat) : Int) < ((n : Nat) : Int)
 ·refine WC.condY rfl (decide_eq_true c0) ?_
  refine WC.sr (W.run 2 rfl ?_)
  refine W.a (.idxS (i) Tryz.underlying31 sz122 rfl rfl (hV.isSome dv_row (by omega)) (rfl) (by omega)) ?_
  refine W.r (.vone (v := .int .u32 (((((digs a).getD i 0) : Nat) : Int))) na122 rfl (hV.le L0) dv_row (getS (digs a) 0 (by first | omega | (simp only [List.length_cons, List.length_nil]; omega))) rfl) ?_
  refine W.r (.idI (isS Tryz.underlying122) Tryz.underlying57 rfl (IntWalk.u64_in _ (by omega))) ?_
  refine W.run 1 rfl (W.nx (WC.ret (E.thenR ?_)))
  refine E.retG1 rfl rfl ?_
  exact ⟨rfl, L0⟩
 refine WC.condN rfl (decide_eq_false c0) ?_
 refine WC.sn (WC.sr (W.run 1 rfl (W.nx (WC.ret ?_))))
 refine E.retG1 rfl rfl ?_
 exact ⟨by rw [getD_none (by omega)]; rfl, L0⟩

theorem rlow_ok {A : Option Addr} {n c : Nat} {xs : List Nat} (w : World) (hV : Vec w dv 1 A n xs) (hb : ∀ d ∈ xs, d < B) (hnc : n ≤ c) (hn : n ≤ 1000000) : Calls Tryz.prog 120 #[.slice A n c] w fun r w' => ∃ A' c', r = .returned (.slice A' (digs (val xs)).length c') ∧ OVec w' w.heap.size 122 dv 1 A' (digs (val xs)).length c' (digs (val xs)) ∧ Le w w' := by
 have hl := hV.1
 refine enter Tryz.func120 rfl rfl ?_
 have L0 := Le.refl w
 refine WC.sr (W.run 1 rfl (W.nx (WC.sr (W.run 1 rfl ?_))))
 refine W.r (.len Tryz.underlying31 rfl) ?_
 refine W.run 1 rfl (W.nx (WC.seq (WC.block ?_)))
 refine WC.loop (ι := Nat) (fun k => [(0, .slice A n c), (3, .int .i64 (((k : Nat) : Int)))]) (fun k wl0 => (k ≤ n) ∧ (∀ j, k ≤ j → xs.getD j 0 = 0) ∧ Le w wl0 ∧ w.heap.size ≤ wl0.heap.size) (fun k => k) n ?_ ?_ ?_
 ·exact .cons rfl (.cons rfl (.nil _))
 ·exact ⟨Nat.le_refl _, (fun j hj => getD_none (by omega)), L0, Nat.le_refl _⟩
 rintro k wl0 ⟨hk, hz, Ll0, zl0⟩
 refine WC.seq (WC.sr (W.run 2 rfl ?_))
 by_cases q2_2 : 0 < ((k : Nat) : Int)
 ·refine W.dt q2_2 rfl rfl (W.run 2 rfl ?_)
  refine W.g (Any.rd (.sub rfl rfl (by omega)) _) ?_
  refine W.g (Any.rd (.idxS ((k - 1)) Tryz.underlying31 sz122 rfl rfl (hV.isSome dv_row (by omega)) (by omega) (by omega)) _) ?_
  refine W.g (.vone (v := .int .u32 ((((xs.getD (k - 1) 0) : Nat) : Int))) na122 rfl (hV.le Ll0) dv_row (getS xs 0 (by omega)) rfl) ?_
  refine W.run 2 rfl (W.nx ?_)
  by_cases c0 : (((xs.getD (k - 1) 0) : Nat) : Int) = 0
  ·refine WC.condY rfl (decide_eq_true c0) ?_
   refine WC.sn (WC.block (WC.region (W.run 1 rfl ?_)))
   refine W.a (.sub rfl rfl (by omega)) ?_
   refine W.run 1 rfl (W.nil (E.blkN ?_))
   refine E.again (k - 1) (.cons rfl (.cons' rfl (int_eq (by omega)) (.nil _))) ?_ ?_
   ·exact ⟨by omega, (fun j hj => by rcases Nat.lt_or_ge j k with h | h; (rw [show j = k - 1 by omega]; omega); exact hz j h), Ll0, by have := zl0; omega⟩
   show k - 1 < k; omega
  refine WC.condN rfl (decide_eq_false c0) ?_
  refine WC.exit (E.thenX (E.thenX (E.blkH (E.thenN (WC.sr (W.ef rfl rfl rfl ?_))))))
  refine Ef.buildSlice0 Tryz.underlying31 el122 ?_
  intro g4_0 w4_0 hg4_0 b4_0 h4_0
  have L1 := Ll0.trans h4_0
  have o4_0 : OVec w4_0 wl0.heap.size 122 dv 1 (some ⟨g4_0, 0, none⟩) 0 0 [] := OVec.nil _ _ _ _ _ _
  refine W.run 2 rfl ?_
  have v2 := hV.cutH k (by omega) dv_row
  have v2l := v2.1
  refine W.a (.cutH (k) Tryz.underlying31 sz122 rfl rfl (rfl) (by omega)) ?_
  refine W.ef rfl rfl rfl ?_
  refine Ef.vcat Tryz.underlying31 el122 Tryz.underlying31 dv_row rfl o4_0 rfl (v2.le L1) (by omega) (by unfold maxLen; omega) (by have := h4_0.size; omega) ?_
  intro A4_4 c4_4 w4_4 o4_4 h4_4 at4_4
  have L3 := L1.then_ h4_4 (fun q hq => Nat.le_trans Ll0.size (o4_0.row hq).1)
  refine W.run 1 rfl (W.nx (WC.ret ?_))
  refine E.retG1 rfl rfl ?_
  have e : xs.take k = digs (val xs) := digs_trim hb (by omega) hz (fun h0 => by first | (exfalso; omega) | omega)
  have hq := (o4_4.mono Ll0.size)
  rw [List.nil_append, e] at hq
  have hk2 := hq.1
  exact ⟨_, _, by rw [hk2], hq.cast hk2.symm rfl, L3⟩
 refine W.df q2_2 rfl rfl (W.run 7 rfl (W.nx (WC.condF rfl (WC.exit (E.thenX (E.thenX (E.blkH (E.thenN (WC.sr (W.ef rfl rfl rfl ?_))))))))))
 refine Ef.buildSlice0 Tryz.underlying31 el122 ?_
 intro g4_0_1 w4_0_1 hg4_0_1 b4_0_1 h4_0_1
 have L4 := Ll0.trans h4_0_1
 have o4_0_1 : OVec w4_0_1 wl0.heap.size 122 dv 1 (some ⟨g4_0_1, 0, none⟩) 0 0 [] := OVec.nil _ _ _ _ _ _
 refine W.run 2 rfl ?_
 have v5 := hV.cutH k (by omega) dv_row
 have v5l := v5.1
 refine W.a (.cutH (k) Tryz.underlying31 sz122 rfl rfl (rfl) (by omega)) ?_
 refine W.ef rfl rfl rfl ?_
 refine Ef.vcat Tryz.underlying31 el122 Tryz.underlying31 dv_row rfl o4_0_1 rfl (v5.le L4) (by omega) (by unfold maxLen; omega) (by have := h4_0_1.size; omega) ?_
 intro A4_4_1 c4_4_1 w4_4_1 o4_4_1 h4_4_1 at4_4_1
 have L6 := L4.then_ h4_4_1 (fun q hq => Nat.le_trans Ll0.size (o4_0_1.row hq).1)
 refine W.run 1 rfl (W.nx (WC.ret ?_))
 refine E.retG1 rfl rfl ?_
 have e : xs.take k = digs (val xs) := digs_trim hb (by omega) hz (fun h0 => by first | (exfalso; omega) | omega)
 have hq := (o4_4_1.mono Ll0.size)
 rw [List.nil_append, e] at hq
 have hk2 := hq.1
 exact ⟨_, _, by rw [hk2], hq.cast hk2.symm rfl, L6⟩

theorem rnof_ok (a : Nat) (ha : a < 18446744073709551616) (w : World) : Calls Tryz.prog 93 #[.int .u64 (((a : Nat) : Int))] w fun r w' => ∃ A c, r = .returned (.slice A (digs a).length c) ∧ OVec w' w.heap.size 122 dv 1 A (digs a).length c (digs a) ∧ Le w w' := by
 refine enter Tryz.func93 rfl rfl ?_
 have L0 := Le.refl w
 refine WC.sr (W.run 1 rfl (W.nx (WC.sr (W.run 1 rfl ?_))))
 refine W.a (.remN a 4294967296 (a % 4294967296) rfl rfl rfl rfl (by omega) (rfl)) ?_
 refine W.r (.toU32 (a % 4294967296) (isS Tryz.underlying57) Tryz.underlying122 rfl rfl) ?_
 refine W.run 1 rfl ?_
 refine W.a (.quoN a 4294967296 (a / 4294967296) rfl rfl rfl rfl (by omega) (by omega) (rfl)) ?_
 refine W.r (.toU32 (a / 4294967296) (isS Tryz.underlying57) Tryz.underlying122 rfl rfl) ?_
 refine W.ef rfl rfl rfl ?_
 refine Ef.buildSliceV (len := 2) [_, _] Tryz.underlying31 el122 rfl (by simp [Value.cells]) rfl (by decide) (by decide) ?_
 intro g1_6 w1_6 hg1_6 b1_6 h1_6
 have L1 := L0.trans h1_6
 have b1_6 : Blk w1_6 g1_6 122 (([((a % 4294967296) % 4294967296), ((a / 4294967296) % 4294967296)]).map dv).flatten.toArray := b1_6
 have o1_6 : OVec w1_6 w.heap.size 122 dv 1 (some ⟨g1_6, 0, none⟩) 2 2 ([((a % 4294967296) % 4294967296), ((a / 4294967296) % 4294967296)]) := b1_6.ovec hg1_6 dv_row rfl rfl (by decide)
 refine W.cl go120 rfl rfl ((by have h := rlow_ok (c := 2) w1_6 o1_6.vec (two_lt' a) o1_6.cap.1 (by omega); rw [show val ([((a % 4294967296) % 4294967296), ((a / 4294967296) % 4294967296)]) = a from val_two' a ha] at h; exact h)) ?_
 rintro _ w1_7 ⟨Ad1_7, cd1_7, rfl, o1_7, h1_7⟩
 have L2 := L1.trans h1_7
 refine W.run 1 rfl (W.nx (WC.ret ?_))
 refine E.retG1 rfl rfl ?_
 exact ⟨_, _, rfl, (o1_7.mono L1.size), L2⟩

theorem rncmp_ok {A A2 : Option Addr} {n c m c2 a b : Nat} (w : World) (hV : Vec w dv 1 A n (digs a)) (hW : Vec w dv 1 A2 m (digs b)) (hn : n ≤ 100000) (hm : m ≤ 100000) : Calls Tryz.prog 112 #[.slice A n c, .slice A2 m c2] w fun r w' => r = .returned (.int .i64 (cmpN a b)) ∧ Le w w' := by
 have hl := hV.1
 have hl2 := hW.1
 have hB : B = 4294967296 := rfl
 refine enter Tryz.func112 rfl rfl ?_
 have L0 := Le.refl w
 refine WC.sr (W.run 1 rfl (W.nx (WC.sr (W.run 1 rfl ?_))))
 refine W.cl go122 rfl rfl (rntaken_ok w (hV.le L0) (by omega)) ?_
 rintro _ w1_1 ⟨rfl, h1_1⟩
 have L1 := L0.trans h1_1
 refine W.run 1 rfl (W.nx (WC.sr (W.run 1 rfl ?_)))
 refine W.cl go122 rfl rfl (rntaken_ok w1_1 (hW.le L1) (by omega)) ?_
 rintro _ w2_1 ⟨rfl, h2_1⟩
 have L2 := L1.trans h2_1
 refine W.run 1 rfl (W.nx (WC.seq (WC.sr (W.run 1 rfl ?_))))
 refine W.r (.len Tryz.underlying31 rfl) ?_
 refine W.run 1 rfl ?_
 refine W.r (.len Tryz.underlying31 rfl) ?_
 refine W.r (.max2 rfl rfl) ?_
 refine W.a (.sub rfl rfl (by omega)) ?_
 refine W.run 1 rfl (W.nx (WC.block ?_))
 refine WC.loop (ι := Nat) (fun k => [(5, .slice A n c), (6, .slice A2 m c2), (7, .int .i64 (((k : Nat) : Int) - 1))]) (fun k wl0 => (k ≤ max n m) ∧ (QEq a b k) ∧ Le w wl0 ∧ w2_1.heap.size ≤ wl0.heap.size) (fun k => k) (max n m) ?_ ?_ ?_
 ·exact .cons rfl (.cons rfl (.cons' rfl (int_eq (by omega)) (.nil _)))
 ·exact ⟨Nat.le_refl _, (show a / B ^ (max n m) = b / B ^ (max n m) from by rw [div_top a (by omega), div_top b (by omega)]), L2, Nat.le_refl _⟩
 rintro k wl0 ⟨hk, hq, Ll0, zl0⟩
 refine WC.seq (WC.sr (W.run 2 rfl (W.nx ?_)))
 by_cases c0 : 0 ≤ (((k : Nat) : Int) - 1)
 ·refine WC.condY rfl (decide_eq_true c0) ?_
  refine WC.sn (WC.seq (WC.block (WC.seq (WC.sr (W.run 1 rfl ?_)))))
  refine W.a (.as (.move rfl) (int_eq (b := (((k - 1 : Nat)) : Int)) (by omega))) ?_
  refine W.cl go123 rfl rfl (rndigit_ok (k - 1) wl0 (hV.le Ll0) (by omega) (by omega)) ?_
  rintro _ w6_2 ⟨rfl, h6_2⟩
  have L3 := Ll0.trans h6_2
  refine W.run 1 rfl ?_
  refine W.a (.as (.move rfl) (int_eq (b := (((k - 1 : Nat)) : Int)) (by omega))) ?_
  refine W.cl go123 rfl rfl (rndigit_ok (k - 1) w6_2 (hW.le L3) (by omega) (by omega)) ?_
  rintro _ w6_5 ⟨rfl, h6_5⟩
  have L4 := L3.trans h6_5
  refine W.run 1 rfl (W.nx ?_)
  by_cases c1 : ((((digs a).getD (k - 1) 0) : Nat) : Int) < ((((digs b).getD (k - 1) 0) : Nat) : Int)
  ·refine WC.condY rfl (decide_eq_true c1) ?_
   refine WC.sr (W.run 1 rfl (W.nx (WC.ret (E.thenR (E.blkR (E.thenR (E.thenR (E.blkR (E.thenR ?_)))))))))
   refine E.retG1 rfl rfl ?_
   exact ⟨congrArg (fun v => Ending.returned (Value.int .i64 v)) (cmpN_less (dg_less (j := k - 1) (by rw [show k - 1 + 1 = k by omega]; exact hq) (by omega))).symm, L4⟩
  refine WC.condN rfl (decide_eq_false c1) ?_
  refine WC.sn (WC.sr (W.run 1 rfl ?_))
  refine W.a (.as (.move rfl) (int_eq (b := (((k - 1 : Nat)) : Int)) (by omega))) ?_
  refine W.cl go123 rfl rfl (rndigit_ok (k - 1) w6_5 (hV.le L4) (by omega) (by omega)) ?_
  rintro _ w8_2 ⟨rfl, h8_2⟩
  have L5 := L4.trans h8_2
  refine W.run 1 rfl ?_
  refine W.a (.as (.move rfl) (int_eq (b := (((k - 1 : Nat)) : Int)) (by omega))) ?_
  refine W.cl go123 rfl rfl (rndigit_ok (k - 1) w8_2 (hW.le L5) (by omega) (by omega)) ?_
  rintro _ w8_5 ⟨rfl, h8_5⟩
  have L6 := L5.trans h8_5
  refine W.run 1 rfl (W.nx ?_)
  by_cases c2 : ((((digs b).getD (k - 1) 0) : Nat) : Int) < ((((digs a).getD (k - 1) 0) : Nat) : Int)
  ·refine WC.condY rfl (decide_eq_true c2) ?_
   refine WC.sr (W.run 1 rfl (W.nx (WC.ret (E.blkR (E.thenR (E.thenR (E.blkR (E.thenR ?_))))))))
   refine E.retG1 rfl rfl ?_
   exact ⟨congrArg (fun v => Ending.returned (Value.int .i64 v)) (cmpN_more (dg_less (j := k - 1) (by rw [show k - 1 + 1 = k by omega]; exact hq.symm) (by omega))).symm, L6⟩
  refine WC.condN rfl (decide_eq_false c2) ?_
  refine WC.skip (E.blkN (E.thenN (WC.region (W.run 1 rfl ?_))))
  refine W.a (.sub rfl rfl (by omega)) ?_
  refine W.run 1 rfl (W.nil ?_)
  refine E.again (k - 1) (.cons rfl (.cons rfl (.cons' rfl (int_eq (by omega)) (.nil _)))) ?_ ?_
  ·exact ⟨by omega, dg_same (j := k - 1) (by rw [show k - 1 + 1 = k by omega]; exact hq) (by omega), L6, by have := zl0; have := h6_2.size; have := h6_5.size; have := h8_2.size; have := h8_5.size; omega⟩
  show k - 1 < k; omega
 refine WC.condN rfl (decide_eq_false c0) ?_
 refine WC.exit (E.thenX (E.thenX (E.blkH (E.thenN (WC.sr (W.run 1 rfl (W.nx (WC.ret ?_))))))))
 refine E.retG1 rfl rfl ?_
 exact ⟨congrArg (fun v => Ending.returned (Value.int .i64 v)) (show cmpN a b = 0 from by have h9 : a / B ^ k = b / B ^ k := hq; rw [show k = 0 by omega, Nat.pow_zero, Nat.div_one, Nat.div_one] at h9; rw [h9]; exact cmpN_same b).symm, Ll0⟩

theorem rnadd_ok {A A2 : Option Addr} {n c m c2 a b : Nat} (w : World) (hV : Vec w dv 1 A n (digs a)) (hW : Vec w dv 1 A2 m (digs b)) (hn : n ≤ 100000) (hm : m ≤ 100000) : Calls Tryz.prog 143 #[.slice A n c, .slice A2 m c2] w fun r w' => ∃ A c, r = .returned (.slice A (digs (a + b)).length c) ∧ OVec w' w.heap.size 122 dv 1 A (digs (a + b)).length c (digs (a + b)) ∧ Le w w' := by
 have hl := hV.1
 have hl2 := hW.1
 have hB : B = 4294967296 := rfl
 refine enter Tryz.func143 rfl rfl ?_
 have L0 := Le.refl w
 refine WC.sr (W.run 1 rfl (W.nx (WC.sr (W.run 1 rfl ?_))))
 refine W.cl go122 rfl rfl (rntaken_ok w (hV.le L0) (by omega)) ?_
 rintro _ w1_1 ⟨rfl, h1_1⟩
 have L1 := L0.trans h1_1
 refine W.run 1 rfl (W.nx (WC.sr (W.run 1 rfl ?_)))
 refine W.cl go122 rfl rfl (rntaken_ok w1_1 (hW.le L1) (by omega)) ?_
 rintro _ w2_1 ⟨rfl, h2_1⟩
 have L2 := L1.trans h2_1
 refine W.run 1 rfl (W.nx (WC.sr (W.run 1 rfl (W.nx (WC.sr (W.run 1 rfl (W.nx (WC.seq (WC.sr (W.run 1 rfl (W.nx (WC.block ?_))))))))))))
 refine WC.loop (ι := Nat × Nat × (List Nat) × ((Option Addr)) × Nat) (fun ⟨i, cy, out, Ao, co⟩ => [(5, .slice A n c), (6, .slice A2 m c2), (7, .slice Ao i co), (8, .int .u64 (((cy : Nat) : Int))), (9, .int .i64 (((i : Nat) : Int)))]) (fun ⟨i, cy, out, Ao, co⟩ wl0 => (i ≤ max n m + 1) ∧ (out.length = i) ∧ (∀ d ∈ out, d < B) ∧ (val out + B ^ i * cy = a % B ^ i + b % B ^ i) ∧ (cy ≤ 1) ∧ (i = max n m + 1 → cy = 0) ∧ Le w wl0 ∧ w2_1.heap.size ≤ wl0.heap.size ∧ OVec wl0 w2_1.heap.size 122 dv 1 Ao i co out) (fun ⟨i, cy, out, Ao, co⟩ => max n m + 1 - i) (0, 0, [], none, 0) ?_ ?_ ?_
 ·exact .cons rfl (.cons rfl (.cons rfl (.cons rfl (.cons rfl (.nil _)))))
 ·exact ⟨Nat.zero_le _, rfl, (fun d hd => by cases hd), by simp [val, Nat.mod_one], by decide, fun h => by omega, L2, Nat.le_refl _, (OVec.nil w2_1 w2_1.heap.size 122 dv 1 none)⟩
 rintro ⟨i, cy, out, Ao, co⟩ wl0 ⟨hi, hol, hob, hov, hcy, hce, Ll0, zl0, f0_0⟩
 have lb0_3 : w2_1.heap.size ≤ wl0.heap.size := by omega
 refine WC.seq (WC.sr (W.run 2 rfl ?_))
 refine W.r (.len Tryz.underlying31 rfl) ?_
 refine W.run 1 rfl ?_
 by_cases q6_4 : ((i : Nat) : Int) < ((n : Nat) : Int)
 ·refine W.dt q6_4 rfl rfl (W.run 9 rfl (W.nx (WC.condT rfl ?_)))
  have hx := dig_lt a i
  have hy := dig_lt b i
  have hx0 : n ≤ i → ((digs a).getD i 0) = 0 := fun h => getD_none (by omega)
  have hy0 : m ≤ i → ((digs b).getD i 0) = 0 := fun h => getD_none (by omega)
  refine WC.sn (WC.seq (WC.block (WC.sr (W.run 2 rfl ?_))))
  refine W.cl go123 rfl rfl (rndigit_ok i wl0 (hV.le Ll0) (by omega) (by omega)) ?_
  rintro _ w8_2 ⟨rfl, h8_2⟩
  have L3 := Ll0.trans h8_2
  refine W.run 2 rfl ?_
  refine W.cl go123 rfl rfl (rndigit_ok i w8_2 (hW.le L3) (by omega) (by omega)) ?_
  rintro _ w8_5 ⟨rfl, h8_5⟩
  have L4 := L3.trans h8_5
  refine W.a (.addN ((digs a).getD i 0) ((digs b).getD i 0) (((digs a).getD i 0) + ((digs b).getD i 0)) rfl rfl rfl rfl (by omega)) ?_
  refine W.run 1 rfl ?_
  refine W.a (.addN (((digs a).getD i 0) + ((digs b).getD i 0)) cy ((((digs a).getD i 0) + ((digs b).getD i 0)) + cy) rfl rfl rfl rfl (by omega)) ?_
  refine W.run 1 rfl (W.nx (WC.sr (W.run 2 rfl ?_)))
  refine W.a (.remN ((((digs a).getD i 0) + ((digs b).getD i 0)) + cy) 4294967296 (((((digs a).getD i 0) + ((digs b).getD i 0)) + cy) % 4294967296) rfl rfl rfl rfl (by omega) (rfl)) ?_
  refine W.r (.toU32 (((((digs a).getD i 0) + ((digs b).getD i 0)) + cy) % 4294967296) (isS Tryz.underlying57) Tryz.underlying122 rfl rfl) ?_
  refine W.ef rfl rfl rfl ?_
  refine Ef.buildSliceV (len := 1) [_] Tryz.underlying31 el122 rfl (by simp [Value.cells]) rfl (by decide) (by decide) ?_
  intro g9_4 w9_4 hg9_4 b9_4 h9_4
  have L5 := L4.trans h9_4
  have b9_4 : Blk w9_4 g9_4 122 (([((((((digs a).getD i 0) + ((digs b).getD i 0)) + cy) % 4294967296) % 4294967296)]).map dv).flatten.toArray := b9_4
  have o9_4 : OVec w9_4 w8_5.heap.size 122 dv 1 (some ⟨g9_4, 0, none⟩) 1 1 ([((((((digs a).getD i 0) + ((digs b).getD i 0)) + cy) % 4294967296) % 4294967296)]) := b9_4.ovec hg9_4 dv_row rfl rfl (by decide)
  have f6 := (f0_0.le (h8_2.trans (h8_5.trans h9_4)))
  refine W.ef rfl rfl rfl ?_
  refine Ef.vpush (a := ((((((digs a).getD i 0) + ((digs b).getD i 0)) + cy) % 4294967296) % 4294967296)) Tryz.underlying31 el122 Tryz.underlying31 dv_row rfl f6 rfl b9_4 (by omega) (by unfold maxLen; omega) (by have := lb0_3; have := h8_2.size; have := h8_5.size; have := h9_4.size; omega) ?_
  intro A9_5 c9_5 w9_5 o9_5 h9_5 at9_5
  have L7 := L5.then_ h9_5 (fun q hq => Nat.le_trans L2.size (f6.row hq).1)
  have o8 := o9_5.cast (m' := (i + 1)) (ys := (out ++ [(((digs a).getD i 0) + ((digs b).getD i 0) + cy) % B])) (rfl) (by rw [Nat.mod_mod]; rfl)
  refine W.run 1 rfl (W.nx (WC.region (W.run 1 rfl ?_)))
  refine W.a (.quoN ((((digs a).getD i 0) + ((digs b).getD i 0)) + cy) 4294967296 (((((digs a).getD i 0) + ((digs b).getD i 0)) + cy) / 4294967296) rfl rfl rfl rfl (by omega) (by omega) (rfl)) ?_
  refine W.run 1 rfl (W.nil (E.blkN (E.thenN (WC.region (W.run 1 rfl ?_)))))
  refine W.a (.add rfl rfl (by omega)) ?_
  refine W.run 1 rfl (W.nil ?_)
  refine E.again (i + 1, ((((digs a).getD i 0) + ((digs b).getD i 0) + cy) / 4294967296), (out ++ [(((digs a).getD i 0) + ((digs b).getD i 0) + cy) % B]), A9_5, c9_5) (.cons rfl (.cons rfl (.cons rfl (.cons rfl (.cons rfl (.nil _)))))) ?_ ?_
  ·exact ⟨by omega, by rw [List.length_append, hol]; rfl, app_lt hob (Nat.mod_lt _ (by decide)), radd_step hol hov, by omega, fun h => by have := hx0 (by omega); have := hy0 (by omega); omega, L7, by have := zl0; have := h8_2.size; have := h8_5.size; have := h9_4.size; have := h9_5.size; omega, o8⟩
  show max n m + 1 - (i + 1) < max n m + 1 - i; omega
 refine W.df q6_4 rfl rfl (W.run 2 rfl ?_)
 refine W.g (.len Tryz.underlying31 rfl) ?_
 refine W.run 2 rfl ?_
 by_cases q6_10 : ((i : Nat) : Int) < ((m : Nat) : Int)
 ·refine W.dt q6_10 rfl rfl (W.run 3 rfl (W.nx (WC.condT rfl ?_)))
  have hx := dig_lt a i
  have hy := dig_lt b i
  have hx0 : n ≤ i → ((digs a).getD i 0) = 0 := fun h => getD_none (by omega)
  have hy0 : m ≤ i → ((digs b).getD i 0) = 0 := fun h => getD_none (by omega)
  refine WC.sn (WC.seq (WC.block (WC.sr (W.run 2 rfl ?_))))
  refine W.cl go123 rfl rfl (rndigit_ok i wl0 (hV.le Ll0) (by omega) (by omega)) ?_
  rintro _ w8_2_1 ⟨rfl, h8_2_1⟩
  have L9 := Ll0.trans h8_2_1
  refine W.run 2 rfl ?_
  refine W.cl go123 rfl rfl (rndigit_ok i w8_2_1 (hW.le L9) (by omega) (by omega)) ?_
  rintro _ w8_5_1 ⟨rfl, h8_5_1⟩
  have L10 := L9.trans h8_5_1
  refine W.a (.addN ((digs a).getD i 0) ((digs b).getD i 0) (((digs a).getD i 0) + ((digs b).getD i 0)) rfl rfl rfl rfl (by omega)) ?_
  refine W.run 1 rfl ?_
  refine W.a (.addN (((digs a).getD i 0) + ((digs b).getD i 0)) cy ((((digs a).getD i 0) + ((digs b).getD i 0)) + cy) rfl rfl rfl rfl (by omega)) ?_
  refine W.run 1 rfl (W.nx (WC.sr (W.run 2 rfl ?_)))
  refine W.a (.remN ((((digs a).getD i 0) + ((digs b).getD i 0)) + cy) 4294967296 (((((digs a).getD i 0) + ((digs b).getD i 0)) + cy) % 4294967296) rfl rfl rfl rfl (by omega) (rfl)) ?_
  refine W.r (.toU32 (((((digs a).getD i 0) + ((digs b).getD i 0)) + cy) % 4294967296) (isS Tryz.underlying57) Tryz.underlying122 rfl rfl) ?_
  refine W.ef rfl rfl rfl ?_
  refine Ef.buildSliceV (len := 1) [_] Tryz.underlying31 el122 rfl (by simp [Value.cells]) rfl (by decide) (by decide) ?_
  intro g9_4_1 w9_4_1 hg9_4_1 b9_4_1 h9_4_1
  have L11 := L10.trans h9_4_1
  have b9_4_1 : Blk w9_4_1 g9_4_1 122 (([((((((digs a).getD i 0) + ((digs b).getD i 0)) + cy) % 4294967296) % 4294967296)]).map dv).flatten.toArray := b9_4_1
  have o9_4_1 : OVec w9_4_1 w8_5_1.heap.size 122 dv 1 (some ⟨g9_4_1, 0, none⟩) 1 1 ([((((((digs a).getD i 0) + ((digs b).getD i 0)) + cy) % 4294967296) % 4294967296)]) := b9_4_1.ovec hg9_4_1 dv_row rfl rfl (by decide)
  have f12 := (f0_0.le (h8_2_1.trans (h8_5_1.trans h9_4_1)))
  refine W.ef rfl rfl rfl ?_
  refine Ef.vpush (a := ((((((digs a).getD i 0) + ((digs b).getD i 0)) + cy) % 4294967296) % 4294967296)) Tryz.underlying31 el122 Tryz.underlying31 dv_row rfl f12 rfl b9_4_1 (by omega) (by unfold maxLen; omega) (by have := lb0_3; have := h8_2_1.size; have := h8_5_1.size; have := h9_4_1.size; omega) ?_
  intro A9_5_1 c9_5_1 w9_5_1 o9_5_1 h9_5_1 at9_5_1
  have L13 := L11.then_ h9_5_1 (fun q hq => Nat.le_trans L2.size (f12.row hq).1)
  have o14 := o9_5_1.cast (m' := (i + 1)) (ys := (out ++ [(((digs a).getD i 0) + ((digs b).getD i 0) + cy) % B])) (rfl) (by rw [Nat.mod_mod]; rfl)
  refine W.run 1 rfl (W.nx (WC.region (W.run 1 rfl ?_)))
  refine W.a (.quoN ((((digs a).getD i 0) + ((digs b).getD i 0)) + cy) 4294967296 (((((digs a).getD i 0) + ((digs b).getD i 0)) + cy) / 4294967296) rfl rfl rfl rfl (by omega) (by omega) (rfl)) ?_
  refine W.run 1 rfl (W.nil (E.blkN (E.thenN (WC.region (W.run 1 rfl ?_)))))
  refine W.a (.add rfl rfl (by omega)) ?_
  refine W.run 1 rfl (W.nil ?_)
  refine E.again (i + 1, ((((digs a).getD i 0) + ((digs b).getD i 0) + cy) / 4294967296), (out ++ [(((digs a).getD i 0) + ((digs b).getD i 0) + cy) % B]), A9_5_1, c9_5_1) (.cons rfl (.cons rfl (.cons rfl (.cons rfl (.cons rfl (.nil _)))))) ?_ ?_
  ·exact ⟨by omega, by rw [List.length_append, hol]; rfl, app_lt hob (Nat.mod_lt _ (by decide)), radd_step hol hov, by omega, fun h => by have := hx0 (by omega); have := hy0 (by omega); omega, L13, by have := zl0; have := h8_2_1.size; have := h8_5_1.size; have := h9_4_1.size; have := h9_5_1.size; omega, o14⟩
  show max n m + 1 - (i + 1) < max n m + 1 - i; omega
 refine W.df q6_10 rfl rfl (W.run 3 rfl (W.nx ?_))
 by_cases c0 : 0 < ((cy : Nat) : Int)
 ·refine WC.condY rfl (decide_eq_true c0) ?_
  have hx := dig_lt a i
  have hy := dig_lt b i
  have hx0 : n ≤ i → ((digs a).getD i 0) = 0 := fun h => getD_none (by omega)
  have hy0 : m ≤ i → ((digs b).getD i 0) = 0 := fun h => getD_none (by omega)
  refine WC.sn (WC.seq (WC.block (WC.sr (W.run 2 rfl ?_))))
  refine W.cl go123 rfl rfl (rndigit_ok i wl0 (hV.le Ll0) (by omega) (by omega)) ?_
  rintro _ w8_2_2 ⟨rfl, h8_2_2⟩
  have L15 := Ll0.trans h8_2_2
  refine W.run 2 rfl ?_
  refine W.cl go123 rfl rfl (rndigit_ok i w8_2_2 (hW.le L15) (by omega) (by omega)) ?_
  rintro _ w8_5_2 ⟨rfl, h8_5_2⟩
  have L16 := L15.trans h8_5_2
  refine W.a (.addN ((digs a).getD i 0) ((digs b).getD i 0) (((digs a).getD i 0) + ((digs b).getD i 0)) rfl rfl rfl rfl (by omega)) ?_
  refine W.run 1 rfl ?_
  refine W.a (.addN (((digs a).getD i 0) + ((digs b).getD i 0)) cy ((((digs a).getD i 0) + ((digs b).getD i 0)) + cy) rfl rfl rfl rfl (by omega)) ?_
  refine W.run 1 rfl (W.nx (WC.sr (W.run 2 rfl ?_)))
  refine W.a (.remN ((((digs a).getD i 0) + ((digs b).getD i 0)) + cy) 4294967296 (((((digs a).getD i 0) + ((digs b).getD i 0)) + cy) % 4294967296) rfl rfl rfl rfl (by omega) (rfl)) ?_
  refine W.r (.toU32 (((((digs a).getD i 0) + ((digs b).getD i 0)) + cy) % 4294967296) (isS Tryz.underlying57) Tryz.underlying122 rfl rfl) ?_
  refine W.ef rfl rfl rfl ?_
  refine Ef.buildSliceV (len := 1) [_] Tryz.underlying31 el122 rfl (by simp [Value.cells]) rfl (by decide) (by decide) ?_
  intro g9_4_2 w9_4_2 hg9_4_2 b9_4_2 h9_4_2
  have L17 := L16.trans h9_4_2
  have b9_4_2 : Blk w9_4_2 g9_4_2 122 (([((((((digs a).getD i 0) + ((digs b).getD i 0)) + cy) % 4294967296) % 4294967296)]).map dv).flatten.toArray := b9_4_2
  have o9_4_2 : OVec w9_4_2 w8_5_2.heap.size 122 dv 1 (some ⟨g9_4_2, 0, none⟩) 1 1 ([((((((digs a).getD i 0) + ((digs b).getD i 0)) + cy) % 4294967296) % 4294967296)]) := b9_4_2.ovec hg9_4_2 dv_row rfl rfl (by decide)
  have f18 := (f0_0.le (h8_2_2.trans (h8_5_2.trans h9_4_2)))
  refine W.ef rfl rfl rfl ?_
  refine Ef.vpush (a := ((((((digs a).getD i 0) + ((digs b).getD i 0)) + cy) % 4294967296) % 4294967296)) Tryz.underlying31 el122 Tryz.underlying31 dv_row rfl f18 rfl b9_4_2 (by omega) (by unfold maxLen; omega) (by have := lb0_3; have := h8_2_2.size; have := h8_5_2.size; have := h9_4_2.size; omega) ?_
  intro A9_5_2 c9_5_2 w9_5_2 o9_5_2 h9_5_2 at9_5_2
  have L19 := L17.then_ h9_5_2 (fun q hq => Nat.le_trans L2.size (f18.row hq).1)
  have o20 := o9_5_2.cast (m' := (i + 1)) (ys := (out ++ [(((digs a).getD i 0) + ((digs b).getD i 0) + cy) % B])) (rfl) (by rw [Nat.mod_mod]; rfl)
  refine W.run 1 rfl (W.nx (WC.region (W.run 1 rfl ?_)))
  refine W.a (.quoN ((((digs a).getD i 0) + ((digs b).getD i 0)) + cy) 4294967296 (((((digs a).getD i 0) + ((digs b).getD i 0)) + cy) / 4294967296) rfl rfl rfl rfl (by omega) (by omega) (rfl)) ?_
  refine W.run 1 rfl (W.nil (E.blkN (E.thenN (WC.region (W.run 1 rfl ?_)))))
  refine W.a (.add rfl rfl (by omega)) ?_
  refine W.run 1 rfl (W.nil ?_)
  refine E.again (i + 1, ((((digs a).getD i 0) + ((digs b).getD i 0) + cy) / 4294967296), (out ++ [(((digs a).getD i 0) + ((digs b).getD i 0) + cy) % B]), A9_5_2, c9_5_2) (.cons rfl (.cons rfl (.cons rfl (.cons rfl (.cons rfl (.nil _)))))) ?_ ?_
  ·exact ⟨by omega, by rw [List.length_append, hol]; rfl, app_lt hob (Nat.mod_lt _ (by decide)), radd_step hol hov, by omega, fun h => by have := hx0 (by omega); have := hy0 (by omega); omega, L19, by have := zl0; have := h8_2_2.size; have := h8_5_2.size; have := h9_4_2.size; have := h9_5_2.size; omega, o20⟩
  show max n m + 1 - (i + 1) < max n m + 1 - i; omega
 refine WC.condN rfl (decide_eq_false c0) ?_
 refine WC.exit (E.thenX (E.thenX (E.blkH (E.thenN (WC.sr (W.run 1 rfl ?_))))))
 refine W.cl go120 rfl rfl ((by have h := rlow_ok (c := co) wl0 f0_0.vec hob f0_0.cap.1 (by omega); rw [show val out = (a + b) from by have h9 := hov; rw [mod_top a (by omega), mod_top b (by omega), show cy = 0 by omega, Nat.mul_zero, Nat.add_zero] at h9; exact h9] at h; exact h)) ?_
 rintro _ w11_1 ⟨Ad11_1, cd11_1, rfl, o11_1, h11_1⟩
 have L21 := Ll0.trans h11_1
 refine W.run 1 rfl (W.nx (WC.ret ?_))
 refine E.retG1 rfl rfl ?_
 exact ⟨_, _, rfl, (o11_1.mono Ll0.size), L21⟩

theorem rnsub_ok {A A2 : Option Addr} {n c m c2 a b : Nat} (w : World) (hV : Vec w dv 1 A n (digs a)) (hW : Vec w dv 1 A2 m (digs b)) (hba : b ≤ a) (hn : n ≤ 100000) (hm : m ≤ 100000) : Calls Tryz.prog 144 #[.slice A n c, .slice A2 m c2] w fun r w' => ∃ A c, r = .returned (.tuple #[.slice A (digs (a - b)).length c, .bool true]) ∧ OVec w' w.heap.size 122 dv 1 A (digs (a - b)).length c (digs (a - b)) ∧ Le w w' := by
 have hl := hV.1
 have hl2 := hW.1
 have hB : B = 4294967296 := rfl
 refine enter Tryz.func144 rfl rfl ?_
 have L0 := Le.refl w
 refine WC.sr (W.run 2 rfl (W.nx (WC.sr (W.run 1 rfl ?_))))
 refine W.cl go122 rfl rfl (rntaken_ok w (hV.le L0) (by omega)) ?_
 rintro _ w1_1 ⟨rfl, h1_1⟩
 have L1 := L0.trans h1_1
 refine W.run 1 rfl (W.nx (WC.sr (W.run 1 rfl ?_)))
 refine W.cl go122 rfl rfl (rntaken_ok w1_1 (hW.le L1) (by omega)) ?_
 rintro _ w2_1 ⟨rfl, h2_1⟩
 have L2 := L1.trans h2_1
 refine W.run 1 rfl (W.nx (WC.seq (WC.sr (W.run 2 rfl ?_))))
 refine W.cl go112 rfl rfl (rncmp_ok w2_1 (hV.le L2) (hW.le L2) (by omega) (by omega)) ?_
 rintro _ w3_2 ⟨rfl, h3_2⟩
 have L3 := L2.trans h3_2
 refine W.a (.dec (.lss rfl rfl) (decide_eq_false (by unfold cmpN; split <;> (try split) <;> omega))) ?_
 refine W.nx (WC.condF rfl (WC.sn (WC.sr (W.run 1 rfl (W.nx (WC.sr (W.run 1 rfl (W.nx (WC.seq (WC.sr (W.run 1 rfl (W.nx (WC.block ?_)))))))))))))
 refine WC.loop (ι := Nat × Nat × (List Nat) × ((Option Addr)) × Nat) (fun ⟨i, cy, out, Ao, co⟩ => [(6, .slice A n c), (7, .slice A2 m c2), (8, .slice Ao i co), (9, .int .u64 (((cy : Nat) : Int))), (10, .int .i64 (((i : Nat) : Int)))]) (fun ⟨i, cy, out, Ao, co⟩ wl0 => (i ≤ n) ∧ (out.length = i) ∧ (∀ d ∈ out, d < B) ∧ (val out + b % B ^ i = a % B ^ i + B ^ i * cy) ∧ (cy ≤ 1) ∧ Le w wl0 ∧ w3_2.heap.size ≤ wl0.heap.size ∧ OVec wl0 w3_2.heap.size 122 dv 1 Ao i co out) (fun ⟨i, cy, out, Ao, co⟩ => n - i) (0, 0, [], none, 0) ?_ ?_ ?_
 ·exact .cons rfl (.cons rfl (.cons rfl (.cons rfl (.cons rfl (.nil _)))))
 ·exact ⟨Nat.zero_le _, rfl, (fun d hd => by cases hd), by simp [val, Nat.mod_one], by decide, L3, Nat.le_refl _, (OVec.nil w3_2 w3_2.heap.size 122 dv 1 none)⟩
 rintro ⟨i, cy, out, Ao, co⟩ wl0 ⟨hi, hol, hob, hov, hcy, Ll0, zl0, f0_0⟩
 have lb0_3 : w3_2.heap.size ≤ wl0.heap.size := by omega
 refine WC.seq (WC.sr (W.run 2 rfl ?_))
 refine W.r (.len Tryz.underlying31 rfl) ?_
 refine W.run 1 rfl (W.nx ?_)
 by_cases c1 : ((i : Nat) : Int) < ((n : Nat) : Int)
 ·refine WC.condY rfl (decide_eq_true c1) ?_
  have hx := dig_lt a i
  have hy := dig_lt b i
  refine WC.sn (WC.seq (WC.block (WC.sr (W.run 2 rfl ?_))))
  refine W.cl go123 rfl rfl (rndigit_ok i wl0 (hV.le Ll0) (by omega) (by omega)) ?_
  rintro _ w10_2 ⟨rfl, h10_2⟩
  have L4 := Ll0.trans h10_2
  refine W.a (.addN 4294967296 ((digs a).getD i 0) (4294967296 + ((digs a).getD i 0)) rfl rfl rfl rfl (by omega)) ?_
  refine W.run 2 rfl ?_
  refine W.cl go123 rfl rfl (rndigit_ok i w10_2 (hW.le L4) (by omega) (by omega)) ?_
  rintro _ w10_6 ⟨rfl, h10_6⟩
  have L5 := L4.trans h10_6
  refine W.a (.subN (4294967296 + ((digs a).getD i 0)) ((digs b).getD i 0) ((4294967296 + ((digs a).getD i 0)) - ((digs b).getD i 0)) rfl rfl rfl rfl (by omega) (by omega)) ?_
  refine W.run 1 rfl ?_
  refine W.a (.subN ((4294967296 + ((digs a).getD i 0)) - ((digs b).getD i 0)) cy (((4294967296 + ((digs a).getD i 0)) - ((digs b).getD i 0)) - cy) rfl rfl rfl rfl (by omega) (by omega)) ?_
  refine W.run 1 rfl (W.nx (WC.sr (W.run 2 rfl ?_)))
  refine W.a (.remN (((4294967296 + ((digs a).getD i 0)) - ((digs b).getD i 0)) - cy) 4294967296 ((((4294967296 + ((digs a).getD i 0)) - ((digs b).getD i 0)) - cy) % 4294967296) rfl rfl rfl rfl (by omega) (rfl)) ?_
  refine W.r (.toU32 ((((4294967296 + ((digs a).getD i 0)) - ((digs b).getD i 0)) - cy) % 4294967296) (isS Tryz.underlying57) Tryz.underlying122 rfl rfl) ?_
  refine W.ef rfl rfl rfl ?_
  refine Ef.buildSliceV (len := 1) [_] Tryz.underlying31 el122 rfl (by simp [Value.cells]) rfl (by decide) (by decide) ?_
  intro g11_4 w11_4 hg11_4 b11_4 h11_4
  have L6 := L5.trans h11_4
  have b11_4 : Blk w11_4 g11_4 122 (([(((((4294967296 + ((digs a).getD i 0)) - ((digs b).getD i 0)) - cy) % 4294967296) % 4294967296)]).map dv).flatten.toArray := b11_4
  have o11_4 : OVec w11_4 w10_6.heap.size 122 dv 1 (some ⟨g11_4, 0, none⟩) 1 1 ([(((((4294967296 + ((digs a).getD i 0)) - ((digs b).getD i 0)) - cy) % 4294967296) % 4294967296)]) := b11_4.ovec hg11_4 dv_row rfl rfl (by decide)
  have f7 := (f0_0.le (h10_2.trans (h10_6.trans h11_4)))
  refine W.ef rfl rfl rfl ?_
  refine Ef.vpush (a := (((((4294967296 + ((digs a).getD i 0)) - ((digs b).getD i 0)) - cy) % 4294967296) % 4294967296)) Tryz.underlying31 el122 Tryz.underlying31 dv_row rfl f7 rfl b11_4 (by omega) (by unfold maxLen; omega) (by have := lb0_3; have := h10_2.size; have := h10_6.size; have := h11_4.size; omega) ?_
  intro A11_5 c11_5 w11_5 o11_5 h11_5 at11_5
  have L8 := L6.then_ h11_5 (fun q hq => Nat.le_trans L3.size (f7.row hq).1)
  have o9 := o11_5.cast (m' := (i + 1)) (ys := (out ++ [(4294967296 + ((digs a).getD i 0) - ((digs b).getD i 0) - cy) % B])) (rfl) (by rw [Nat.mod_mod]; rfl)
  refine W.run 1 rfl (W.nx (WC.region (W.run 1 rfl ?_)))
  refine W.a (.quoN (((4294967296 + ((digs a).getD i 0)) - ((digs b).getD i 0)) - cy) 4294967296 ((((4294967296 + ((digs a).getD i 0)) - ((digs b).getD i 0)) - cy) / 4294967296) rfl rfl rfl rfl (by omega) (by omega) (rfl)) ?_
  refine W.a (.subN 1 ((((4294967296 + ((digs a).getD i 0)) - ((digs b).getD i 0)) - cy) / 4294967296) (1 - ((((4294967296 + ((digs a).getD i 0)) - ((digs b).getD i 0)) - cy) / 4294967296)) rfl rfl rfl rfl (by omega) (by omega)) ?_
  refine W.run 1 rfl (W.nil (E.blkN (E.thenN (WC.region (W.run 1 rfl ?_)))))
  refine W.a (.add rfl rfl (by omega)) ?_
  refine W.run 1 rfl (W.nil ?_)
  refine E.again (i + 1, (1 - (4294967296 + ((digs a).getD i 0) - ((digs b).getD i 0) - cy) / 4294967296), (out ++ [(4294967296 + ((digs a).getD i 0) - ((digs b).getD i 0) - cy) % B]), A11_5, c11_5) (.cons rfl (.cons rfl (.cons rfl (.cons rfl (.cons rfl (.nil _)))))) ?_ ?_
  ·exact ⟨by omega, by rw [List.length_append, hol]; rfl, app_lt hob (Nat.mod_lt _ (by decide)), rsub_step hcy hol hov, by omega, L8, by have := zl0; have := h10_2.size; have := h10_6.size; have := h11_4.size; have := h11_5.size; omega, o9⟩
  first | omega | (simp only []; omega)
 refine WC.condN rfl (decide_eq_false c1) ?_
 refine WC.exit (E.thenX (E.thenX (E.blkH (E.thenN (WC.sr (W.run 1 rfl ?_))))))
 refine W.cl go120 rfl rfl ((by have h := rlow_ok (c := co) wl0 f0_0.vec hob f0_0.cap.1 (by omega); rw [show val out = (a - b) from rsub_end hob hol (lt_pow a (by omega)) hba hcy hov] at h; exact h)) ?_
 rintro _ w13_1 ⟨Ad13_1, cd13_1, rfl, o13_1, h13_1⟩
 have L10 := Ll0.trans h13_1
 refine W.run 2 rfl (W.nx (WC.ret ?_))
 refine E.retG2 rfl rfl rfl ?_
 exact ⟨_, _, rfl, (o13_1.mono Ll0.size), L10⟩

theorem rnmul_ok {A A2 : Option Addr} {n c m c2 a b : Nat} (w : World) (hV : Vec w dv 1 A n (digs a)) (hW : Vec w dv 1 A2 m (digs b)) (hn : n ≤ 100000) (hm : m ≤ 100000) : Calls Tryz.prog 95 #[.slice A n c, .slice A2 m c2] w fun r w' => ∃ A c, r = .returned (.slice A (digs (a * b)).length c) ∧ OVec w' w.heap.size 122 dv 1 A (digs (a * b)).length c (digs (a * b)) ∧ Le w w' := by
 have hl := hV.1
 have hl2 := hW.1
 have hB : B = 4294967296 := rfl
 refine enter Tryz.func95 rfl rfl ?_
 have L0 := Le.refl w
 refine WC.sr (W.run 1 rfl (W.nx (WC.sr (W.run 1 rfl ?_))))
 refine W.cl go122 rfl rfl (rntaken_ok w (hV.le L0) (by omega)) ?_
 rintro _ w1_1 ⟨rfl, h1_1⟩
 have L1 := L0.trans h1_1
 refine W.run 1 rfl (W.nx (WC.sr (W.run 1 rfl ?_)))
 refine W.cl go122 rfl rfl (rntaken_ok w1_1 (hW.le L1) (by omega)) ?_
 rintro _ w2_1 ⟨rfl, h2_1⟩
 have L2 := L1.trans h2_1
 refine W.run 1 rfl (W.nx (WC.sr (W.run 1 rfl ?_)))
 refine W.r (.len Tryz.underlying31 rfl) ?_
 refine W.run 1 rfl ?_
 refine W.r (.len Tryz.underlying31 rfl) ?_
 refine W.a (.add rfl rfl (by omega)) ?_
 refine W.a (.add rfl rfl (by omega)) ?_
 refine W.ef rfl rfl rfl ?_
 refine Ef.vmake 0 ((n + m) + 1) Tryz.underlying31 el122 dv_row rfl rfl (by omega) rfl (by omega) (by omega) (by unfold maxLen; omega) ?_
 intro g3_6 w3_6 hg3_6 o3_6 h3_6
 have L3 := L2.trans h3_6
 refine W.run 1 rfl (W.nx (WC.seq (WC.sr (W.run 1 rfl (W.nx (WC.block ?_))))))
 refine WC.loop (ι := Nat × (List Nat)) (fun ⟨i, out⟩ => [(5, .slice A n c), (6, .slice A2 m c2), (7, .slice (some ⟨g3_6, 0, none⟩) (n + m + 1) ((n + m) + 1)), (8, .int .i64 (((i : Nat) : Int)))]) (fun ⟨i, out⟩ wl0 => (i ≤ n) ∧ (out.length = n + m + 1) ∧ (∀ d ∈ out, d < B) ∧ (∀ j, i + m ≤ j → out.getD j 0 = 0) ∧ (val out = a % B ^ i * b) ∧ Le w wl0 ∧ w3_6.heap.size ≤ wl0.heap.size ∧ OVec wl0 w2_1.heap.size 122 dv 1 (some ⟨g3_6, 0, none⟩) (n + m + 1) ((n + m) + 1) out) (fun ⟨i, out⟩ => n - i) (0, (List.replicate (n + m + 1) 0)) ?_ ?_ ?_
 ·exact .cons rfl (.cons rfl (.cons rfl (.cons rfl (.nil _))))
 ·exact ⟨Nat.zero_le _, List.length_replicate, rep_lt _, (fun j hj => rep_get _ _), by rw [val_replicate]; simp [Nat.mod_one], L3, Nat.le_refl _, o3_6⟩
 rintro ⟨i, out⟩ wl0 ⟨hi, hol, hob, hoz, hov, Ll0, zl0, f0_0⟩
 have lb0_3 : w2_1.heap.size ≤ wl0.heap.size := by have := h3_6.size; omega
 refine WC.seq (WC.sr (W.run 2 rfl ?_))
 refine W.r (.len Tryz.underlying31 rfl) ?_
 refine W.run 1 rfl (W.nx ?_)
 by_cases c0 : ((i : Nat) : Int) < ((n : Nat) : Int)
 ·refine WC.condY rfl (decide_eq_true c0) ?_
  refine WC.sn (WC.seq (WC.block (WC.sr (W.run 1 rfl (W.nx (WC.sr (W.run 1 rfl (W.nx (WC.block ?_)))))))))
  refine WC.loop (ι := Nat × Nat × (List Nat)) (fun ⟨k, cy, o2⟩ => [(5, .slice A n c), (6, .slice A2 m c2), (7, .slice (some ⟨g3_6, 0, none⟩) (n + m + 1) ((n + m) + 1)), (8, .int .i64 (((i : Nat) : Int))), (9, .int .u64 (((cy : Nat) : Int))), (10, .int .i64 (((k : Nat) : Int)))]) (fun ⟨k, cy, o2⟩ wl1 => (k ≤ m + 1) ∧ (o2.length = n + m + 1) ∧ (∀ d ∈ o2, d < B) ∧ (∀ j, i + m + 1 ≤ j → o2.getD j 0 = 0) ∧ (k ≤ m → o2.getD (i + m) 0 = 0) ∧ (val o2 + B ^ (i + k) * cy = a % B ^ i * b + B ^ i * (((digs a).getD i 0) * (b % B ^ k))) ∧ (cy < B) ∧ (k = m + 1 → cy = 0) ∧ Le w wl1 ∧ wl0.heap.size ≤ wl1.heap.size ∧ OVec wl1 w2_1.heap.size 122 dv 1 (some ⟨g3_6, 0, none⟩) (n + m + 1) ((n + m) + 1) o2) (fun ⟨k, cy, o2⟩ => m + 1 - k) (0, 0, out) ?_ ?_ ?_
  ·exact .cons rfl (.cons rfl (.cons rfl (.cons rfl (.cons rfl (.cons rfl (.nil _))))))
  ·exact ⟨Nat.zero_le _, hol, hob, (fun j hj => hoz j (by omega)), fun _ => hoz _ (Nat.le_refl _), by simp [hov, Nat.mod_one], by decide, fun h => by omega, Ll0, Nat.le_refl _, f0_0⟩
  rintro ⟨k, cy, o2⟩ wl1 ⟨hk, h2l, h2b, h2z, h2n, h2v, hcy, hce, Ll1, zl1, f1_0⟩
  have lb1_3 : w2_1.heap.size ≤ wl1.heap.size := Nat.le_trans lb0_3 (by omega)
  refine WC.seq (WC.sr (W.run 2 rfl ?_))
  refine W.r (.len Tryz.underlying31 rfl) ?_
  refine W.run 1 rfl ?_
  by_cases q9_4 : ((k : Nat) : Int) < ((m : Nat) : Int)
  ·refine W.dt q9_4 rfl rfl (W.run 3 rfl (W.nx (WC.condT rfl ?_)))
   have hx := dig_lt a i
   have hy := dig_lt b k
   have ho := getD_lt h2b (i + k)
   have hr := mul_room hx hy ho hcy
   have hBB : B * B = 18446744073709551616 := by decide
   have hy0 : m ≤ k → ((digs b).getD k 0) = 0 := fun h => getD_none (by omega)
   refine WC.sn (WC.seq (WC.block (WC.seq ?_)))
   refine WC.draw [0, 1, 3, 4, 7, 8, 9, 10, 11, 12, 13, 15, 2, 5, 6, 14, 16, 17] mixed (by kernel_rfl) ?_
   intro w11 d11
   have L4 := Ll1.trans d11
   refine G.run 7 rfl ?_
   refine G.a rfl (.add rfl rfl (by omega)) ?_
   refine G.a rfl (.idxS ((i + k)) Tryz.underlying31 sz122 rfl rfl (o3_6.vec.isSome dv_row (by omega)) (by omega) (by omega)) ?_
   have f5 := (f1_0.le d11)
   refine G.r rfl (.vone (v := .int .u32 ((((o2.getD (i + k) 0) : Nat) : Int))) na122 rfl f5.vec dv_row (getS o2 0 (by omega)) rfl) ?_
   refine G.r rfl (.idI (isS Tryz.underlying122) Tryz.underlying57 rfl (IntWalk.u64_in _ (by omega))) ?_
   refine G.run 1 rfl ?_
   refine G.ef rfl rfl rfl rfl rfl ?_
   refine Ef.call go123 rfl rfl (rndigit_ok i w11 (hV.le L4) (by omega) (by omega)) ?_
   rintro _ w11_2 ⟨rfl, h11_2⟩
   refine ⟨_, rfl, ?_⟩
   refine ⟨fun _ => h11_2, ?_⟩
   have L6 := L4.trans h11_2
   refine G.ef rfl rfl rfl rfl rfl ?_
   refine Ef.call go123 rfl rfl (rndigit_ok k w11_2 (hW.le L6) (by omega) (by omega)) ?_
   rintro _ w11_5 ⟨rfl, h11_5⟩
   refine ⟨_, rfl, ?_⟩
   refine ⟨fun _ => h11_5, ?_⟩
   have L7 := L6.trans h11_5
   refine G.a rfl (.mulN ((digs a).getD i 0) ((digs b).getD k 0) (((digs a).getD i 0) * ((digs b).getD k 0)) rfl rfl rfl rfl (by omega)) ?_
   refine G.a rfl (.addN (((digs a).getD i 0) * ((digs b).getD k 0)) (o2.getD (i + k) 0) ((((digs a).getD i 0) * ((digs b).getD k 0)) + (o2.getD (i + k) 0)) rfl rfl rfl rfl (by omega)) ?_
   refine G.a rfl (.addN ((((digs a).getD i 0) * ((digs b).getD k 0)) + (o2.getD (i + k) 0)) cy (((((digs a).getD i 0) * ((digs b).getD k 0)) + (o2.getD (i + k) 0)) + cy) rfl rfl rfl rfl (by omega)) ?_
   refine G.run 1 rfl (G.nil (E.thenN (WC.sr (W.run 3 rfl ?_))))
   refine W.a (.add rfl rfl (by omega)) ?_
   refine W.run 1 rfl ?_
   refine W.a (.remN (((((digs a).getD i 0) * ((digs b).getD k 0)) + (o2.getD (i + k) 0)) + cy) 4294967296 ((((((digs a).getD i 0) * ((digs b).getD k 0)) + (o2.getD (i + k) 0)) + cy) % 4294967296) rfl rfl rfl rfl (by omega) (rfl)) ?_
   refine W.r (.toU32 ((((((digs a).getD i 0) * ((digs b).getD k 0)) + (o2.getD (i + k) 0)) + cy) % 4294967296) (isS Tryz.underlying57) Tryz.underlying122 rfl rfl) ?_
   refine W.a (.idxS ((i + k)) Tryz.underlying31 sz122 rfl rfl (o3_6.vec.isSome dv_row (by omega)) (by omega) (by omega)) ?_
   have f8 := (f5.le (h11_2.trans h11_5))
   refine W.ef0 rfl rfl ?_
   refine Ef.vset (j := (i + k)) (o := 0) (((((((digs a).getD i 0) * ((digs b).getD k 0)) + (o2.getD (i + k) 0)) + cy) % 4294967296) % 4294967296) sz122 rfl (by omega) rfl f8 dv_row (getS o2 0 (by omega)) (by decide) rfl rfl ?_
   intro w12_8 o12_8 h12_8
   have L9 := L7.then_ h12_8 (fun q hq => Nat.le_trans L2.size (f8.row hq).1)
   have o10 := o12_8.cast (m' := (n + m + 1)) (ys := (o2.set (i + k) ((((digs a).getD i 0) * ((digs b).getD k 0) + o2.getD (i + k) 0 + cy) % B))) (rfl) (by rw [Nat.mod_mod]; rfl)
   refine W.nx (WC.region (W.run 1 rfl ?_))
   refine W.a (.quoN (((((digs a).getD i 0) * ((digs b).getD k 0)) + (o2.getD (i + k) 0)) + cy) 4294967296 ((((((digs a).getD i 0) * ((digs b).getD k 0)) + (o2.getD (i + k) 0)) + cy) / 4294967296) rfl rfl rfl rfl (by omega) (by omega) (rfl)) ?_
   refine W.run 1 rfl (W.nil (E.blkN (E.thenN (WC.region (W.run 1 rfl ?_)))))
   refine W.a (.add rfl rfl (by omega)) ?_
   refine W.run 1 rfl (W.nil ?_)
   refine E.again (k + 1, ((((digs a).getD i 0) * ((digs b).getD k 0) + o2.getD (i + k) 0 + cy) / 4294967296), (o2.set (i + k) ((((digs a).getD i 0) * ((digs b).getD k 0) + o2.getD (i + k) 0 + cy) % B))) (.cons rfl (.cons rfl (.cons rfl (.cons rfl (.cons rfl (.cons rfl (.nil _))))))) ?_ ?_
   ·exact ⟨by omega, by rw [List.length_set]; exact h2l, set_lt h2b (Nat.mod_lt _ (by decide)), (fun j hj => by rw [List.getD_eq_getElem?_getD, List.getElem?_set_ne (by omega), ← List.getD_eq_getElem?_getD]; exact h2z j (by omega)), (fun hj => by rw [List.getD_eq_getElem?_getD, List.getElem?_set_ne (by omega), ← List.getD_eq_getElem?_getD]; exact h2n (by omega)), by rw [mod_up b]; exact mul_step (by omega) h2v, Nat.div_lt_of_lt_mul (by rw [hB] at hr; exact hr), (fun hk9 => rmul_last (hy0 (by omega)) (by rw [show k = m by omega]; exact h2n (by omega)) hcy), L9, by have := zl1; have := d11.size; have := h11_2.size; have := h11_5.size; have := h12_8.size; omega, o10⟩
   show m + 1 - (k + 1) < m + 1 - k; omega
  refine W.df q9_4 rfl rfl (W.run 3 rfl (W.nx ?_))
  by_cases c1 : 0 < ((cy : Nat) : Int)
  ·refine WC.condY rfl (decide_eq_true c1) ?_
   have hx := dig_lt a i
   have hy := dig_lt b k
   have ho := getD_lt h2b (i + k)
   have hr := mul_room hx hy ho hcy
   have hBB : B * B = 18446744073709551616 := by decide
   have hy0 : m ≤ k → ((digs b).getD k 0) = 0 := fun h => getD_none (by omega)
   refine WC.sn (WC.seq (WC.block (WC.seq ?_)))
   refine WC.draw [0, 1, 3, 4, 7, 8, 9, 10, 11, 12, 13, 15, 2, 5, 6, 14, 16, 17] mixed (by kernel_rfl) ?_
   intro w11 d11
   have L11 := Ll1.trans d11
   refine G.run 7 rfl ?_
   refine G.a rfl (.add rfl rfl (by omega)) ?_
   refine G.a rfl (.idxS ((i + k)) Tryz.underlying31 sz122 rfl rfl (o3_6.vec.isSome dv_row (by omega)) (by omega) (by omega)) ?_
   have f12 := (f1_0.le d11)
   refine G.r rfl (.vone (v := .int .u32 ((((o2.getD (i + k) 0) : Nat) : Int))) na122 rfl f12.vec dv_row (getS o2 0 (by omega)) rfl) ?_
   refine G.r rfl (.idI (isS Tryz.underlying122) Tryz.underlying57 rfl (IntWalk.u64_in _ (by omega))) ?_
   refine G.run 1 rfl ?_
   refine G.ef rfl rfl rfl rfl rfl ?_
   refine Ef.call go123 rfl rfl (rndigit_ok i w11 (hV.le L11) (by omega) (by omega)) ?_
   rintro _ w11_2_1 ⟨rfl, h11_2_1⟩
   refine ⟨_, rfl, ?_⟩
   refine ⟨fun _ => h11_2_1, ?_⟩
   have L13 := L11.trans h11_2_1
   refine G.ef rfl rfl rfl rfl rfl ?_
   refine Ef.call go123 rfl rfl (rndigit_ok k w11_2_1 (hW.le L13) (by omega) (by omega)) ?_
   rintro _ w11_5_1 ⟨rfl, h11_5_1⟩
   refine ⟨_, rfl, ?_⟩
   refine ⟨fun _ => h11_5_1, ?_⟩
   have L14 := L13.trans h11_5_1
   refine G.a rfl (.mulN ((digs a).getD i 0) ((digs b).getD k 0) (((digs a).getD i 0) * ((digs b).getD k 0)) rfl rfl rfl rfl (by omega)) ?_
   refine G.a rfl (.addN (((digs a).getD i 0) * ((digs b).getD k 0)) (o2.getD (i + k) 0) ((((digs a).getD i 0) * ((digs b).getD k 0)) + (o2.getD (i + k) 0)) rfl rfl rfl rfl (by omega)) ?_
   refine G.a rfl (.addN ((((digs a).getD i 0) * ((digs b).getD k 0)) + (o2.getD (i + k) 0)) cy (((((digs a).getD i 0) * ((digs b).getD k 0)) + (o2.getD (i + k) 0)) + cy) rfl rfl rfl rfl (by omega)) ?_
   refine G.run 1 rfl (G.nil (E.thenN (WC.sr (W.run 3 rfl ?_))))
   refine W.a (.add rfl rfl (by omega)) ?_
   refine W.run 1 rfl ?_
   refine W.a (.remN (((((digs a).getD i 0) * ((digs b).getD k 0)) + (o2.getD (i + k) 0)) + cy) 4294967296 ((((((digs a).getD i 0) * ((digs b).getD k 0)) + (o2.getD (i + k) 0)) + cy) % 4294967296) rfl rfl rfl rfl (by omega) (rfl)) ?_
   refine W.r (.toU32 ((((((digs a).getD i 0) * ((digs b).getD k 0)) + (o2.getD (i + k) 0)) + cy) % 4294967296) (isS Tryz.underlying57) Tryz.underlying122 rfl rfl) ?_
   refine W.a (.idxS ((i + k)) Tryz.underlying31 sz122 rfl rfl (o3_6.vec.isSome dv_row (by omega)) (by omega) (by omega)) ?_
   have f15 := (f12.le (h11_2_1.trans h11_5_1))
   refine W.ef0 rfl rfl ?_
   refine Ef.vset (j := (i + k)) (o := 0) (((((((digs a).getD i 0) * ((digs b).getD k 0)) + (o2.getD (i + k) 0)) + cy) % 4294967296) % 4294967296) sz122 rfl (by omega) rfl f15 dv_row (getS o2 0 (by omega)) (by decide) rfl rfl ?_
   intro w12_8_1 o12_8_1 h12_8_1
   have L16 := L14.then_ h12_8_1 (fun q hq => Nat.le_trans L2.size (f15.row hq).1)
   have o17 := o12_8_1.cast (m' := (n + m + 1)) (ys := (o2.set (i + k) ((((digs a).getD i 0) * ((digs b).getD k 0) + o2.getD (i + k) 0 + cy) % B))) (rfl) (by rw [Nat.mod_mod]; rfl)
   refine W.nx (WC.region (W.run 1 rfl ?_))
   refine W.a (.quoN (((((digs a).getD i 0) * ((digs b).getD k 0)) + (o2.getD (i + k) 0)) + cy) 4294967296 ((((((digs a).getD i 0) * ((digs b).getD k 0)) + (o2.getD (i + k) 0)) + cy) / 4294967296) rfl rfl rfl rfl (by omega) (by omega) (rfl)) ?_
   refine W.run 1 rfl (W.nil (E.blkN (E.thenN (WC.region (W.run 1 rfl ?_)))))
   refine W.a (.add rfl rfl (by omega)) ?_
   refine W.run 1 rfl (W.nil ?_)
   refine E.again (k + 1, ((((digs a).getD i 0) * ((digs b).getD k 0) + o2.getD (i + k) 0 + cy) / 4294967296), (o2.set (i + k) ((((digs a).getD i 0) * ((digs b).getD k 0) + o2.getD (i + k) 0 + cy) % B))) (.cons rfl (.cons rfl (.cons rfl (.cons rfl (.cons rfl (.cons rfl (.nil _))))))) ?_ ?_
   ·exact ⟨by omega, by rw [List.length_set]; exact h2l, set_lt h2b (Nat.mod_lt _ (by decide)), (fun j hj => by rw [List.getD_eq_getElem?_getD, List.getElem?_set_ne (by omega), ← List.getD_eq_getElem?_getD]; exact h2z j (by omega)), (fun hj => by rw [List.getD_eq_getElem?_getD, List.getElem?_set_ne (by omega), ← List.getD_eq_getElem?_getD]; exact h2n (by omega)), by rw [mod_up b]; exact mul_step (by omega) h2v, Nat.div_lt_of_lt_mul (by rw [hB] at hr; exact hr), (fun hk9 => rmul_last (hy0 (by omega)) (by rw [show k = m by omega]; exact h2n (by omega)) hcy), L16, by have := zl1; have := d11.size; have := h11_2_1.size; have := h11_5_1.size; have := h12_8_1.size; omega, o17⟩
   show m + 1 - (k + 1) < m + 1 - k; omega
  refine WC.condN rfl (decide_eq_false c1) ?_
  refine WC.exit (E.thenX (E.thenX (E.blkH (E.blkN (E.thenN (WC.region (W.run 1 rfl ?_)))))))
  refine W.a (.add rfl rfl (by omega)) ?_
  refine W.run 1 rfl (W.nil ?_)
  refine E.again (i + 1, o2) (.cons rfl (.cons rfl (.cons rfl (.cons rfl (.nil _))))) ?_ ?_
  ·exact ⟨by omega, h2l, h2b, (fun j hj => h2z j (by omega)), by have h9 := h2v; rw [mod_top b (by omega), show cy = 0 by omega, Nat.mul_zero, Nat.add_zero] at h9; rw [mod_up a, Nat.add_mul, Nat.mul_assoc]; exact h9, Ll1, by have := zl0; have := zl1; have := h1_1.size; have := h2_1.size; have := h3_6.size; omega, f1_0⟩
  first | omega | (simp only []; omega)
 refine WC.condN rfl (decide_eq_false c0) ?_
 refine WC.exit (E.thenX (E.thenX (E.blkH (E.thenN (WC.sr (W.run 1 rfl ?_))))))
 refine W.cl go120 rfl rfl ((by have h := rlow_ok (c := ((n + m) + 1)) wl0 f0_0.vec hob f0_0.cap.1 (by omega); rw [show val out = (a * b) from by have h9 := hov; rw [mod_top a (by omega)] at h9; exact h9] at h; exact h)) ?_
 rintro _ w14_1 ⟨Ad14_1, cd14_1, rfl, o14_1, h14_1⟩
 have L18 := Ll0.trans h14_1
 refine W.run 1 rfl (W.nx (WC.ret ?_))
 refine E.retG1 rfl rfl ?_
 exact ⟨_, _, rfl, (o14_1.mono Ll0.size), L18⟩

set_option maxHeartbeats 1000000 in
theorem rndivmod_ok {A A2 : Option Addr} {n c m c2 a b : Nat} (w : World) (hV : Vec w dv 1 A n (digs a)) (hW : Vec w dv 1 A2 m (digs b)) (hb0 : 0 < b) (hn : n ≤ 100000) (hm : m ≤ 90000) : Calls Tryz.prog 119 #[.slice A n c, .slice A2 m c2] w fun r w' => ∃ Aq cq Ar cr, r = .returned (.tuple #[.slice Aq (digs (a / b)).length cq, .slice Ar (digs (a % b)).length cr, .bool true]) ∧ OVec w' w.heap.size 122 dv 1 Aq (digs (a / b)).length cq (digs (a / b)) ∧ OVec w' w.heap.size 122 dv 1 Ar (digs (a % b)).length cr (digs (a % b)) ∧ Le w w' := by
 have hl := hV.1
 have hl2 := hW.1
 have hB : B = 4294967296 := rfl
 have hbl := digs_len_pos' hb0
 refine enter Tryz.func119 rfl rfl ?_
 have L0 := Le.refl w
 refine WC.sr (W.run 3 rfl (W.nx (WC.sr (W.run 1 rfl ?_))))
 refine W.cl go122 rfl rfl (rntaken_ok w (hV.le L0) (by omega)) ?_
 rintro _ w1_1 ⟨rfl, h1_1⟩
 have L1 := L0.trans h1_1
 refine W.run 1 rfl (W.nx (WC.sr (W.run 1 rfl ?_)))
 refine W.cl go122 rfl rfl (rntaken_ok w1_1 (hW.le L1) (by omega)) ?_
 rintro _ w2_1 ⟨rfl, h2_1⟩
 have L2 := L1.trans h2_1
 refine W.run 1 rfl (W.nx (WC.seq (WC.sr (W.run 1 rfl ?_))))
 refine W.r (.len Tryz.underlying31 rfl) ?_
 refine W.a (.dec (.eql rfl rfl) (decide_eq_false (by omega))) ?_
 refine W.nx (WC.condF rfl (WC.sn (WC.sr (W.run 1 rfl ?_))))
 refine W.r (.len Tryz.underlying31 rfl) ?_
 refine W.ef rfl rfl rfl ?_
 refine Ef.vmake 0 n Tryz.underlying31 el122 dv_row rfl rfl (rfl) rfl (rfl) (by omega) (by unfold maxLen; omega) ?_
 intro g5_2 w5_2 hg5_2 o5_2 h5_2
 have L3 := L2.trans h5_2
 refine W.run 1 rfl (W.nx (WC.sr (W.run 1 rfl (W.nx (WC.seq (WC.sr (W.run 1 rfl ?_)))))))
 refine W.r (.len Tryz.underlying31 rfl) ?_
 refine W.a (.mul rfl rfl (by omega)) ?_
 refine W.a (.sub rfl rfl (by omega)) ?_
 refine W.run 1 rfl (W.nx (WC.block ?_))
 refine WC.loop (ι := Nat × Nat × Nat × (List Nat) × ((Option Addr)) × Nat) (fun ⟨k, Q, r, q, Ar, cr⟩ => [(7, .slice A n c), (8, .slice A2 m c2), (9, .slice (some ⟨g5_2, 0, none⟩) n n), (10, .slice Ar ((digs r).length) cr), (11, .int .i64 (((k : Nat) : Int) - 1))]) (fun ⟨k, Q, r, q, Ar, cr⟩ wl0 => (k ≤ 32 * n) ∧ (q.length = n) ∧ (∀ d ∈ q, d < B) ∧ (val q = Q * 2 ^ k) ∧ (QR a b k Q r) ∧ (r < b) ∧ Le w wl0 ∧ w5_2.heap.size ≤ wl0.heap.size ∧ OVec wl0 w2_1.heap.size 122 dv 1 (some ⟨g5_2, 0, none⟩) n n q ∧ OVec wl0 w5_2.heap.size 122 dv 1 Ar ((digs r).length) cr (digs r)) (fun ⟨k, Q, r, q, Ar, cr⟩ => k) ((32 * n), 0, 0, (List.replicate n 0), none, 0) ?_ ?_ ?_
 ·exact .cons rfl (.cons rfl (.cons rfl (.cons' rfl (slice_eq (by rw [digs_zero]; rfl)) (.cons' rfl (int_eq (by omega)) (.nil _)))))
 ·exact ⟨Nat.le_refl _, List.length_replicate, rep_lt _, by rw [val_replicate, Nat.zero_mul], (show a / 2 ^ (32 * n) = b * 0 + 0 from by rw [← B_pow, div_top a (by omega), Nat.mul_zero]), hb0, L3, Nat.le_refl _, o5_2, ((OVec.nil w5_2 w5_2.heap.size 122 dv 1 none).cast (by rw [digs_zero]; rfl) digs_zero.symm)⟩
 rintro ⟨k, Q, r, q, Ar, cr⟩ wl0 ⟨hk, hql, hqb, hqv, hdm, hrb, Ll0, zl0, f0_0, f0_1⟩
 have lb0_3 : w2_1.heap.size ≤ wl0.heap.size := by have := h5_2.size; omega
 have lb0_4 : w5_2.heap.size ≤ wl0.heap.size := by omega
 refine WC.seq (WC.sr (W.run 2 rfl (W.nx ?_)))
 by_cases c1 : 0 ≤ (((k : Nat) : Int) - 1)
 ·refine WC.condY rfl (decide_eq_true c1) ?_
  have hrl := digs_len_mono (Nat.le_of_lt hrb)
  have hrl2 := digs_len_mono (show r + r ≤ b + b by omega)
  have hrl3 := digs_add_len b b
  have hrl4 := digs_add_len r r
  have hdq := rdiv_step (a := a) (b := b) (k := k - 1) (Q := Q) (r := r) (by rw [show k - 1 + 1 = k by omega]; exact hdm)
  have hbt : (a / 2 ^ (k - 1) % 2) ≤ 1 := by omega
  have hrl5 := digs_len_mono (show (r + r + (a / 2 ^ (k - 1) % 2)) ≤ b + b by omega)
  have hrl6 := digs_len_one (d := (a / 2 ^ (k - 1) % 2)) (by omega)
  have hdl := dig_lt a ((k - 1) / 32)
  have hdd := Nat.div_le_self ((digs a).getD ((k - 1) / 32) 0) (2 ^ ((k - 1) % 32))
  have hp32 := Nat.pow_lt_pow_right (a := 2) (by decide) (show ((k - 1) % 32) < 32 by omega)
  refine WC.sn (WC.seq (WC.block (WC.sr (W.run 1 rfl ?_))))
  refine W.a (.as (.move rfl) (int_eq (b := (((k - 1 : Nat)) : Int)) (by omega))) ?_
  refine W.a (.quo rfl rfl (by omega)) ?_
  refine W.a (.idxS (((k - 1) / 32)) Tryz.underlying31 sz122 rfl rfl (hV.isSome dv_row (by omega)) (by omega) (by omega)) ?_
  refine W.r (.vone (v := .int .u32 (((((digs a).getD ((k - 1) / 32) 0) : Nat) : Int))) na122 rfl (hV.le Ll0) dv_row (getS (digs a) 0 (by first | omega | (simp only [List.length_cons, List.length_nil]; omega))) rfl) ?_
  refine W.a (.as (.move rfl) (int_eq (b := (((k - 1 : Nat)) : Int)) (by omega))) ?_
  refine W.a (.rem rfl rfl (by omega)) ?_
  refine W.r (.as (.idI (isS Tryz.underlying3) Tryz.underlying134 rfl (IntWalk.u64_in _ (by omega))) (int_eq (b := ((((k - 1) % 32) : Nat) : Int)) (by omega))) ?_
  refine W.a (.shrE ((digs a).getD ((k - 1) / 32) 0) ((k - 1) % 32) ((digs a).getD ((k - 1) / 32) 0 / 2 ^ ((k - 1) % 32)) rfl rfl rfl rfl (by show ((k - 1) % 32) ≤ 32; omega) rfl) ?_
  refine W.a (.and32N ((digs a).getD ((k - 1) / 32) 0 / 2 ^ ((k - 1) % 32)) 1 (a / 2 ^ (k - 1) % 2) rfl rfl rfl rfl (by omega) (by decide) (by rw [mask1, bit_at])) ?_
  refine W.run 1 rfl (W.nx (WC.sr (W.run 2 rfl ?_)))
  refine W.cl go143 rfl rfl (rnadd_ok wl0 f0_1.vec f0_1.vec (by omega) (by omega)) ?_
  rintro _ w11_2 ⟨Ad11_2, cd11_2, rfl, o11_2, h11_2⟩
  have L4 := Ll0.trans h11_2
  refine W.run 1 rfl ?_
  refine W.r (.idI (isS Tryz.underlying122) Tryz.underlying57 rfl (IntWalk.u64_in _ (by omega))) ?_
  refine W.cl go93 rfl rfl (rnof_ok (a / 2 ^ (k - 1) % 2) (by omega) w11_2) ?_
  rintro _ w11_5 ⟨Ad11_5, cd11_5, rfl, o11_5, h11_5⟩
  have L5 := L4.trans h11_5
  have f6 := (o11_2.le h11_5)
  refine W.cl go143 rfl rfl (rnadd_ok w11_5 f6.vec o11_5.vec (by omega) (by omega)) ?_
  rintro _ w11_6 ⟨Ad11_6, cd11_6, rfl, o11_6, h11_6⟩
  have L7 := L5.trans h11_6
  refine W.run 1 rfl (W.nx (WC.sr (W.run 2 rfl ?_)))
  refine W.cl go112 rfl rfl (rncmp_ok w11_6 o11_6.vec (hW.le L7) (by omega) (by omega)) ?_
  rintro _ w12_2 ⟨rfl, h12_2⟩
  have L8 := L7.trans h12_2
  refine W.run 1 rfl (W.nx ?_)
  by_cases c2 : 0 ≤ (cmpN ((r + r) + (a / 2 ^ (k - 1) % 2)) b)
  ·refine WC.condY rfl (decide_eq_true c2) ?_
   have hge : b ≤ (r + r + (a / 2 ^ (k - 1) % 2)) := by have := cmpN_ge (a := (r + r + (a / 2 ^ (k - 1) % 2))) (b := b); omega
   have hqs := quo_set (q := q) (Q := Q) (i := k - 1) hqb (by rw [show k - 1 + 1 = k by omega]; exact hqv) (by omega)
   have hqd := getD_lt hqb ((k - 1) / 32)
   have hrl7 := digs_len_mono (Nat.sub_le (r + r + (a / 2 ^ (k - 1) % 2)) b)
   refine WC.sr (W.run 2 rfl ?_)
   have f9 := (o11_6.le h12_2)
   refine W.cl go144 rfl rfl (rnsub_ok w12_2 f9.vec (hW.le L8) (hge) (by omega) (by omega)) ?_
   rintro _ w13_2 ⟨Ad13_2, cd13_2, rfl, o13_2, h13_2⟩
   have L10 := L8.trans h13_2
   refine W.run 5 rfl (W.nx (WC.sr (W.run 2 rfl (W.nx (WC.region (W.run 1 rfl ?_))))))
   refine W.a (.as (.move rfl) (int_eq (b := (((k - 1 : Nat)) : Int)) (by omega))) ?_
   refine W.a (.quo rfl rfl (by omega)) ?_
   refine W.run 1 rfl ?_
   refine W.a (.as (.move rfl) (int_eq (b := (((k - 1 : Nat)) : Int)) (by omega))) ?_
   refine W.a (.quo rfl rfl (by omega)) ?_
   refine W.a (.idxS (((k - 1) / 32)) Tryz.underlying31 sz122 rfl rfl (o5_2.vec.isSome dv_row (by omega)) (by omega) (by omega)) ?_
   have f11 := (f0_0.le (h11_2.trans (h11_5.trans (h11_6.trans (h12_2.trans h13_2)))))
   refine W.r (.vone (v := .int .u32 ((((q.getD ((k - 1) / 32) 0) : Nat) : Int))) na122 rfl f11.vec dv_row (getS q 0 (by omega)) rfl) ?_
   refine W.a (.as (.move rfl) (int_eq (b := (((k - 1 : Nat)) : Int)) (by omega))) ?_
   refine W.a (.rem rfl rfl (by omega)) ?_
   refine W.r (.as (.idI (isS Tryz.underlying3) Tryz.underlying134 rfl (IntWalk.u64_in _ (by omega))) (int_eq (b := ((((k - 1) % 32) : Nat) : Int)) (by omega))) ?_
   refine W.a (.bit32 ((k - 1) % 32) (2 ^ ((k - 1) % 32)) rfl rfl rfl (by omega) rfl) ?_
   refine W.a (.or32N (q.getD ((k - 1) / 32) 0) (2 ^ ((k - 1) % 32)) ((q.getD ((k - 1) / 32) 0) + 2 ^ ((k - 1) % 32)) rfl rfl rfl rfl (by omega) (by omega) (or_bit (Nat.dvd_of_mod_eq_zero hqs.1))) ?_
   refine W.a (.idxS (((k - 1) / 32)) Tryz.underlying31 sz122 rfl rfl (o5_2.vec.isSome dv_row (by omega)) (by omega) (by omega)) ?_
   refine W.ef0 rfl rfl ?_
   refine Ef.vset (j := ((k - 1) / 32)) (o := 0) ((q.getD ((k - 1) / 32) 0) + 2 ^ ((k - 1) % 32)) sz122 rfl (by omega) rfl f11 dv_row (getS q 0 (by omega)) (by decide) rfl rfl ?_
   intro w15_14 o15_14 h15_14
   have L12 := L10.then_ h15_14 (fun q hq => Nat.le_trans L2.size (f11.row hq).1)
   refine W.nil (E.blkN (E.thenN (WC.region (W.run 1 rfl ?_))))
   refine W.a (.sub rfl rfl (by omega)) ?_
   refine W.run 1 rfl (W.nil ?_)
   have f13 := (o13_2.ch h15_14 ((fun q h1 h2 => by have := (f0_0.row h1).2; have := (o13_2.row h2).1; have := h11_2.size; have := h11_5.size; have := h11_6.size; have := h12_2.size; omega)))
   refine E.again ((k - 1), (2 * Q + 1), ((r + r + (a / 2 ^ (k - 1) % 2)) - b), (q.set ((k - 1) / 32) ((q.getD ((k - 1) / 32) 0) + 2 ^ ((k - 1) % 32))), Ad13_2, cd13_2) (.cons rfl (.cons rfl (.cons rfl (.cons rfl (.cons' rfl (int_eq (by omega)) (.nil _)))))) ?_ ?_
   ·exact ⟨by omega, by rw [List.length_set]; exact hql, set_lt hqb hqs.2.1, hqs.2.2, (rdiv_more hdq (by omega)), by omega, L12, by have := zl0; have := h11_2.size; have := h11_5.size; have := h11_6.size; have := h12_2.size; have := h13_2.size; have := h15_14.size; omega, o15_14, (f13.mono (by have := h11_2.size; have := h11_5.size; have := h11_6.size; have := h12_2.size; omega))⟩
   show k - 1 < k; omega
  refine WC.condN rfl (decide_eq_false c2) ?_
  have hlt : (r + r + (a / 2 ^ (k - 1) % 2)) < b := by have := cmpN_ge (a := (r + r + (a / 2 ^ (k - 1) % 2))) (b := b); omega
  refine WC.skip (E.blkN (E.thenN (WC.region (W.run 1 rfl ?_))))
  refine W.a (.sub rfl rfl (by omega)) ?_
  refine W.run 1 rfl (W.nil ?_)
  have f14 := (f0_0.le (h11_2.trans (h11_5.trans (h11_6.trans h12_2))))
  have f15 := (o11_6.le h12_2)
  refine E.again ((k - 1), (2 * Q), (r + r + (a / 2 ^ (k - 1) % 2)), q, Ad11_6, cd11_6) (.cons rfl (.cons rfl (.cons rfl (.cons rfl (.cons' rfl (int_eq (by omega)) (.nil _)))))) ?_ ?_
  ·exact ⟨by omega, hql, hqb, (rdiv_low hqv (by omega)), hdq, by omega, L8, by have := zl0; have := h11_2.size; have := h11_5.size; have := h11_6.size; have := h12_2.size; omega, f14, (f15.mono (by have := h11_2.size; have := h11_5.size; omega))⟩
  show k - 1 < k; omega
 refine WC.condN rfl (decide_eq_false c1) ?_
 have hrl := digs_len_mono (Nat.le_of_lt hrb)
 refine WC.exit (E.thenX (E.thenX (E.blkH (E.thenN (WC.sr (W.run 1 rfl ?_))))))
 refine W.cl go120 rfl rfl ((by have h := rlow_ok (c := n) wl0 f0_0.vec hqb f0_0.cap.1 (by omega); rw [show val q = (a / b) from (rdiv_end hdm hqv hrb (by omega)).1] at h; exact h)) ?_
 rintro _ w16_1 ⟨Ad16_1, cd16_1, rfl, o16_1, h16_1⟩
 have L16 := Ll0.trans h16_1
 refine W.run 1 rfl ?_
 have f17 := (f0_1.le h16_1)
 refine W.cl go120 rfl rfl ((by have h := rlow_ok (c := cr) w16_1 f17.vec (digs_lt r) f17.cap.1 (by omega); rw [show val (digs r) = (a % b) from (rdiv_end hdm hqv hrb (by omega)).2] at h; exact h)) ?_
 rintro _ w16_3 ⟨Ad16_3, cd16_3, rfl, o16_3, h16_3⟩
 have L18 := L16.trans h16_3
 refine W.run 3 rfl (W.nx (WC.ret ?_))
 have f19 := (o16_1.le h16_3)
 refine E.retG3 rfl rfl rfl rfl ?_
 exact ⟨_, _, _, _, rfl, (f19.mono Ll0.size), (o16_3.mono L16.size), L18⟩

theorem rngcd_ok {A A2 : Option Addr} {n c m c2 a b : Nat} (w : World) (hV : Vec w dv 1 A n (digs a)) (hW : Vec w dv 1 A2 m (digs b)) (hnc : n ≤ c) (hmc : m ≤ c2) (hn : n ≤ 90000) (hm : m ≤ 90000) : Calls Tryz.prog 118 #[.slice A n c, .slice A2 m c2] w fun r w' => ∃ A c, r = .returned (.slice A (digs (Nat.gcd a b)).length c) ∧ OVec w' w.heap.size 122 dv 1 A (digs (Nat.gcd a b)).length c (digs (Nat.gcd a b)) ∧ Le w w' := by
 have hl := hV.1
 have hl2 := hW.1
 have hB : B = 4294967296 := rfl
 refine enter Tryz.func118 rfl rfl ?_
 have L0 := Le.refl w
 refine WC.sr (W.run 1 rfl (W.nx (WC.sr (W.run 1 rfl ?_))))
 refine W.cl go122 rfl rfl (rntaken_ok w (hV.le L0) (by omega)) ?_
 rintro _ w1_1 ⟨rfl, h1_1⟩
 have L1 := L0.trans h1_1
 refine W.run 1 rfl (W.nx (WC.sr (W.run 1 rfl ?_)))
 refine W.cl go122 rfl rfl (rntaken_ok w1_1 (hW.le L1) (by omega)) ?_
 rintro _ w2_1 ⟨rfl, h2_1⟩
 have L2 := L1.trans h2_1
 refine W.run 1 rfl (W.nx (WC.seq (WC.block ?_)))
 refine WC.loop (ι := Nat × Nat × ((Option Addr)) × Nat × Nat × ((Option Addr)) × Nat × Nat) (fun ⟨u, v, Au, nu, cu, Av, nv, cv⟩ => [(5, .slice Au nu cu), (6, .slice Av nv cv)]) (fun ⟨u, v, Au, nu, cu, Av, nv, cv⟩ wl0 => (Nat.gcd u v = Nat.gcd a b) ∧ (nu ≤ 90000 ∧ nv ≤ 90000) ∧ ((digs u).length = nu ∧ (digs v).length = nv) ∧ (nu ≤ cu ∧ nv ≤ cv) ∧ Le w wl0 ∧ w2_1.heap.size ≤ wl0.heap.size ∧ Vec wl0 dv 1 Au nu (digs u) ∧ Vec wl0 dv 1 Av nv (digs v)) (fun ⟨u, v, Au, nu, cu, Av, nv, cv⟩ => v) (a, b, A, n, c, A2, m, c2) ?_ ?_ ?_
 ·exact .cons rfl (.cons rfl (.nil _))
 ·exact ⟨rfl, ⟨by omega, by omega⟩, ⟨hl, hl2⟩, ⟨hnc, hmc⟩, L2, Nat.le_refl _, (hV.le L2), (hW.le L2)⟩
 rintro ⟨u, v, Au, nu, cu, Av, nv, cv⟩ wl0 ⟨hg, hnn, hll, hcc, Ll0, zl0, vq0_0, vq0_1⟩
 refine WC.seq (WC.sr (W.run 1 rfl ?_))
 refine W.r (.len Tryz.underlying31 rfl) ?_
 refine W.run 1 rfl (W.nx ?_)
 by_cases c0 : 0 < ((nv : Nat) : Int)
 ·refine WC.condY rfl (decide_eq_true c0) ?_
  have hv0 : 0 < v := Nat.pos_of_ne_zero (fun e => by rw [e, digs_zero] at hll; have := hll.2; simp at this; omega)
  have hml := digs_len_mono (Nat.le_of_lt (Nat.mod_lt u hv0))
  refine WC.sn (WC.block (WC.sr (W.run 2 rfl ?_)))
  refine W.cl go119 rfl rfl (rndivmod_ok wl0 vq0_0 vq0_1 (by omega) (by omega) (by omega)) ?_
  rintro _ w4_2 ⟨Aq4_2, cq4_2, Ar4_2, cr4_2, rfl, oq4_2, or4_2, h4_2⟩
  have L3 := Ll0.trans h4_2
  refine W.run 7 rfl (W.nx (WC.sr (W.run 2 rfl (W.nx (WC.region (W.run 2 rfl (W.nil (E.blkN ?_))))))))
  have f4 := (vq0_1.le h4_2)
  refine E.again (v, (u % v), Av, nv, cv, Ar4_2, ((digs (u % v)).length), cr4_2) (.cons rfl (.cons rfl (.nil _))) ?_ ?_
  ·exact ⟨by rw [← hg, Nat.gcd_comm v, ← Nat.gcd_rec, Nat.gcd_comm], ⟨by omega, by omega⟩, ⟨hll.2, rfl⟩, ⟨hcc.2, or4_2.cap.1⟩, L3, by have := zl0; have := h4_2.size; omega, f4, or4_2.vec⟩
  exact Nat.mod_lt _ hv0
 refine WC.condN rfl (decide_eq_false c0) ?_
 have hv0 : v = 0 := Classical.byContradiction (fun e => by have := hll.2; rw [digs_pos e] at this; simp at this; omega)
 have hgu : u = Nat.gcd a b := by rw [← hg, hv0, Nat.gcd_zero_right]
 refine WC.exit (E.thenX (E.thenX (E.blkH (E.thenN (WC.sr (W.run 1 rfl ?_))))))
 refine W.cl go120 rfl rfl ((by have h := rlow_ok (c := cu) wl0 vq0_0 (digs_lt u) (by omega) (by omega); rw [show val (digs u) = (Nat.gcd a b) from by rw [val_digs, hgu]] at h; exact h)) ?_
 rintro _ w7_1 ⟨Ad7_1, cd7_1, rfl, o7_1, h7_1⟩
 have L5 := Ll0.trans h7_1
 refine W.run 1 rfl (W.nx (WC.ret ?_))
 refine E.retG1 rfl rfl ?_
 exact ⟨_, _, rfl, (o7_1.mono Ll0.size), L5⟩
end Go.Proofs.YtmkdeemjkcigkaaGreatDoor

namespace Go.Proofs.YtmkdeemjkcigkaaGreatDoor
open Go Go.Sx Go.Nsp
set_option maxRecDepth 20000
theorem rfone_ok (w : World) : Calls Tryz.prog 117 #[] w fun r w' => ∃ A c, r = .returned (.slice A (digs 1).length c) ∧ OVec w' w.heap.size 122 dv 1 A (digs 1).length c (digs 1) ∧ Le w w' := by
 refine enter Tryz.func117 rfl rfl ?_
 have L0 := Le.refl w
 refine WC.sr (W.run 1 rfl (W.nx (WC.sr ?_)))
 refine W.cl go93 rfl rfl (rnof_ok 1 (by omega) w) ?_
 rintro _ w1_0 ⟨Ad1_0, cd1_0, rfl, o1_0, h1_0⟩
 have L1 := L0.trans h1_0
 refine W.run 1 rfl (W.nx (WC.ret ?_))
 refine E.retG1 rfl rfl ?_
 exact ⟨_, _, rfl, (o1_0.mono L0.size), L1⟩

theorem rfzero_ok (w : World) : Calls Tryz.prog 91 #[] w fun r w' => ∃ A1 c1 A2 c2, r = .returned (.agg #[.slice A1 (digs 0).length c1, .slice A2 (digs 1).length c2]) ∧ OVec w' w.heap.size 122 dv 1 A1 (digs 0).length c1 (digs 0) ∧ OVec w' w.heap.size 122 dv 1 A2 (digs 1).length c2 (digs 1) ∧ Le w w' := by
 refine enter Tryz.func91 rfl rfl ?_
 have L0 := Le.refl w
 refine WC.sr (W.ef rfl rfl rfl ?_)
 refine Ef.allocA z33 ?_
 intro g0_0 w0_0 hg0_0 b0_0 h0_0
 have L1 := L0.trans h0_0
 have b0_0 : Blk w0_0 g0_0 33 #[.slice none 0 0, .slice none 0 0] := b0_0
 refine W.nx (WC.sr ?_)
 refine W.cl go93 rfl rfl (rnof_ok 0 (by omega) w0_0) ?_
 rintro _ w1_0 ⟨Ad1_0, cd1_0, rfl, o1_0, h1_0⟩
 have L2 := L1.trans h1_0
 refine W.cl go117 rfl rfl (rfone_ok w1_0) ?_
 rintro _ w1_1 ⟨Ad1_1, cd1_1, rfl, o1_1, h1_1⟩
 have L3 := L2.trans h1_1
 refine W.a (.buildP [.slice Ad1_0 ((digs 0).length) cd1_0, .slice Ad1_1 ((digs 1).length) cd1_1] pl33 z33 rfl rfl) ?_
 have f4 := (b0_0.le (h1_0.trans h1_1))
 refine W.ef0 rfl rfl ?_
 refine Ef.storeAll sz33 (by rfl) rfl rfl f4 (by rfl) (by simp [Value.oneCell']) ?_
 intro w1_3 b1_3 h1_3
 have b1_3 : Blk w1_3 g0_0 33 #[.slice Ad1_0 ((digs 0).length) cd1_0, .slice Ad1_1 ((digs 1).length) cd1_1] := b1_3
 have L5 := L3.then_ h1_3 (fun q hq => by cases hq; exact Nat.le_trans L0.size hg0_0)
 refine W.nx (WC.ret ?_)
 have f6 := ((o1_0.le h1_1).ch h1_3 (fun q hq => by cases hq; exact (fun he => by have := (o1_0.row he).1; have := b0_0.lt; omega)))
 have f7 := (o1_1.ch h1_3 (fun q hq => by cases hq; exact (fun he => by have := (o1_1.row he).1; have := b0_0.lt; have := h1_0.size; omega)))
 refine E.retG1 rfl (resA rfl b1_3 ag33 (by rfl)) ?_
 exact ⟨_, _, _, _, rfl, (f6.mono L1.size), (f7.mono L2.size), L5⟩

theorem rfright_ok {An Ad : Option Addr} {nn cn nd cd p q : Nat} (w : World) (hn : Vec w dv 1 An nn (digs p)) (hd : Vec w dv 1 Ad nd (digs q)) (bn : nn ≤ 10000) (bd : nd ≤ 10000) (kn : nn ≤ cn) (kd : nd ≤ cd) : Calls Tryz.prog 121 #[.agg #[.slice An nn cn, .slice Ad nd cd]] w fun r w' => r = .returned (.bool (okB p q)) ∧ Le w w' := by
 have hln := hn.1; have hld := hd.1
 have h1l := digs_len_one (d := 1) (by decide)
 refine enter Tryz.func121 rfl rfl ?_
 have L0 := Le.refl w
 refine WC.sr (W.ef rfl rfl rfl ?_)
 refine Ef.boxA rfl ?_
 intro g0_0 w0_0 hg0_0 b0_0 h0_0
 have L1 := L0.trans h0_0
 have b0_0 : Blk w0_0 g0_0 33 #[.slice An nn cn, .slice Ad nd cd] := b0_0
 refine W.run 1 rfl (W.nx (WC.sr ?_))
 refine W.a (.field0 fa33_0 rfl) ?_
 refine W.r (.loadB (v := .slice An nn cn) na31 rfl b0_0 rfl) ?_
 refine W.cl go145 rfl rfl (rnright_ok w0_0 (hn.le L1) (by omega)) ?_
 rintro _ w1_2 ⟨rfl, h1_2⟩
 have L2 := L1.trans h1_2
 refine W.run 1 rfl (W.nx (WC.sr ?_))
 refine W.a (.field0 fa33_1 rfl) ?_
 have f3 := (b0_0.le h1_2)
 refine W.r (.loadB (v := .slice Ad nd cd) na31 rfl f3 rfl) ?_
 refine W.cl go145 rfl rfl (rnright_ok w1_2 (hd.le L2) (by omega)) ?_
 rintro _ w2_2 ⟨rfl, h2_2⟩
 have L4 := L2.trans h2_2
 refine W.run 1 rfl (W.nx (WC.seq (WC.sr (W.run 7 rfl ?_))))
 refine W.g (Any.rd (.field0 fa33_1 rfl) _) ?_
 have f5 := (f3.le h2_2)
 refine W.g (.loadB (v := .slice Ad nd cd) na31 rfl f5 rfl) ?_
 refine W.g (.len Tryz.underlying31 rfl) ?_
 refine W.run 2 rfl (W.nx ?_)
 by_cases c0 : ((nd : Nat) : Int) = 0
 ·refine WC.condY rfl (decide_eq_true c0) ?_
  have hq0 : ¬ 0 < q := fun h => by have := digs_len_pos h; omega
  refine WC.sr (W.run 1 rfl (W.nx (WC.ret (E.thenR ?_))))
  refine E.retG1 rfl rfl ?_
  exact ⟨rB (by unfold okB; exact (decide_eq_false (fun h => hq0 h.1)).symm), L4⟩
 refine WC.condN rfl (decide_eq_false c0) ?_
 have hq0 : 0 < q := digs_pos_of (by omega)
 have hgl := gcd_len (n := p) hq0
 refine WC.sn (WC.sr ?_)
 refine W.a (.field0 fa33_0 rfl) ?_
 refine W.r (.loadB (v := .slice An nn cn) na31 rfl f5 rfl) ?_
 refine W.a (.field0 fa33_1 rfl) ?_
 refine W.r (.loadB (v := .slice Ad nd cd) na31 rfl f5 rfl) ?_
 refine W.cl go118 rfl rfl (rngcd_ok w2_2 (hn.le L4) (hd.le L4) (by omega) (by omega) (by omega) (by omega)) ?_
 rintro _ w5_4 ⟨Ad5_4, cd5_4, rfl, o5_4, h5_4⟩
 have L6 := L4.trans h5_4
 refine W.cl go117 rfl rfl (rfone_ok w5_4) ?_
 rintro _ w5_5 ⟨Ad5_5, cd5_5, rfl, o5_5, h5_5⟩
 have L7 := L6.trans h5_5
 have f8 := (o5_4.le h5_5)
 refine W.cl go112 rfl rfl (rncmp_ok w5_5 f8.vec o5_5.vec (by omega) (by omega)) ?_
 rintro _ w5_6 ⟨rfl, h5_6⟩
 have L9 := L7.trans h5_6
 refine W.run 2 rfl (W.nx (WC.ret ?_))
 refine E.retG1 rfl rfl ?_
 exact ⟨rB (by unfold okB; exact decide_eq_decide.2 ⟨fun h => ⟨hq0, cmpN_eq.1 h⟩, fun h => cmpN_eq.2 h.2⟩), L9⟩

theorem rftaken_yes {An Ad : Option Addr} {nn cn nd cd p q : Nat} (w : World) (hn : Vec w dv 1 An nn (digs p)) (hd : Vec w dv 1 Ad nd (digs q)) (bn : nn ≤ 10000) (bd : nd ≤ 10000) (kn : nn ≤ cn) (kd : nd ≤ cd) (hok : okB p q = true) : Calls Tryz.prog 94 #[.agg #[.slice An nn cn, .slice Ad nd cd]] w fun r w' => r = .returned (.agg #[.slice An nn cn, .slice Ad nd cd]) ∧ Le w w' := by
 have hln := hn.1; have hld := hd.1
 refine enter Tryz.func94 rfl rfl ?_
 have L0 := Le.refl w
 refine WC.sr (W.ef rfl rfl rfl ?_)
 refine Ef.boxA rfl ?_
 intro g0_0 w0_0 hg0_0 b0_0 h0_0
 have L1 := L0.trans h0_0
 have b0_0 : Blk w0_0 g0_0 33 #[.slice An nn cn, .slice Ad nd cd] := b0_0
 refine W.ef rfl rfl rfl ?_
 refine Ef.allocA z33 ?_
 intro g0_1 w0_1 hg0_1 b0_1 h0_1
 have L2 := L1.trans h0_1
 have b0_1 : Blk w0_1 g0_1 33 #[.slice none 0 0, .slice none 0 0] := b0_1
 refine W.nx (WC.sr ?_)
 have f3 := (b0_0.le h0_1)
 refine W.r (.loadAll ag33 (by rfl) rfl f3) ?_
 refine W.cl go121 rfl rfl (rfright_ok w0_1 (hn.le L2) (hd.le L2) (by omega) (by omega) (by omega) (by omega)) ?_
 rintro _ w1_1 ⟨rfl, h1_1⟩
 have L4 := L2.trans h1_1
 refine W.run 1 rfl (W.nx (WC.seq (WC.sr (W.run 1 rfl (W.nx ?_)))))
 refine WC.condY rfl (hok) ?_
 refine WC.sr ?_
 have f5 := (f3.le h1_1)
 refine W.r (.loadAll ag33 (by rfl) rfl f5) ?_
 have f6 := (b0_1.le h1_1)
 refine W.ef0 rfl rfl ?_
 refine Ef.storeAll sz33 (by rfl) rfl rfl f6 (by rfl) (by simp [Value.oneCell']) ?_
 intro w3_1 b3_1 h3_1
 have b3_1 : Blk w3_1 g0_1 33 #[.slice An nn cn, .slice Ad nd cd] := b3_1
 have L7 := L4.then_ h3_1 (fun q hq => by cases hq; exact Nat.le_trans L1.size hg0_1)
 refine W.nx (WC.ret (E.thenR ?_))
 refine E.retG1 rfl (resA rfl b3_1 ag33 (by rfl)) ?_
 exact ⟨rfl, L7⟩

theorem rftaken_no {An Ad : Option Addr} {nn cn nd cd p q : Nat} (w : World) (hn : Vec w dv 1 An nn (digs p)) (hd : Vec w dv 1 Ad nd (digs q)) (bn : nn ≤ 10000) (bd : nd ≤ 10000) (kn : nn ≤ cn) (kd : nd ≤ cd) (hok : ¬ okB p q = true) : Calls Tryz.prog 94 #[.agg #[.slice An nn cn, .slice Ad nd cd]] w fun r w' => ∃ A1 c1 A2 c2, r = .returned (.agg #[.slice A1 (digs 0).length c1, .slice A2 (digs 1).length c2]) ∧ OVec w' w.heap.size 122 dv 1 A1 (digs 0).length c1 (digs 0) ∧ OVec w' w.heap.size 122 dv 1 A2 (digs 1).length c2 (digs 1) ∧ Le w w' := by
 have hln := hn.1; have hld := hd.1
 refine enter Tryz.func94 rfl rfl ?_
 have L0 := Le.refl w
 refine WC.sr (W.ef rfl rfl rfl ?_)
 refine Ef.boxA rfl ?_
 intro g0_0 w0_0 hg0_0 b0_0 h0_0
 have L1 := L0.trans h0_0
 have b0_0 : Blk w0_0 g0_0 33 #[.slice An nn cn, .slice Ad nd cd] := b0_0
 refine W.ef rfl rfl rfl ?_
 refine Ef.allocA z33 ?_
 intro g0_1 w0_1 hg0_1 b0_1 h0_1
 have L2 := L1.trans h0_1
 have b0_1 : Blk w0_1 g0_1 33 #[.slice none 0 0, .slice none 0 0] := b0_1
 refine W.nx (WC.sr ?_)
 have f3 := (b0_0.le h0_1)
 refine W.r (.loadAll ag33 (by rfl) rfl f3) ?_
 refine W.cl go121 rfl rfl (rfright_ok w0_1 (hn.le L2) (hd.le L2) (by omega) (by omega) (by omega) (by omega)) ?_
 rintro _ w1_1 ⟨rfl, h1_1⟩
 have L4 := L2.trans h1_1
 refine W.run 1 rfl (W.nx (WC.seq (WC.sr (W.run 1 rfl (W.nx ?_)))))
 refine WC.condN rfl ((Bool.eq_false_iff.2 hok)) ?_
 refine WC.sn (WC.sr ?_)
 refine W.cl go91 rfl rfl (rfzero_ok w1_1) ?_
 rintro _ w4_0 ⟨An4_0, cn4_0, Ad4_0, cd4_0, rfl, on4_0, od4_0, h4_0⟩
 have L5 := L4.trans h4_0
 have f6 := (b0_1.le (h1_1.trans h4_0))
 refine W.ef0 rfl rfl ?_
 refine Ef.storeAll sz33 (by rfl) rfl rfl f6 (by rfl) (by simp [Value.oneCell']) ?_
 intro w4_1 b4_1 h4_1
 have b4_1 : Blk w4_1 g0_1 33 #[.slice An4_0 ((digs 0).length) cn4_0, .slice Ad4_0 ((digs 1).length) cd4_0] := b4_1
 have L7 := L5.then_ h4_1 (fun q hq => by cases hq; exact Nat.le_trans L1.size hg0_1)
 refine W.nx (WC.ret ?_)
 have f8 := (on4_0.ch h4_1 (fun q hq => by cases hq; exact (fun he => by have := (on4_0.row he).1; have := b0_1.lt; have := h1_1.size; omega)))
 have f9 := (od4_0.ch h4_1 (fun q hq => by cases hq; exact (fun he => by have := (od4_0.row he).1; have := b0_1.lt; have := h1_1.size; omega)))
 refine E.retG1 rfl (resA rfl b4_1 ag33 (by rfl)) ?_
 exact ⟨_, _, _, _, rfl, (f8.mono L4.size), (f9.mono L4.size), L7⟩

theorem rflow_ok {A A2 : Option Addr} {n c m c2 a b : Nat} (w : World) (hV : Vec w dv 1 A n (digs a)) (hW : Vec w dv 1 A2 m (digs b)) (hnc : n ≤ c) (hmc : m ≤ c2) (hb : 0 < b) (hn : n ≤ 90000) (hm : m ≤ 90000) : Calls Tryz.prog 92 #[.slice A n c, .slice A2 m c2] w fun r w' => ∃ A1 c1 A2 c2, r = .returned (.agg #[.slice A1 (digs (lowF a b).n).length c1, .slice A2 (digs (lowF a b).d).length c2]) ∧ OVec w' w.heap.size 122 dv 1 A1 (digs (lowF a b).n).length c1 (digs (lowF a b).n) ∧ OVec w' w.heap.size 122 dv 1 A2 (digs (lowF a b).d).length c2 (digs (lowF a b).d) ∧ Le w w' := by
 have hl := hV.1; have hl2 := hW.1
 have hg0 : 0 < Nat.gcd a b := gcd_pos hb
 have hgl := gcd_len (n := a) hb
 refine enter Tryz.func92 rfl rfl ?_
 have L0 := Le.refl w
 refine WC.sr (W.ef rfl rfl rfl ?_)
 refine Ef.allocA z33 ?_
 intro g0_0 w0_0 hg0_0 b0_0 h0_0
 have L1 := L0.trans h0_0
 have b0_0 : Blk w0_0 g0_0 33 #[.slice none 0 0, .slice none 0 0] := b0_0
 refine W.nx (WC.sr (W.run 2 rfl ?_))
 refine W.cl go118 rfl rfl (rngcd_ok w0_0 (hV.le L1) (hW.le L1) (by omega) (by omega) (by omega) (by omega)) ?_
 rintro _ w1_2 ⟨Ad1_2, cd1_2, rfl, o1_2, h1_2⟩
 have L2 := L1.trans h1_2
 refine W.run 1 rfl (W.nx (WC.sr (W.run 2 rfl ?_)))
 refine W.cl go119 rfl rfl (rndivmod_ok w1_2 (hV.le L2) o1_2.vec (by omega) (by omega) (by omega)) ?_
 rintro _ w2_2 ⟨Aq2_2, cq2_2, Ar2_2, cr2_2, rfl, oq2_2, or2_2, h2_2⟩
 have L3 := L2.trans h2_2
 refine W.run 7 rfl (W.nx (WC.sr (W.run 2 rfl ?_)))
 have f4 := (o1_2.le h2_2)
 refine W.cl go119 rfl rfl (rndivmod_ok w2_2 (hW.le L3) f4.vec (by omega) (by omega) (by omega)) ?_
 rintro _ w3_2 ⟨Aq3_2, cq3_2, Ar3_2, cr3_2, rfl, oq3_2, or3_2, h3_2⟩
 have L5 := L3.trans h3_2
 refine W.run 7 rfl (W.nx (WC.sr (W.run 2 rfl ?_)))
 refine W.a (.buildP [.slice Aq2_2 ((digs (a / (Nat.gcd a b))).length) cq2_2, .slice Aq3_2 ((digs (b / (Nat.gcd a b))).length) cq3_2] pl33 z33 rfl rfl) ?_
 have f6 := (b0_0.le (h1_2.trans (h2_2.trans h3_2)))
 refine W.ef0 rfl rfl ?_
 refine Ef.storeAll sz33 (by rfl) rfl rfl f6 (by rfl) (by simp [Value.oneCell']) ?_
 intro w4_3 b4_3 h4_3
 have b4_3 : Blk w4_3 g0_0 33 #[.slice Aq2_2 ((digs (a / (Nat.gcd a b))).length) cq2_2, .slice Aq3_2 ((digs (b / (Nat.gcd a b))).length) cq3_2] := b4_3
 have L7 := L5.then_ h4_3 (fun q hq => by cases hq; exact Nat.le_trans L0.size hg0_0)
 refine W.nx (WC.ret ?_)
 have f8 := ((oq2_2.le h3_2).ch h4_3 (fun q hq => by cases hq; exact (fun he => by have := (oq2_2.row he).1; have := b0_0.lt; have := h1_2.size; omega)))
 have f9 := (oq3_2.ch h4_3 (fun q hq => by cases hq; exact (fun he => by have := (oq3_2.row he).1; have := b0_0.lt; have := h1_2.size; have := h2_2.size; omega)))
 refine E.retG1 rfl (resA rfl b4_3 ag33 (by rfl)) ?_
 exact ⟨_, _, _, _, rfl, (f8.mono L2.size), (f9.mono L3.size), L7⟩

theorem rfof_ok (a b : Nat) (w : World) (hb : 0 < b) (ha : a < 18446744073709551616) (hb2 : b < 18446744073709551616) : Calls Tryz.prog 48 #[.int .u64 (((a : Nat) : Int)), .int .u64 (((b : Nat) : Int))] w fun r w' => ∃ A1 c1 A2 c2, r = .returned (.tuple #[.agg #[.slice A1 (digs (lowF a b).n).length c1, .slice A2 (digs (lowF a b).d).length c2], .bool true]) ∧ OVec w' w.heap.size 122 dv 1 A1 (digs (lowF a b).n).length c1 (digs (lowF a b).n) ∧ OVec w' w.heap.size 122 dv 1 A2 (digs (lowF a b).d).length c2 (digs (lowF a b).d) ∧ Le w w' := by
 have hla := digs_len_pow 2 (a := a) ha; have hlb := digs_len_pow 2 (a := b) hb2
 refine enter Tryz.func48 rfl rfl ?_
 have L0 := Le.refl w
 refine WC.sr (W.ef rfl rfl rfl ?_)
 refine Ef.allocA z33 ?_
 intro g0_0 w0_0 hg0_0 b0_0 h0_0
 have L1 := L0.trans h0_0
 have b0_0 : Blk w0_0 g0_0 33 #[.slice none 0 0, .slice none 0 0] := b0_0
 refine W.run 1 rfl (W.nx (WC.seq (WC.sr (W.run 1 rfl ?_))))
 refine W.a (.dec (.eql rfl rfl) (decide_eq_false (by omega))) ?_
 refine W.nx (WC.condF rfl (WC.sn (WC.sr (W.run 1 rfl ?_))))
 refine W.cl go93 rfl rfl (rnof_ok a (by omega) w0_0) ?_
 rintro _ w3_1 ⟨Ad3_1, cd3_1, rfl, o3_1, h3_1⟩
 have L2 := L1.trans h3_1
 refine W.run 1 rfl ?_
 refine W.cl go93 rfl rfl (rnof_ok b (by omega) w3_1) ?_
 rintro _ w3_3 ⟨Ad3_3, cd3_3, rfl, o3_3, h3_3⟩
 have L3 := L2.trans h3_3
 have f4 := (o3_1.le h3_3)
 refine W.cl go92 rfl rfl (rflow_ok w3_3 f4.vec o3_3.vec f4.cap.1 o3_3.cap.1 (by assumption) (by omega) (by omega)) ?_
 rintro _ w3_4 ⟨An3_4, cn3_4, Ad3_4, cd3_4, rfl, on3_4, od3_4, h3_4⟩
 have L5 := L3.trans h3_4
 have f6 := (b0_0.le (h3_1.trans (h3_3.trans h3_4)))
 refine W.ef0 rfl rfl ?_
 refine Ef.storeAll sz33 (by rfl) rfl rfl f6 (by rfl) (by simp [Value.oneCell']) ?_
 intro w3_5 b3_5 h3_5
 have b3_5 : Blk w3_5 g0_0 33 #[.slice An3_4 ((digs ((lowF a b).n)).length) cn3_4, .slice Ad3_4 ((digs ((lowF a b).d)).length) cd3_4] := b3_5
 have L7 := L5.then_ h3_5 (fun q hq => by cases hq; exact Nat.le_trans L0.size hg0_0)
 refine W.run 1 rfl (W.nx (WC.ret ?_))
 have f8 := (on3_4.ch h3_5 (fun q hq => by cases hq; exact (fun he => by have := (on3_4.row he).1; have := b0_0.lt; have := h3_1.size; have := h3_3.size; omega)))
 have f9 := (od3_4.ch h3_5 (fun q hq => by cases hq; exact (fun he => by have := (od3_4.row he).1; have := b0_0.lt; have := h3_1.size; have := h3_3.size; omega)))
 refine E.retG2 rfl (resA rfl b3_5 ag33 (by rfl)) rfl ?_
 exact ⟨_, _, _, _, rfl, (f8.mono L3.size), (f9.mono L3.size), L7⟩

theorem rfcmp_ok {An1 Ad1 : Option Addr} {nn1 cn1 nd1 cd1 p1 q1 : Nat} {An2 Ad2 : Option Addr} {nn2 cn2 nd2 cd2 p2 q2 : Nat} (w : World) (hn1 : Vec w dv 1 An1 nn1 (digs p1)) (hd1 : Vec w dv 1 Ad1 nd1 (digs q1)) (bn1 : nn1 ≤ 10000) (bd1 : nd1 ≤ 10000) (kn1 : nn1 ≤ cn1) (kd1 : nd1 ≤ cd1) (hn2 : Vec w dv 1 An2 nn2 (digs p2)) (hd2 : Vec w dv 1 Ad2 nd2 (digs q2)) (bn2 : nn2 ≤ 10000) (bd2 : nd2 ≤ 10000) (kn2 : nn2 ≤ cn2) (kd2 : nd2 ≤ cd2) : Calls Tryz.prog 82 #[.agg #[.slice An1 nn1 cn1, .slice Ad1 nd1 cd1], .agg #[.slice An2 nn2 cn2, .slice Ad2 nd2 cd2]] w fun r w' => r = .returned (.int .i64 (cmpF (takF ⟨p1, q1⟩) (takF ⟨p2, q2⟩))) ∧ Le w w' := by
 have hln1 := hn1.1; have hld1 := hd1.1
 have hln2 := hn2.1; have hld2 := hd2.1
 have h1l := digs_len_one (d := 1) (by decide)
 have h0l := digs_len_0
 refine enter Tryz.func82 rfl rfl ?_
 have L0 := Le.refl w
 refine WC.sr (W.ef rfl rfl rfl ?_)
 refine Ef.boxA rfl ?_
 intro g0_0 w0_0 hg0_0 b0_0 h0_0
 have L1 := L0.trans h0_0
 have b0_0 : Blk w0_0 g0_0 33 #[.slice An1 nn1 cn1, .slice Ad1 nd1 cd1] := b0_0
 refine W.ef rfl rfl rfl ?_
 refine Ef.boxA rfl ?_
 intro g0_1 w0_1 hg0_1 b0_1 h0_1
 have L2 := L1.trans h0_1
 have b0_1 : Blk w0_1 g0_1 33 #[.slice An2 nn2 cn2, .slice Ad2 nd2 cd2] := b0_1
 refine W.run 1 rfl (W.nx (WC.sr ?_))
 have f3 := (b0_0.le h0_1)
 refine W.r (.loadAll ag33 (by rfl) rfl f3) ?_
 by_cases qc1_1 : (okB p1 q1) = true
 ·have htk1 : takF ⟨p1, q1⟩ = ⟨p1, q1⟩ := if_pos qc1_1
  refine W.cl go94 rfl rfl (rftaken_yes w0_1 (hn1.le L2) (hd1.le L2) (by omega) (by omega) (by omega) (by omega) qc1_1) ?_
  rintro _ w1_1 ⟨rfl, h1_1⟩
  have L4 := L2.trans h1_1
  refine W.ef rfl rfl rfl ?_
  refine Ef.allocA z33 ?_
  intro g1_2 w1_2 hg1_2 b1_2 h1_2
  have L5 := L4.trans h1_2
  have b1_2 : Blk w1_2 g1_2 33 #[.slice none 0 0, .slice none 0 0] := b1_2
  refine W.ef0 rfl rfl ?_
  refine Ef.storeAll sz33 (by rfl) rfl rfl b1_2 (by rfl) (by simp [Value.oneCell']) ?_
  intro w1_3 b1_3 h1_3
  have b1_3 : Blk w1_3 g1_2 33 #[.slice An1 nn1 cn1, .slice Ad1 nd1 cd1] := b1_3
  have L6 := L5.then_ h1_3 (fun q hq => by cases hq; exact Nat.le_trans L4.size hg1_2)
  refine W.nx (WC.sr ?_)
  have f7 := ((b0_1.le (h1_1.trans h1_2)).ch h1_3 (fun h => (show g1_2 ≠ g0_1 from by have := b0_1.lt; have := h1_1.size; omega) (Option.some.inj h)))
  refine W.r (.loadAll ag33 (by rfl) rfl f7) ?_
  by_cases qc2_1 : (okB p2 q2) = true
  ·have htk2 : takF ⟨p2, q2⟩ = ⟨p2, q2⟩ := if_pos qc2_1
   refine W.cl go94 rfl rfl (rftaken_yes w1_3 (hn2.le L6) (hd2.le L6) (by omega) (by omega) (by omega) (by omega) qc2_1) ?_
   rintro _ w2_1 ⟨rfl, h2_1⟩
   have L8 := L6.trans h2_1
   refine W.ef rfl rfl rfl ?_
   refine Ef.allocA z33 ?_
   intro g2_2 w2_2 hg2_2 b2_2 h2_2
   have L9 := L8.trans h2_2
   have b2_2 : Blk w2_2 g2_2 33 #[.slice none 0 0, .slice none 0 0] := b2_2
   refine W.ef0 rfl rfl ?_
   refine Ef.storeAll sz33 (by rfl) rfl rfl b2_2 (by rfl) (by simp [Value.oneCell']) ?_
   intro w2_3 b2_3 h2_3
   have b2_3 : Blk w2_3 g2_2 33 #[.slice An2 nn2 cn2, .slice Ad2 nd2 cd2] := b2_3
   have L10 := L9.then_ h2_3 (fun q hq => by cases hq; exact Nat.le_trans L8.size hg2_2)
   refine W.nx (WC.seq ?_)
   refine WC.draw [0, 1, 2, 3, 5, 6, 7, 8, 4, 9, 10, 11] mixed (by kernel_rfl) ?_
   intro w3 d3
   have L11 := L10.trans d3
   refine G.a rfl (.field0 fa33_0 rfl) ?_
   have f12 := (((b1_3.le (h2_1.trans h2_2)).ch h2_3 (fun h => (show g2_2 ≠ g1_2 from by have := b1_3.lt; have := h2_1.size; omega) (Option.some.inj h))).le d3)
   refine G.r rfl (.loadB (v := .slice An1 nn1 cn1) na31 rfl f12 rfl) ?_
   refine G.a rfl (.field0 fa33_1 rfl) ?_
   have f13 := (b2_3.le d3)
   refine G.r rfl (.loadB (v := .slice Ad2 nd2 cd2) na31 rfl f13 rfl) ?_
   refine G.a rfl (.field0 fa33_0 rfl) ?_
   refine G.r rfl (.loadB (v := .slice An2 nn2 cn2) na31 rfl f13 rfl) ?_
   refine G.a rfl (.field0 fa33_1 rfl) ?_
   refine G.r rfl (.loadB (v := .slice Ad1 nd1 cd1) na31 rfl f12 rfl) ?_
   have hm0 := digs_mul_len (takF ⟨p1, q1⟩).n (takF ⟨p2, q2⟩).d; have hm1 := digs_mul_len (takF ⟨p2, q2⟩).n (takF ⟨p1, q1⟩).d
   rw [htk1, htk2] at hm0 hm1
   simp only at hm0 hm1
   refine G.ef rfl rfl rfl rfl rfl ?_
   refine Ef.call go95 rfl rfl (rnmul_ok w3 (hn1.le L11) (hd2.le L11) (by omega) (by omega)) ?_
   rintro _ w3_4 ⟨Ad3_4, cd3_4, rfl, o3_4, h3_4⟩
   refine ⟨_, rfl, ?_⟩
   refine ⟨fun _ => h3_4, ?_⟩
   have L14 := L11.trans h3_4
   refine G.ef rfl rfl rfl rfl rfl ?_
   refine Ef.call go95 rfl rfl (rnmul_ok w3_4 (hn2.le L14) (hd1.le L14) (by omega) (by omega)) ?_
   rintro _ w3_9 ⟨Ad3_9, cd3_9, rfl, o3_9, h3_9⟩
   refine ⟨_, rfl, ?_⟩
   refine ⟨fun _ => h3_9, ?_⟩
   have L15 := L14.trans h3_9
   have f16 := (o3_4.le h3_9)
   refine G.ef rfl rfl rfl rfl rfl ?_
   refine Ef.call go112 rfl rfl (rncmp_ok w3_9 f16.vec o3_9.vec (by omega) (by omega)) ?_
   rintro _ w3_10 ⟨rfl, h3_10⟩
   refine ⟨_, rfl, ?_⟩
   refine ⟨fun _ => h3_10, ?_⟩
   have L17 := L15.trans h3_10
   refine G.run 1 rfl (G.nil (E.thenN (WC.ret ?_)))
   refine E.retG1 rfl rfl ?_
   rw [htk1, htk2]
   exact ⟨rfl, L17⟩
  have htk2 : takF ⟨p2, q2⟩ = ⟨0, 1⟩ := if_neg qc2_1
  refine W.cl go94 rfl rfl (rftaken_no w1_3 (hn2.le L6) (hd2.le L6) (by omega) (by omega) (by omega) (by omega) qc2_1) ?_
  rintro _ w2_1_1 ⟨An2_1_1, cn2_1_1, Ad2_1_1, cd2_1_1, rfl, on2_1_1, od2_1_1, h2_1_1⟩
  have L18 := L6.trans h2_1_1
  refine W.ef rfl rfl rfl ?_
  refine Ef.allocA z33 ?_
  intro g2_2_1 w2_2_1 hg2_2_1 b2_2_1 h2_2_1
  have L19 := L18.trans h2_2_1
  have b2_2_1 : Blk w2_2_1 g2_2_1 33 #[.slice none 0 0, .slice none 0 0] := b2_2_1
  refine W.ef0 rfl rfl ?_
  refine Ef.storeAll sz33 (by rfl) rfl rfl b2_2_1 (by rfl) (by simp [Value.oneCell']) ?_
  intro w2_3_1 b2_3_1 h2_3_1
  have b2_3_1 : Blk w2_3_1 g2_2_1 33 #[.slice An2_1_1 ((digs 0).length) cn2_1_1, .slice Ad2_1_1 ((digs 1).length) cd2_1_1] := b2_3_1
  have L20 := L19.then_ h2_3_1 (fun q hq => by cases hq; exact Nat.le_trans L18.size hg2_2_1)
  refine W.nx (WC.seq ?_)
  refine WC.draw [0, 1, 2, 3, 5, 6, 7, 8, 4, 9, 10, 11] mixed (by kernel_rfl) ?_
  intro w3 d3
  have L21 := L20.trans d3
  refine G.a rfl (.field0 fa33_0 rfl) ?_
  have f22 := (((b1_3.le (h2_1_1.trans h2_2_1)).ch h2_3_1 (fun h => (show g2_2_1 ≠ g1_2 from by have := b1_3.lt; have := h2_1_1.size; omega) (Option.some.inj h))).le d3)
  refine G.r rfl (.loadB (v := .slice An1 nn1 cn1) na31 rfl f22 rfl) ?_
  refine G.a rfl (.field0 fa33_1 rfl) ?_
  have f23 := (b2_3_1.le d3)
  refine G.r rfl (.loadB (v := .slice Ad2_1_1 ((digs 1).length) cd2_1_1) na31 rfl f23 rfl) ?_
  refine G.a rfl (.field0 fa33_0 rfl) ?_
  refine G.r rfl (.loadB (v := .slice An2_1_1 ((digs 0).length) cn2_1_1) na31 rfl f23 rfl) ?_
  refine G.a rfl (.field0 fa33_1 rfl) ?_
  refine G.r rfl (.loadB (v := .slice Ad1 nd1 cd1) na31 rfl f22 rfl) ?_
  have hm0 := digs_mul_len (takF ⟨p1, q1⟩).n (takF ⟨p2, q2⟩).d; have hm1 := digs_mul_len (takF ⟨p2, q2⟩).n (takF ⟨p1, q1⟩).d
  rw [htk1, htk2] at hm0 hm1
  simp only at hm0 hm1
  have f24 := (((od2_1_1.le h2_2_1).ch h2_3_1 (fun q hq => by cases hq; exact (fun he => by have := (od2_1_1.row he).2; omega))).le d3)
  refine G.ef rfl rfl rfl rfl rfl ?_
  refine Ef.call go95 rfl rfl (rnmul_ok w3 (hn1.le L21) f24.vec (by omega) (by omega)) ?_
  rintro _ w3_4_1 ⟨Ad3_4_1, cd3_4_1, rfl, o3_4_1, h3_4_1⟩
  refine ⟨_, rfl, ?_⟩
  refine ⟨fun _ => h3_4_1, ?_⟩
  have L25 := L21.trans h3_4_1
  have f26 := (((on2_1_1.le h2_2_1).ch h2_3_1 (fun q hq => by cases hq; exact (fun he => by have := (on2_1_1.row he).2; omega))).le (d3.trans h3_4_1))
  refine G.ef rfl rfl rfl rfl rfl ?_
  refine Ef.call go95 rfl rfl (rnmul_ok w3_4_1 f26.vec (hd1.le L25) (by omega) (by omega)) ?_
  rintro _ w3_9_1 ⟨Ad3_9_1, cd3_9_1, rfl, o3_9_1, h3_9_1⟩
  refine ⟨_, rfl, ?_⟩
  refine ⟨fun _ => h3_9_1, ?_⟩
  have L27 := L25.trans h3_9_1
  have f28 := (o3_4_1.le h3_9_1)
  refine G.ef rfl rfl rfl rfl rfl ?_
  refine Ef.call go112 rfl rfl (rncmp_ok w3_9_1 f28.vec o3_9_1.vec (by omega) (by omega)) ?_
  rintro _ w3_10_1 ⟨rfl, h3_10_1⟩
  refine ⟨_, rfl, ?_⟩
  refine ⟨fun _ => h3_10_1, ?_⟩
  have L29 := L27.trans h3_10_1
  refine G.run 1 rfl (G.nil (E.thenN (WC.ret ?_)))
  refine E.retG1 rfl rfl ?_
  rw [htk1, htk2]
  exact ⟨rfl, L29⟩
 have htk1 : takF ⟨p1, q1⟩ = ⟨0, 1⟩ := if_neg qc1_1
 refine W.cl go94 rfl rfl (rftaken_no w0_1 (hn1.le L2) (hd1.le L2) (by omega) (by omega) (by omega) (by omega) qc1_1) ?_
 rintro _ w1_1_1 ⟨An1_1_1, cn1_1_1, Ad1_1_1, cd1_1_1, rfl, on1_1_1, od1_1_1, h1_1_1⟩
 have L30 := L2.trans h1_1_1
 refine W.ef rfl rfl rfl ?_
 refine Ef.allocA z33 ?_
 intro g1_2_1 w1_2_1 hg1_2_1 b1_2_1 h1_2_1
 have L31 := L30.trans h1_2_1
 have b1_2_1 : Blk w1_2_1 g1_2_1 33 #[.slice none 0 0, .slice none 0 0] := b1_2_1
 refine W.ef0 rfl rfl ?_
 refine Ef.storeAll sz33 (by rfl) rfl rfl b1_2_1 (by rfl) (by simp [Value.oneCell']) ?_
 intro w1_3_1 b1_3_1 h1_3_1
 have b1_3_1 : Blk w1_3_1 g1_2_1 33 #[.slice An1_1_1 ((digs 0).length) cn1_1_1, .slice Ad1_1_1 ((digs 1).length) cd1_1_1] := b1_3_1
 have L32 := L31.then_ h1_3_1 (fun q hq => by cases hq; exact Nat.le_trans L30.size hg1_2_1)
 refine W.nx (WC.sr ?_)
 have f33 := ((b0_1.le (h1_1_1.trans h1_2_1)).ch h1_3_1 (fun h => (show g1_2_1 ≠ g0_1 from by have := b0_1.lt; have := h1_1_1.size; omega) (Option.some.inj h)))
 refine W.r (.loadAll ag33 (by rfl) rfl f33) ?_
 by_cases qc2_1 : (okB p2 q2) = true
 ·have htk2 : takF ⟨p2, q2⟩ = ⟨p2, q2⟩ := if_pos qc2_1
  refine W.cl go94 rfl rfl (rftaken_yes w1_3_1 (hn2.le L32) (hd2.le L32) (by omega) (by omega) (by omega) (by omega) qc2_1) ?_
  rintro _ w2_1_2 ⟨rfl, h2_1_2⟩
  have L34 := L32.trans h2_1_2
  refine W.ef rfl rfl rfl ?_
  refine Ef.allocA z33 ?_
  intro g2_2_2 w2_2_2 hg2_2_2 b2_2_2 h2_2_2
  have L35 := L34.trans h2_2_2
  have b2_2_2 : Blk w2_2_2 g2_2_2 33 #[.slice none 0 0, .slice none 0 0] := b2_2_2
  refine W.ef0 rfl rfl ?_
  refine Ef.storeAll sz33 (by rfl) rfl rfl b2_2_2 (by rfl) (by simp [Value.oneCell']) ?_
  intro w2_3_2 b2_3_2 h2_3_2
  have b2_3_2 : Blk w2_3_2 g2_2_2 33 #[.slice An2 nn2 cn2, .slice Ad2 nd2 cd2] := b2_3_2
  have L36 := L35.then_ h2_3_2 (fun q hq => by cases hq; exact Nat.le_trans L34.size hg2_2_2)
  refine W.nx (WC.seq ?_)
  refine WC.draw [0, 1, 2, 3, 5, 6, 7, 8, 4, 9, 10, 11] mixed (by kernel_rfl) ?_
  intro w3 d3
  have L37 := L36.trans d3
  refine G.a rfl (.field0 fa33_0 rfl) ?_
  have f38 := (((b1_3_1.le (h2_1_2.trans h2_2_2)).ch h2_3_2 (fun h => (show g2_2_2 ≠ g1_2_1 from by have := b1_3_1.lt; have := h2_1_2.size; omega) (Option.some.inj h))).le d3)
  refine G.r rfl (.loadB (v := .slice An1_1_1 ((digs 0).length) cn1_1_1) na31 rfl f38 rfl) ?_
  refine G.a rfl (.field0 fa33_1 rfl) ?_
  have f39 := (b2_3_2.le d3)
  refine G.r rfl (.loadB (v := .slice Ad2 nd2 cd2) na31 rfl f39 rfl) ?_
  refine G.a rfl (.field0 fa33_0 rfl) ?_
  refine G.r rfl (.loadB (v := .slice An2 nn2 cn2) na31 rfl f39 rfl) ?_
  refine G.a rfl (.field0 fa33_1 rfl) ?_
  refine G.r rfl (.loadB (v := .slice Ad1_1_1 ((digs 1).length) cd1_1_1) na31 rfl f38 rfl) ?_
  have hm0 := digs_mul_len (takF ⟨p1, q1⟩).n (takF ⟨p2, q2⟩).d; have hm1 := digs_mul_len (takF ⟨p2, q2⟩).n (takF ⟨p1, q1⟩).d
  rw [htk1, htk2] at hm0 hm1
  simp only at hm0 hm1
  have f40 := (((((on1_1_1.le h1_2_1).ch h1_3_1 (fun q hq => by cases hq; exact (fun he => by have := (on1_1_1.row he).2; omega))).le (h2_1_2.trans h2_2_2)).ch h2_3_2 (fun q hq => by cases hq; exact (fun he => by have := (on1_1_1.row he).2; have := h1_2_1.size; have := h1_3_1.size; have := h2_1_2.size; omega))).le d3)
  refine G.ef rfl rfl rfl rfl rfl ?_
  refine Ef.call go95 rfl rfl (rnmul_ok w3 f40.vec (hd2.le L37) (by omega) (by omega)) ?_
  rintro _ w3_4_2 ⟨Ad3_4_2, cd3_4_2, rfl, o3_4_2, h3_4_2⟩
  refine ⟨_, rfl, ?_⟩
  refine ⟨fun _ => h3_4_2, ?_⟩
  have L41 := L37.trans h3_4_2
  have f42 := (((((od1_1_1.le h1_2_1).ch h1_3_1 (fun q hq => by cases hq; exact (fun he => by have := (od1_1_1.row he).2; omega))).le (h2_1_2.trans h2_2_2)).ch h2_3_2 (fun q hq => by cases hq; exact (fun he => by have := (od1_1_1.row he).2; have := h1_2_1.size; have := h1_3_1.size; have := h2_1_2.size; omega))).le (d3.trans h3_4_2))
  refine G.ef rfl rfl rfl rfl rfl ?_
  refine Ef.call go95 rfl rfl (rnmul_ok w3_4_2 (hn2.le L41) f42.vec (by omega) (by omega)) ?_
  rintro _ w3_9_2 ⟨Ad3_9_2, cd3_9_2, rfl, o3_9_2, h3_9_2⟩
  refine ⟨_, rfl, ?_⟩
  refine ⟨fun _ => h3_9_2, ?_⟩
  have L43 := L41.trans h3_9_2
  have f44 := (o3_4_2.le h3_9_2)
  refine G.ef rfl rfl rfl rfl rfl ?_
  refine Ef.call go112 rfl rfl (rncmp_ok w3_9_2 f44.vec o3_9_2.vec (by omega) (by omega)) ?_
  rintro _ w3_10_2 ⟨rfl, h3_10_2⟩
  refine ⟨_, rfl, ?_⟩
  refine ⟨fun _ => h3_10_2, ?_⟩
  have L45 := L43.trans h3_10_2
  refine G.run 1 rfl (G.nil (E.thenN (WC.ret ?_)))
  refine E.retG1 rfl rfl ?_
  rw [htk1, htk2]
  exact ⟨rfl, L45⟩
 have htk2 : takF ⟨p2, q2⟩ = ⟨0, 1⟩ := if_neg qc2_1
 refine W.cl go94 rfl rfl (rftaken_no w1_3_1 (hn2.le L32) (hd2.le L32) (by omega) (by omega) (by omega) (by omega) qc2_1) ?_
 rintro _ w2_1_3 ⟨An2_1_3, cn2_1_3, Ad2_1_3, cd2_1_3, rfl, on2_1_3, od2_1_3, h2_1_3⟩
 have L46 := L32.trans h2_1_3
 refine W.ef rfl rfl rfl ?_
 refine Ef.allocA z33 ?_
 intro g2_2_3 w2_2_3 hg2_2_3 b2_2_3 h2_2_3
 have L47 := L46.trans h2_2_3
 have b2_2_3 : Blk w2_2_3 g2_2_3 33 #[.slice none 0 0, .slice none 0 0] := b2_2_3
 refine W.ef0 rfl rfl ?_
 refine Ef.storeAll sz33 (by rfl) rfl rfl b2_2_3 (by rfl) (by simp [Value.oneCell']) ?_
 intro w2_3_3 b2_3_3 h2_3_3
 have b2_3_3 : Blk w2_3_3 g2_2_3 33 #[.slice An2_1_3 ((digs 0).length) cn2_1_3, .slice Ad2_1_3 ((digs 1).length) cd2_1_3] := b2_3_3
 have L48 := L47.then_ h2_3_3 (fun q hq => by cases hq; exact Nat.le_trans L46.size hg2_2_3)
 refine W.nx (WC.seq ?_)
 refine WC.draw [0, 1, 2, 3, 5, 6, 7, 8, 4, 9, 10, 11] mixed (by kernel_rfl) ?_
 intro w3 d3
 have L49 := L48.trans d3
 refine G.a rfl (.field0 fa33_0 rfl) ?_
 have f50 := (((b1_3_1.le (h2_1_3.trans h2_2_3)).ch h2_3_3 (fun h => (show g2_2_3 ≠ g1_2_1 from by have := b1_3_1.lt; have := h2_1_3.size; omega) (Option.some.inj h))).le d3)
 refine G.r rfl (.loadB (v := .slice An1_1_1 ((digs 0).length) cn1_1_1) na31 rfl f50 rfl) ?_
 refine G.a rfl (.field0 fa33_1 rfl) ?_
 have f51 := (b2_3_3.le d3)
 refine G.r rfl (.loadB (v := .slice Ad2_1_3 ((digs 1).length) cd2_1_3) na31 rfl f51 rfl) ?_
 refine G.a rfl (.field0 fa33_0 rfl) ?_
 refine G.r rfl (.loadB (v := .slice An2_1_3 ((digs 0).length) cn2_1_3) na31 rfl f51 rfl) ?_
 refine G.a rfl (.field0 fa33_1 rfl) ?_
 refine G.r rfl (.loadB (v := .slice Ad1_1_1 ((digs 1).length) cd1_1_1) na31 rfl f50 rfl) ?_
 have hm0 := digs_mul_len (takF ⟨p1, q1⟩).n (takF ⟨p2, q2⟩).d; have hm1 := digs_mul_len (takF ⟨p2, q2⟩).n (takF ⟨p1, q1⟩).d
 rw [htk1, htk2] at hm0 hm1
 simp only at hm0 hm1
 have f52 := (((((on1_1_1.le h1_2_1).ch h1_3_1 (fun q hq => by cases hq; exact (fun he => by have := (on1_1_1.row he).2; omega))).le (h2_1_3.trans h2_2_3)).ch h2_3_3 (fun q hq => by cases hq; exact (fun he => by have := (on1_1_1.row he).2; have := h1_2_1.size; have := h1_3_1.size; have := h2_1_3.size; omega))).le d3)
 have f53 := (((od2_1_3.le h2_2_3).ch h2_3_3 (fun q hq => by cases hq; exact (fun he => by have := (od2_1_3.row he).2; omega))).le d3)
 refine G.ef rfl rfl rfl rfl rfl ?_
 refine Ef.call go95 rfl rfl (rnmul_ok w3 f52.vec f53.vec (by omega) (by omega)) ?_
 rintro _ w3_4_3 ⟨Ad3_4_3, cd3_4_3, rfl, o3_4_3, h3_4_3⟩
 refine ⟨_, rfl, ?_⟩
 refine ⟨fun _ => h3_4_3, ?_⟩
 have L54 := L49.trans h3_4_3
 have f55 := (((on2_1_3.le h2_2_3).ch h2_3_3 (fun q hq => by cases hq; exact (fun he => by have := (on2_1_3.row he).2; omega))).le (d3.trans h3_4_3))
 have f56 := (((((od1_1_1.le h1_2_1).ch h1_3_1 (fun q hq => by cases hq; exact (fun he => by have := (od1_1_1.row he).2; omega))).le (h2_1_3.trans h2_2_3)).ch h2_3_3 (fun q hq => by cases hq; exact (fun he => by have := (od1_1_1.row he).2; have := h1_2_1.size; have := h1_3_1.size; have := h2_1_3.size; omega))).le (d3.trans h3_4_3))
 refine G.ef rfl rfl rfl rfl rfl ?_
 refine Ef.call go95 rfl rfl (rnmul_ok w3_4_3 f55.vec f56.vec (by omega) (by omega)) ?_
 rintro _ w3_9_3 ⟨Ad3_9_3, cd3_9_3, rfl, o3_9_3, h3_9_3⟩
 refine ⟨_, rfl, ?_⟩
 refine ⟨fun _ => h3_9_3, ?_⟩
 have L57 := L54.trans h3_9_3
 have f58 := (o3_4_3.le h3_9_3)
 refine G.ef rfl rfl rfl rfl rfl ?_
 refine Ef.call go112 rfl rfl (rncmp_ok w3_9_3 f58.vec o3_9_3.vec (by omega) (by omega)) ?_
 rintro _ w3_10_3 ⟨rfl, h3_10_3⟩
 refine ⟨_, rfl, ?_⟩
 refine ⟨fun _ => h3_10_3, ?_⟩
 have L59 := L57.trans h3_10_3
 refine G.run 1 rfl (G.nil (E.thenN (WC.ret ?_)))
 refine E.retG1 rfl rfl ?_
 rw [htk1, htk2]
 exact ⟨rfl, L59⟩

theorem rfmul_ok {An1 Ad1 : Option Addr} {nn1 cn1 nd1 cd1 p1 q1 : Nat} {An2 Ad2 : Option Addr} {nn2 cn2 nd2 cd2 p2 q2 : Nat} (w : World) (hn1 : Vec w dv 1 An1 nn1 (digs p1)) (hd1 : Vec w dv 1 Ad1 nd1 (digs q1)) (bn1 : nn1 ≤ 10000) (bd1 : nd1 ≤ 10000) (kn1 : nn1 ≤ cn1) (kd1 : nd1 ≤ cd1) (hn2 : Vec w dv 1 An2 nn2 (digs p2)) (hd2 : Vec w dv 1 Ad2 nd2 (digs q2)) (bn2 : nn2 ≤ 10000) (bd2 : nd2 ≤ 10000) (kn2 : nn2 ≤ cn2) (kd2 : nd2 ≤ cd2) : Calls Tryz.prog 50 #[.agg #[.slice An1 nn1 cn1, .slice Ad1 nd1 cd1], .agg #[.slice An2 nn2 cn2, .slice Ad2 nd2 cd2]] w fun r w' => ∃ A1 c1 A2 c2, r = .returned (.agg #[.slice A1 (digs (mulF (takF ⟨p1, q1⟩) (takF ⟨p2, q2⟩)).n).length c1, .slice A2 (digs (mulF (takF ⟨p1, q1⟩) (takF ⟨p2, q2⟩)).d).length c2]) ∧ OVec w' w.heap.size 122 dv 1 A1 (digs (mulF (takF ⟨p1, q1⟩) (takF ⟨p2, q2⟩)).n).length c1 (digs (mulF (takF ⟨p1, q1⟩) (takF ⟨p2, q2⟩)).n) ∧ OVec w' w.heap.size 122 dv 1 A2 (digs (mulF (takF ⟨p1, q1⟩) (takF ⟨p2, q2⟩)).d).length c2 (digs (mulF (takF ⟨p1, q1⟩) (takF ⟨p2, q2⟩)).d) ∧ Le w w' := by
 have hln1 := hn1.1; have hld1 := hd1.1
 have hln2 := hn2.1; have hld2 := hd2.1
 have h1l := digs_len_one (d := 1) (by decide)
 have h0l := digs_len_0
 have hp1 := (takF_ok ⟨p1, q1⟩).1; have hp2 := (takF_ok ⟨p2, q2⟩).1
 have hdp := Nat.mul_pos hp1 hp2
 refine enter Tryz.func50 rfl rfl ?_
 have L0 := Le.refl w
 refine WC.sr (W.ef rfl rfl rfl ?_)
 refine Ef.boxA rfl ?_
 intro g0_0 w0_0 hg0_0 b0_0 h0_0
 have L1 := L0.trans h0_0
 have b0_0 : Blk w0_0 g0_0 33 #[.slice An1 nn1 cn1, .slice Ad1 nd1 cd1] := b0_0
 refine W.ef rfl rfl rfl ?_
 refine Ef.boxA rfl ?_
 intro g0_1 w0_1 hg0_1 b0_1 h0_1
 have L2 := L1.trans h0_1
 have b0_1 : Blk w0_1 g0_1 33 #[.slice An2 nn2 cn2, .slice Ad2 nd2 cd2] := b0_1
 refine W.ef rfl rfl rfl ?_
 refine Ef.allocA z33 ?_
 intro g0_2 w0_2 hg0_2 b0_2 h0_2
 have L3 := L2.trans h0_2
 have b0_2 : Blk w0_2 g0_2 33 #[.slice none 0 0, .slice none 0 0] := b0_2
 refine W.nx (WC.sr ?_)
 have f4 := (b0_0.le (h0_1.trans h0_2))
 refine W.r (.loadAll ag33 (by rfl) rfl f4) ?_
 by_cases qc1_1 : (okB p1 q1) = true
 ·have htk1 : takF ⟨p1, q1⟩ = ⟨p1, q1⟩ := if_pos qc1_1
  refine W.cl go94 rfl rfl (rftaken_yes w0_2 (hn1.le L3) (hd1.le L3) (by omega) (by omega) (by omega) (by omega) qc1_1) ?_
  rintro _ w1_1 ⟨rfl, h1_1⟩
  have L5 := L3.trans h1_1
  refine W.ef rfl rfl rfl ?_
  refine Ef.allocA z33 ?_
  intro g1_2 w1_2 hg1_2 b1_2 h1_2
  have L6 := L5.trans h1_2
  have b1_2 : Blk w1_2 g1_2 33 #[.slice none 0 0, .slice none 0 0] := b1_2
  refine W.ef0 rfl rfl ?_
  refine Ef.storeAll sz33 (by rfl) rfl rfl b1_2 (by rfl) (by simp [Value.oneCell']) ?_
  intro w1_3 b1_3 h1_3
  have b1_3 : Blk w1_3 g1_2 33 #[.slice An1 nn1 cn1, .slice Ad1 nd1 cd1] := b1_3
  have L7 := L6.then_ h1_3 (fun q hq => by cases hq; exact Nat.le_trans L5.size hg1_2)
  refine W.nx (WC.sr ?_)
  have f8 := ((b0_1.le (h0_2.trans (h1_1.trans h1_2))).ch h1_3 (fun h => (show g1_2 ≠ g0_1 from by have := b0_1.lt; have := h0_2.size; have := h1_1.size; omega) (Option.some.inj h)))
  refine W.r (.loadAll ag33 (by rfl) rfl f8) ?_
  by_cases qc2_1 : (okB p2 q2) = true
  ·have htk2 : takF ⟨p2, q2⟩ = ⟨p2, q2⟩ := if_pos qc2_1
   refine W.cl go94 rfl rfl (rftaken_yes w1_3 (hn2.le L7) (hd2.le L7) (by omega) (by omega) (by omega) (by omega) qc2_1) ?_
   rintro _ w2_1 ⟨rfl, h2_1⟩
   have L9 := L7.trans h2_1
   refine W.ef rfl rfl rfl ?_
   refine Ef.allocA z33 ?_
   intro g2_2 w2_2 hg2_2 b2_2 h2_2
   have L10 := L9.trans h2_2
   have b2_2 : Blk w2_2 g2_2 33 #[.slice none 0 0, .slice none 0 0] := b2_2
   refine W.ef0 rfl rfl ?_
   refine Ef.storeAll sz33 (by rfl) rfl rfl b2_2 (by rfl) (by simp [Value.oneCell']) ?_
   intro w2_3 b2_3 h2_3
   have b2_3 : Blk w2_3 g2_2 33 #[.slice An2 nn2 cn2, .slice Ad2 nd2 cd2] := b2_3
   have L11 := L10.then_ h2_3 (fun q hq => by cases hq; exact Nat.le_trans L9.size hg2_2)
   refine W.nx (WC.seq ?_)
   refine WC.draw [0, 1, 2, 3, 5, 6, 7, 8, 4, 9, 10, 11] mixed (by kernel_rfl) ?_
   intro w3 d3
   have L12 := L11.trans d3
   refine G.a rfl (.field0 fa33_0 rfl) ?_
   have f13 := (((b1_3.le (h2_1.trans h2_2)).ch h2_3 (fun h => (show g2_2 ≠ g1_2 from by have := b1_3.lt; have := h2_1.size; omega) (Option.some.inj h))).le d3)
   refine G.r rfl (.loadB (v := .slice An1 nn1 cn1) na31 rfl f13 rfl) ?_
   refine G.a rfl (.field0 fa33_0 rfl) ?_
   have f14 := (b2_3.le d3)
   refine G.r rfl (.loadB (v := .slice An2 nn2 cn2) na31 rfl f14 rfl) ?_
   refine G.a rfl (.field0 fa33_1 rfl) ?_
   refine G.r rfl (.loadB (v := .slice Ad1 nd1 cd1) na31 rfl f13 rfl) ?_
   refine G.a rfl (.field0 fa33_1 rfl) ?_
   refine G.r rfl (.loadB (v := .slice Ad2 nd2 cd2) na31 rfl f14 rfl) ?_
   have hm0 := digs_mul_len (takF ⟨p1, q1⟩).n (takF ⟨p2, q2⟩).n; have hm1 := digs_mul_len (takF ⟨p1, q1⟩).d (takF ⟨p2, q2⟩).d
   rw [htk1, htk2] at hm0 hm1
   simp only at hm0 hm1
   refine G.ef rfl rfl rfl rfl rfl ?_
   refine Ef.call go95 rfl rfl (rnmul_ok w3 (hn1.le L12) (hn2.le L12) (by omega) (by omega)) ?_
   rintro _ w3_4 ⟨Ad3_4, cd3_4, rfl, o3_4, h3_4⟩
   refine ⟨_, rfl, ?_⟩
   refine ⟨fun _ => h3_4, ?_⟩
   have L15 := L12.trans h3_4
   refine G.ef rfl rfl rfl rfl rfl ?_
   refine Ef.call go95 rfl rfl (rnmul_ok w3_4 (hd1.le L15) (hd2.le L15) (by omega) (by omega)) ?_
   rintro _ w3_9 ⟨Ad3_9, cd3_9, rfl, o3_9, h3_9⟩
   refine ⟨_, rfl, ?_⟩
   refine ⟨fun _ => h3_9, ?_⟩
   have L16 := L15.trans h3_9
   have f17 := (o3_4.le h3_9)
   refine G.ef rfl rfl rfl rfl rfl ?_
   refine Ef.call go92 rfl rfl (rflow_ok w3_9 f17.vec o3_9.vec f17.cap.1 o3_9.cap.1 (by rw [htk1, htk2] at hdp; exact hdp) (by omega) (by omega)) ?_
   rintro _ w3_10 ⟨An3_10, cn3_10, Ad3_10, cd3_10, rfl, on3_10, od3_10, h3_10⟩
   refine ⟨_, rfl, ?_⟩
   refine ⟨fun _ => h3_10, ?_⟩
   have L18 := L16.trans h3_10
   have f19 := (((((b0_2.le (h1_1.trans h1_2)).ch h1_3 (fun h => (show g1_2 ≠ g0_2 from by have := b0_2.lt; have := h1_1.size; omega) (Option.some.inj h))).le (h2_1.trans h2_2)).ch h2_3 (fun h => (show g2_2 ≠ g0_2 from by have := b0_2.lt; have := h1_1.size; have := h1_2.size; have := h1_3.size; have := h2_1.size; omega) (Option.some.inj h))).le (d3.trans (h3_4.trans (h3_9.trans h3_10))))
   refine G.ef0 rfl rfl rfl rfl ?_
   refine Ef.storeAll sz33 (by rfl) rfl rfl f19 (by rfl) (by simp [Value.oneCell']) ?_
   intro w3_11 b3_11 h3_11
   refine ⟨fun h => absurd h (ne_true_of_eq_false (by kernel_rfl)), ?_⟩
   have b3_11 : Blk w3_11 g0_2 33 #[.slice An3_10 ((digs ((lowF (p1 * p2) (q1 * q2)).n)).length) cn3_10, .slice Ad3_10 ((digs ((lowF (p1 * p2) (q1 * q2)).d)).length) cd3_10] := b3_11
   have L20 := L18.then_ h3_11 (fun q hq => by cases hq; exact Nat.le_trans L2.size hg0_2)
   refine G.nil (E.thenN (WC.ret ?_))
   have f21 := (on3_10.ch h3_11 (fun q hq => by cases hq; exact (fun he => by have := (on3_10.row he).1; have := b0_2.lt; have := h1_1.size; have := h1_2.size; have := h1_3.size; have := h2_1.size; have := h2_2.size; have := h2_3.size; have := d3.size; have := h3_4.size; have := h3_9.size; omega)))
   have f22 := (od3_10.ch h3_11 (fun q hq => by cases hq; exact (fun he => by have := (od3_10.row he).1; have := b0_2.lt; have := h1_1.size; have := h1_2.size; have := h1_3.size; have := h2_1.size; have := h2_2.size; have := h2_3.size; have := d3.size; have := h3_4.size; have := h3_9.size; omega)))
   refine E.retG1 rfl (resA rfl b3_11 ag33 (by rfl)) ?_
   rw [htk1, htk2]
   exact ⟨_, _, _, _, rfl, (f21.mono L16.size), (f22.mono L16.size), L20⟩
  have htk2 : takF ⟨p2, q2⟩ = ⟨0, 1⟩ := if_neg qc2_1
  refine W.cl go94 rfl rfl (rftaken_no w1_3 (hn2.le L7) (hd2.le L7) (by omega) (by omega) (by omega) (by omega) qc2_1) ?_
  rintro _ w2_1_1 ⟨An2_1_1, cn2_1_1, Ad2_1_1, cd2_1_1, rfl, on2_1_1, od2_1_1, h2_1_1⟩
  have L23 := L7.trans h2_1_1
  refine W.ef rfl rfl rfl ?_
  refine Ef.allocA z33 ?_
  intro g2_2_1 w2_2_1 hg2_2_1 b2_2_1 h2_2_1
  have L24 := L23.trans h2_2_1
  have b2_2_1 : Blk w2_2_1 g2_2_1 33 #[.slice none 0 0, .slice none 0 0] := b2_2_1
  refine W.ef0 rfl rfl ?_
  refine Ef.storeAll sz33 (by rfl) rfl rfl b2_2_1 (by rfl) (by simp [Value.oneCell']) ?_
  intro w2_3_1 b2_3_1 h2_3_1
  have b2_3_1 : Blk w2_3_1 g2_2_1 33 #[.slice An2_1_1 ((digs 0).length) cn2_1_1, .slice Ad2_1_1 ((digs 1).length) cd2_1_1] := b2_3_1
  have L25 := L24.then_ h2_3_1 (fun q hq => by cases hq; exact Nat.le_trans L23.size hg2_2_1)
  refine W.nx (WC.seq ?_)
  refine WC.draw [0, 1, 2, 3, 5, 6, 7, 8, 4, 9, 10, 11] mixed (by kernel_rfl) ?_
  intro w3 d3
  have L26 := L25.trans d3
  refine G.a rfl (.field0 fa33_0 rfl) ?_
  have f27 := (((b1_3.le (h2_1_1.trans h2_2_1)).ch h2_3_1 (fun h => (show g2_2_1 ≠ g1_2 from by have := b1_3.lt; have := h2_1_1.size; omega) (Option.some.inj h))).le d3)
  refine G.r rfl (.loadB (v := .slice An1 nn1 cn1) na31 rfl f27 rfl) ?_
  refine G.a rfl (.field0 fa33_0 rfl) ?_
  have f28 := (b2_3_1.le d3)
  refine G.r rfl (.loadB (v := .slice An2_1_1 ((digs 0).length) cn2_1_1) na31 rfl f28 rfl) ?_
  refine G.a rfl (.field0 fa33_1 rfl) ?_
  refine G.r rfl (.loadB (v := .slice Ad1 nd1 cd1) na31 rfl f27 rfl) ?_
  refine G.a rfl (.field0 fa33_1 rfl) ?_
  refine G.r rfl (.loadB (v := .slice Ad2_1_1 ((digs 1).length) cd2_1_1) na31 rfl f28 rfl) ?_
  have hm0 := digs_mul_len (takF ⟨p1, q1⟩).n (takF ⟨p2, q2⟩).n; have hm1 := digs_mul_len (takF ⟨p1, q1⟩).d (takF ⟨p2, q2⟩).d
  rw [htk1, htk2] at hm0 hm1
  simp only at hm0 hm1
  have f29 := (((on2_1_1.le h2_2_1).ch h2_3_1 (fun q hq => by cases hq; exact (fun he => by have := (on2_1_1.row he).2; omega))).le d3)
  refine G.ef rfl rfl rfl rfl rfl ?_
  refine Ef.call go95 rfl rfl (rnmul_ok w3 (hn1.le L26) f29.vec (by omega) (by omega)) ?_
  rintro _ w3_4_1 ⟨Ad3_4_1, cd3_4_1, rfl, o3_4_1, h3_4_1⟩
  refine ⟨_, rfl, ?_⟩
  refine ⟨fun _ => h3_4_1, ?_⟩
  have L30 := L26.trans h3_4_1
  have f31 := (((od2_1_1.le h2_2_1).ch h2_3_1 (fun q hq => by cases hq; exact (fun he => by have := (od2_1_1.row he).2; omega))).le (d3.trans h3_4_1))
  refine G.ef rfl rfl rfl rfl rfl ?_
  refine Ef.call go95 rfl rfl (rnmul_ok w3_4_1 (hd1.le L30) f31.vec (by omega) (by omega)) ?_
  rintro _ w3_9_1 ⟨Ad3_9_1, cd3_9_1, rfl, o3_9_1, h3_9_1⟩
  refine ⟨_, rfl, ?_⟩
  refine ⟨fun _ => h3_9_1, ?_⟩
  have L32 := L30.trans h3_9_1
  have f33 := (o3_4_1.le h3_9_1)
  refine G.ef rfl rfl rfl rfl rfl ?_
  refine Ef.call go92 rfl rfl (rflow_ok w3_9_1 f33.vec o3_9_1.vec f33.cap.1 o3_9_1.cap.1 (by rw [htk1, htk2] at hdp; exact hdp) (by omega) (by omega)) ?_
  rintro _ w3_10_1 ⟨An3_10_1, cn3_10_1, Ad3_10_1, cd3_10_1, rfl, on3_10_1, od3_10_1, h3_10_1⟩
  refine ⟨_, rfl, ?_⟩
  refine ⟨fun _ => h3_10_1, ?_⟩
  have L34 := L32.trans h3_10_1
  have f35 := (((((b0_2.le (h1_1.trans h1_2)).ch h1_3 (fun h => (show g1_2 ≠ g0_2 from by have := b0_2.lt; have := h1_1.size; omega) (Option.some.inj h))).le (h2_1_1.trans h2_2_1)).ch h2_3_1 (fun h => (show g2_2_1 ≠ g0_2 from by have := b0_2.lt; have := h1_1.size; have := h1_2.size; have := h1_3.size; have := h2_1_1.size; omega) (Option.some.inj h))).le (d3.trans (h3_4_1.trans (h3_9_1.trans h3_10_1))))
  refine G.ef0 rfl rfl rfl rfl ?_
  refine Ef.storeAll sz33 (by rfl) rfl rfl f35 (by rfl) (by simp [Value.oneCell']) ?_
  intro w3_11_1 b3_11_1 h3_11_1
  refine ⟨fun h => absurd h (ne_true_of_eq_false (by kernel_rfl)), ?_⟩
  have b3_11_1 : Blk w3_11_1 g0_2 33 #[.slice An3_10_1 ((digs ((lowF (p1 * 0) (q1 * 1)).n)).length) cn3_10_1, .slice Ad3_10_1 ((digs ((lowF (p1 * 0) (q1 * 1)).d)).length) cd3_10_1] := b3_11_1
  have L36 := L34.then_ h3_11_1 (fun q hq => by cases hq; exact Nat.le_trans L2.size hg0_2)
  refine G.nil (E.thenN (WC.ret ?_))
  have f37 := (on3_10_1.ch h3_11_1 (fun q hq => by cases hq; exact (fun he => by have := (on3_10_1.row he).1; have := b0_2.lt; have := h1_1.size; have := h1_2.size; have := h1_3.size; have := h2_1_1.size; have := h2_2_1.size; have := h2_3_1.size; have := d3.size; have := h3_4_1.size; have := h3_9_1.size; omega)))
  have f38 := (od3_10_1.ch h3_11_1 (fun q hq => by cases hq; exact (fun he => by have := (od3_10_1.row he).1; have := b0_2.lt; have := h1_1.size; have := h1_2.size; have := h1_3.size; have := h2_1_1.size; have := h2_2_1.size; have := h2_3_1.size; have := d3.size; have := h3_4_1.size; have := h3_9_1.size; omega)))
  refine E.retG1 rfl (resA rfl b3_11_1 ag33 (by rfl)) ?_
  rw [htk1, htk2]
  exact ⟨_, _, _, _, rfl, (f37.mono L32.size), (f38.mono L32.size), L36⟩
 have htk1 : takF ⟨p1, q1⟩ = ⟨0, 1⟩ := if_neg qc1_1
 refine W.cl go94 rfl rfl (rftaken_no w0_2 (hn1.le L3) (hd1.le L3) (by omega) (by omega) (by omega) (by omega) qc1_1) ?_
 rintro _ w1_1_1 ⟨An1_1_1, cn1_1_1, Ad1_1_1, cd1_1_1, rfl, on1_1_1, od1_1_1, h1_1_1⟩
 have L39 := L3.trans h1_1_1
 refine W.ef rfl rfl rfl ?_
 refine Ef.allocA z33 ?_
 intro g1_2_1 w1_2_1 hg1_2_1 b1_2_1 h1_2_1
 have L40 := L39.trans h1_2_1
 have b1_2_1 : Blk w1_2_1 g1_2_1 33 #[.slice none 0 0, .slice none 0 0] := b1_2_1
 refine W.ef0 rfl rfl ?_
 refine Ef.storeAll sz33 (by rfl) rfl rfl b1_2_1 (by rfl) (by simp [Value.oneCell']) ?_
 intro w1_3_1 b1_3_1 h1_3_1
 have b1_3_1 : Blk w1_3_1 g1_2_1 33 #[.slice An1_1_1 ((digs 0).length) cn1_1_1, .slice Ad1_1_1 ((digs 1).length) cd1_1_1] := b1_3_1
 have L41 := L40.then_ h1_3_1 (fun q hq => by cases hq; exact Nat.le_trans L39.size hg1_2_1)
 refine W.nx (WC.sr ?_)
 have f42 := ((b0_1.le (h0_2.trans (h1_1_1.trans h1_2_1))).ch h1_3_1 (fun h => (show g1_2_1 ≠ g0_1 from by have := b0_1.lt; have := h0_2.size; have := h1_1_1.size; omega) (Option.some.inj h)))
 refine W.r (.loadAll ag33 (by rfl) rfl f42) ?_
 by_cases qc2_1 : (okB p2 q2) = true
 ·have htk2 : takF ⟨p2, q2⟩ = ⟨p2, q2⟩ := if_pos qc2_1
  refine W.cl go94 rfl rfl (rftaken_yes w1_3_1 (hn2.le L41) (hd2.le L41) (by omega) (by omega) (by omega) (by omega) qc2_1) ?_
  rintro _ w2_1_2 ⟨rfl, h2_1_2⟩
  have L43 := L41.trans h2_1_2
  refine W.ef rfl rfl rfl ?_
  refine Ef.allocA z33 ?_
  intro g2_2_2 w2_2_2 hg2_2_2 b2_2_2 h2_2_2
  have L44 := L43.trans h2_2_2
  have b2_2_2 : Blk w2_2_2 g2_2_2 33 #[.slice none 0 0, .slice none 0 0] := b2_2_2
  refine W.ef0 rfl rfl ?_
  refine Ef.storeAll sz33 (by rfl) rfl rfl b2_2_2 (by rfl) (by simp [Value.oneCell']) ?_
  intro w2_3_2 b2_3_2 h2_3_2
  have b2_3_2 : Blk w2_3_2 g2_2_2 33 #[.slice An2 nn2 cn2, .slice Ad2 nd2 cd2] := b2_3_2
  have L45 := L44.then_ h2_3_2 (fun q hq => by cases hq; exact Nat.le_trans L43.size hg2_2_2)
  refine W.nx (WC.seq ?_)
  refine WC.draw [0, 1, 2, 3, 5, 6, 7, 8, 4, 9, 10, 11] mixed (by kernel_rfl) ?_
  intro w3 d3
  have L46 := L45.trans d3
  refine G.a rfl (.field0 fa33_0 rfl) ?_
  have f47 := (((b1_3_1.le (h2_1_2.trans h2_2_2)).ch h2_3_2 (fun h => (show g2_2_2 ≠ g1_2_1 from by have := b1_3_1.lt; have := h2_1_2.size; omega) (Option.some.inj h))).le d3)
  refine G.r rfl (.loadB (v := .slice An1_1_1 ((digs 0).length) cn1_1_1) na31 rfl f47 rfl) ?_
  refine G.a rfl (.field0 fa33_0 rfl) ?_
  have f48 := (b2_3_2.le d3)
  refine G.r rfl (.loadB (v := .slice An2 nn2 cn2) na31 rfl f48 rfl) ?_
  refine G.a rfl (.field0 fa33_1 rfl) ?_
  refine G.r rfl (.loadB (v := .slice Ad1_1_1 ((digs 1).length) cd1_1_1) na31 rfl f47 rfl) ?_
  refine G.a rfl (.field0 fa33_1 rfl) ?_
  refine G.r rfl (.loadB (v := .slice Ad2 nd2 cd2) na31 rfl f48 rfl) ?_
  have hm0 := digs_mul_len (takF ⟨p1, q1⟩).n (takF ⟨p2, q2⟩).n; have hm1 := digs_mul_len (takF ⟨p1, q1⟩).d (takF ⟨p2, q2⟩).d
  rw [htk1, htk2] at hm0 hm1
  simp only at hm0 hm1
  have f49 := (((((on1_1_1.le h1_2_1).ch h1_3_1 (fun q hq => by cases hq; exact (fun he => by have := (on1_1_1.row he).2; omega))).le (h2_1_2.trans h2_2_2)).ch h2_3_2 (fun q hq => by cases hq; exact (fun he => by have := (on1_1_1.row he).2; have := h1_2_1.size; have := h1_3_1.size; have := h2_1_2.size; omega))).le d3)
  refine G.ef rfl rfl rfl rfl rfl ?_
  refine Ef.call go95 rfl rfl (rnmul_ok w3 f49.vec (hn2.le L46) (by omega) (by omega)) ?_
  rintro _ w3_4_2 ⟨Ad3_4_2, cd3_4_2, rfl, o3_4_2, h3_4_2⟩
  refine ⟨_, rfl, ?_⟩
  refine ⟨fun _ => h3_4_2, ?_⟩
  have L50 := L46.trans h3_4_2
  have f51 := (((((od1_1_1.le h1_2_1).ch h1_3_1 (fun q hq => by cases hq; exact (fun he => by have := (od1_1_1.row he).2; omega))).le (h2_1_2.trans h2_2_2)).ch h2_3_2 (fun q hq => by cases hq; exact (fun he => by have := (od1_1_1.row he).2; have := h1_2_1.size; have := h1_3_1.size; have := h2_1_2.size; omega))).le (d3.trans h3_4_2))
  refine G.ef rfl rfl rfl rfl rfl ?_
  refine Ef.call go95 rfl rfl (rnmul_ok w3_4_2 f51.vec (hd2.le L50) (by omega) (by omega)) ?_
  rintro _ w3_9_2 ⟨Ad3_9_2, cd3_9_2, rfl, o3_9_2, h3_9_2⟩
  refine ⟨_, rfl, ?_⟩
  refine ⟨fun _ => h3_9_2, ?_⟩
  have L52 := L50.trans h3_9_2
  have f53 := (o3_4_2.le h3_9_2)
  refine G.ef rfl rfl rfl rfl rfl ?_
  refine Ef.call go92 rfl rfl (rflow_ok w3_9_2 f53.vec o3_9_2.vec f53.cap.1 o3_9_2.cap.1 (by rw [htk1, htk2] at hdp; exact hdp) (by omega) (by omega)) ?_
  rintro _ w3_10_2 ⟨An3_10_2, cn3_10_2, Ad3_10_2, cd3_10_2, rfl, on3_10_2, od3_10_2, h3_10_2⟩
  refine ⟨_, rfl, ?_⟩
  refine ⟨fun _ => h3_10_2, ?_⟩
  have L54 := L52.trans h3_10_2
  have f55 := (((((b0_2.le (h1_1_1.trans h1_2_1)).ch h1_3_1 (fun h => (show g1_2_1 ≠ g0_2 from by have := b0_2.lt; have := h1_1_1.size; omega) (Option.some.inj h))).le (h2_1_2.trans h2_2_2)).ch h2_3_2 (fun h => (show g2_2_2 ≠ g0_2 from by have := b0_2.lt; have := h1_1_1.size; have := h1_2_1.size; have := h1_3_1.size; have := h2_1_2.size; omega) (Option.some.inj h))).le (d3.trans (h3_4_2.trans (h3_9_2.trans h3_10_2))))
  refine G.ef0 rfl rfl rfl rfl ?_
  refine Ef.storeAll sz33 (by rfl) rfl rfl f55 (by rfl) (by simp [Value.oneCell']) ?_
  intro w3_11_2 b3_11_2 h3_11_2
  refine ⟨fun h => absurd h (ne_true_of_eq_false (by kernel_rfl)), ?_⟩
  have b3_11_2 : Blk w3_11_2 g0_2 33 #[.slice An3_10_2 ((digs ((lowF (0 * p2) (1 * q2)).n)).length) cn3_10_2, .slice Ad3_10_2 ((digs ((lowF (0 * p2) (1 * q2)).d)).length) cd3_10_2] := b3_11_2
  have L56 := L54.then_ h3_11_2 (fun q hq => by cases hq; exact Nat.le_trans L2.size hg0_2)
  refine G.nil (E.thenN (WC.ret ?_))
  have f57 := (on3_10_2.ch h3_11_2 (fun q hq => by cases hq; exact (fun he => by have := (on3_10_2.row he).1; have := b0_2.lt; have := h1_1_1.size; have := h1_2_1.size; have := h1_3_1.size; have := h2_1_2.size; have := h2_2_2.size; have := h2_3_2.size; have := d3.size; have := h3_4_2.size; have := h3_9_2.size; omega)))
  have f58 := (od3_10_2.ch h3_11_2 (fun q hq => by cases hq; exact (fun he => by have := (od3_10_2.row he).1; have := b0_2.lt; have := h1_1_1.size; have := h1_2_1.size; have := h1_3_1.size; have := h2_1_2.size; have := h2_2_2.size; have := h2_3_2.size; have := d3.size; have := h3_4_2.size; have := h3_9_2.size; omega)))
  refine E.retG1 rfl (resA rfl b3_11_2 ag33 (by rfl)) ?_
  rw [htk1, htk2]
  exact ⟨_, _, _, _, rfl, (f57.mono L52.size), (f58.mono L52.size), L56⟩
 have htk2 : takF ⟨p2, q2⟩ = ⟨0, 1⟩ := if_neg qc2_1
 refine W.cl go94 rfl rfl (rftaken_no w1_3_1 (hn2.le L41) (hd2.le L41) (by omega) (by omega) (by omega) (by omega) qc2_1) ?_
 rintro _ w2_1_3 ⟨An2_1_3, cn2_1_3, Ad2_1_3, cd2_1_3, rfl, on2_1_3, od2_1_3, h2_1_3⟩
 have L59 := L41.trans h2_1_3
 refine W.ef rfl rfl rfl ?_
 refine Ef.allocA z33 ?_
 intro g2_2_3 w2_2_3 hg2_2_3 b2_2_3 h2_2_3
 have L60 := L59.trans h2_2_3
 have b2_2_3 : Blk w2_2_3 g2_2_3 33 #[.slice none 0 0, .slice none 0 0] := b2_2_3
 refine W.ef0 rfl rfl ?_
 refine Ef.storeAll sz33 (by rfl) rfl rfl b2_2_3 (by rfl) (by simp [Value.oneCell']) ?_
 intro w2_3_3 b2_3_3 h2_3_3
 have b2_3_3 : Blk w2_3_3 g2_2_3 33 #[.slice An2_1_3 ((digs 0).length) cn2_1_3, .slice Ad2_1_3 ((digs 1).length) cd2_1_3] := b2_3_3
 have L61 := L60.then_ h2_3_3 (fun q hq => by cases hq; exact Nat.le_trans L59.size hg2_2_3)
 refine W.nx (WC.seq ?_)
 refine WC.draw [0, 1, 2, 3, 5, 6, 7, 8, 4, 9, 10, 11] mixed (by kernel_rfl) ?_
 intro w3 d3
 have L62 := L61.trans d3
 refine G.a rfl (.field0 fa33_0 rfl) ?_
 have f63 := (((b1_3_1.le (h2_1_3.trans h2_2_3)).ch h2_3_3 (fun h => (show g2_2_3 ≠ g1_2_1 from by have := b1_3_1.lt; have := h2_1_3.size; omega) (Option.some.inj h))).le d3)
 refine G.r rfl (.loadB (v := .slice An1_1_1 ((digs 0).length) cn1_1_1) na31 rfl f63 rfl) ?_
 refine G.a rfl (.field0 fa33_0 rfl) ?_
 have f64 := (b2_3_3.le d3)
 refine G.r rfl (.loadB (v := .slice An2_1_3 ((digs 0).length) cn2_1_3) na31 rfl f64 rfl) ?_
 refine G.a rfl (.field0 fa33_1 rfl) ?_
 refine G.r rfl (.loadB (v := .slice Ad1_1_1 ((digs 1).length) cd1_1_1) na31 rfl f63 rfl) ?_
 refine G.a rfl (.field0 fa33_1 rfl) ?_
 refine G.r rfl (.loadB (v := .slice Ad2_1_3 ((digs 1).length) cd2_1_3) na31 rfl f64 rfl) ?_
 have hm0 := digs_mul_len (takF ⟨p1, q1⟩).n (takF ⟨p2, q2⟩).n; have hm1 := digs_mul_len (takF ⟨p1, q1⟩).d (takF ⟨p2, q2⟩).d
 rw [htk1, htk2] at hm0 hm1
 simp only at hm0 hm1
 have f65 := (((((on1_1_1.le h1_2_1).ch h1_3_1 (fun q hq => by cases hq; exact (fun he => by have := (on1_1_1.row he).2; omega))).le (h2_1_3.trans h2_2_3)).ch h2_3_3 (fun q hq => by cases hq; exact (fun he => by have := (on1_1_1.row he).2; have := h1_2_1.size; have := h1_3_1.size; have := h2_1_3.size; omega))).le d3)
 have f66 := (((on2_1_3.le h2_2_3).ch h2_3_3 (fun q hq => by cases hq; exact (fun he => by have := (on2_1_3.row he).2; omega))).le d3)
 refine G.ef rfl rfl rfl rfl rfl ?_
 refine Ef.call go95 rfl rfl (rnmul_ok w3 f65.vec f66.vec (by omega) (by omega)) ?_
 rintro _ w3_4_3 ⟨Ad3_4_3, cd3_4_3, rfl, o3_4_3, h3_4_3⟩
 refine ⟨_, rfl, ?_⟩
 refine ⟨fun _ => h3_4_3, ?_⟩
 have L67 := L62.trans h3_4_3
 have f68 := (((((od1_1_1.le h1_2_1).ch h1_3_1 (fun q hq => by cases hq; exact (fun he => by have := (od1_1_1.row he).2; omega))).le (h2_1_3.trans h2_2_3)).ch h2_3_3 (fun q hq => by cases hq; exact (fun he => by have := (od1_1_1.row he).2; have := h1_2_1.size; have := h1_3_1.size; have := h2_1_3.size; omega))).le (d3.trans h3_4_3))
 have f69 := (((od2_1_3.le h2_2_3).ch h2_3_3 (fun q hq => by cases hq; exact (fun he => by have := (od2_1_3.row he).2; omega))).le (d3.trans h3_4_3))
 refine G.ef rfl rfl rfl rfl rfl ?_
 refine Ef.call go95 rfl rfl (rnmul_ok w3_4_3 f68.vec f69.vec (by omega) (by omega)) ?_
 rintro _ w3_9_3 ⟨Ad3_9_3, cd3_9_3, rfl, o3_9_3, h3_9_3⟩
 refine ⟨_, rfl, ?_⟩
 refine ⟨fun _ => h3_9_3, ?_⟩
 have L70 := L67.trans h3_9_3
 have f71 := (o3_4_3.le h3_9_3)
 refine G.ef rfl rfl rfl rfl rfl ?_
 refine Ef.call go92 rfl rfl (rflow_ok w3_9_3 f71.vec o3_9_3.vec f71.cap.1 o3_9_3.cap.1 (by rw [htk1, htk2] at hdp; exact hdp) (by omega) (by omega)) ?_
 rintro _ w3_10_3 ⟨An3_10_3, cn3_10_3, Ad3_10_3, cd3_10_3, rfl, on3_10_3, od3_10_3, h3_10_3⟩
 refine ⟨_, rfl, ?_⟩
 refine ⟨fun _ => h3_10_3, ?_⟩
 have L72 := L70.trans h3_10_3
 have f73 := (((((b0_2.le (h1_1_1.trans h1_2_1)).ch h1_3_1 (fun h => (show g1_2_1 ≠ g0_2 from by have := b0_2.lt; have := h1_1_1.size; omega) (Option.some.inj h))).le (h2_1_3.trans h2_2_3)).ch h2_3_3 (fun h => (show g2_2_3 ≠ g0_2 from by have := b0_2.lt; have := h1_1_1.size; have := h1_2_1.size; have := h1_3_1.size; have := h2_1_3.size; omega) (Option.some.inj h))).le (d3.trans (h3_4_3.trans (h3_9_3.trans h3_10_3))))
 refine G.ef0 rfl rfl rfl rfl ?_
 refine Ef.storeAll sz33 (by rfl) rfl rfl f73 (by rfl) (by simp [Value.oneCell']) ?_
 intro w3_11_3 b3_11_3 h3_11_3
 refine ⟨fun h => absurd h (ne_true_of_eq_false (by kernel_rfl)), ?_⟩
 have b3_11_3 : Blk w3_11_3 g0_2 33 #[.slice An3_10_3 ((digs ((lowF (0 * 0) (1 * 1)).n)).length) cn3_10_3, .slice Ad3_10_3 ((digs ((lowF (0 * 0) (1 * 1)).d)).length) cd3_10_3] := b3_11_3
 have L74 := L72.then_ h3_11_3 (fun q hq => by cases hq; exact Nat.le_trans L2.size hg0_2)
 refine G.nil (E.thenN (WC.ret ?_))
 have f75 := (on3_10_3.ch h3_11_3 (fun q hq => by cases hq; exact (fun he => by have := (on3_10_3.row he).1; have := b0_2.lt; have := h1_1_1.size; have := h1_2_1.size; have := h1_3_1.size; have := h2_1_3.size; have := h2_2_3.size; have := h2_3_3.size; have := d3.size; have := h3_4_3.size; have := h3_9_3.size; omega)))
 have f76 := (od3_10_3.ch h3_11_3 (fun q hq => by cases hq; exact (fun he => by have := (od3_10_3.row he).1; have := b0_2.lt; have := h1_1_1.size; have := h1_2_1.size; have := h1_3_1.size; have := h2_1_3.size; have := h2_2_3.size; have := h2_3_3.size; have := d3.size; have := h3_4_3.size; have := h3_9_3.size; omega)))
 refine E.retG1 rfl (resA rfl b3_11_3 ag33 (by rfl)) ?_
 rw [htk1, htk2]
 exact ⟨_, _, _, _, rfl, (f75.mono L70.size), (f76.mono L70.size), L74⟩
end Go.Proofs.YtmkdeemjkcigkaaGreatDoor

namespace Go.Proofs.YtmkdeemjkcigkaaGreatDoor
open Go Go.Sx Go.Num Go.Gsp Go.Nsp Go.Msp
set_option maxRecDepth 20000
structure Rw where
  f : Int
  c : Int
  lo : Int
  hi : Int
  rm : Int
def noRw : Rw := ⟨0, 0, 0, 0, 0⟩
def Rw.ky (r : Rw) : Wy := ⟨r.f, r.c⟩
def Rw.nt (r : Rw) : Nt := ⟨r.lo, r.hi, r.rm⟩
def rwV (r : Rw) : List Value := [.int .i64 r.f, .int .i64 r.c, .int .i64 r.lo, .int .i64 r.hi, .int .i64 r.rm]
theorem rwV_row : RowF rwV 5 := ⟨fun _ => rfl, fun x v hv => by simp [rwV] at hv; rcases hv with rfl | rfl | rfl | rfl | rfl <;> rfl, by decide⟩
def lookF : List Rw → Wy → Option Nt
  | [], _ => none
  | x :: l, k => if x.ky = k then some x.nt else lookF l k
def noteW : List Rw → Rw → List Rw
  | [], v => [v]
  | x :: l, v => if x.ky = v.ky then v :: l else x :: noteW l v
def UniqW (l : List Rw) : Prop := l.Pairwise fun a b => a.ky ≠ b.ky
theorem lookF_none {k : Wy} : ∀ {l : List Rw}, (∀ x ∈ l, x.ky ≠ k) → lookF l k = none
  | [], _ => rfl
  | x :: l, h => by
    unfold lookF
    rw [if_neg (h x (List.mem_cons_self ..))]
    exact lookF_none fun y hy => h y (List.mem_cons_of_mem _ hy)
theorem lookF_snoc (k : Wy) (x : Rw) : ∀ l : List Rw, lookF (l ++ [x]) k = match lookF l k with | some v => some v | none => if x.ky = k then some x.nt else none
  | [] => by simp [lookF]
  | y :: l => by
    rw [List.cons_append]
    unfold lookF
    split
    · rfl
    · exact lookF_snoc k x l
theorem getD_in' {α : Type} {l : List α} {z : α} {k : Nat} (h : k < l.length) : l.getD k z ∈ l := by
  have : l.getD k z = l[k] := by simp [List.getD, h]
  rw [this]; exact List.getElem_mem h
theorem UniqW.at {l : List Rw} (h : UniqW l) {i j : Nat} (hij : i < j) (hj : j < l.length) : (l.getD i noRw).ky ≠ (l.getD j noRw).ky := by
  have := List.pairwise_iff_getElem.1 h i j (by omega) hj hij
  simpa [List.getD, hj, show i < l.length by omega] using this
theorem take_next {l : List Rw} {i : Nat} (hi : i < l.length) : l.take (i + 1) = l.take i ++ [l.getD i noRw] := by
  rw [List.take_add_one]; simp [List.getD, hi]
theorem look_hit {l : List Rw} (h : UniqW l) {i : Nat} (hi : i < l.length) {k : Wy} (hk : (l.getD i noRw).ky = k) : lookF (l.take (i + 1)) k = some (l.getD i noRw).nt := by
  rw [take_next hi, lookF_snoc, lookF_none, if_pos hk]
  intro x hx
  obtain ⟨j, hj, rfl⟩ := List.mem_iff_getElem.1 hx
  rw [List.length_take] at hj
  have := h.at (show j < i by omega) hi
  rw [hk] at this
  simpa [List.getD, show j < l.length by omega] using this
theorem look_miss {l : List Rw} {i : Nat} (hi : i < l.length) {k : Wy} (hk : (l.getD i noRw).ky ≠ k) : lookF (l.take (i + 1)) k = lookF (l.take i) k := by
  rw [take_next hi, lookF_snoc, if_neg hk]
  cases lookF (l.take i) k <;> rfl
theorem noteW_look (v : Rw) (k : Wy) : ∀ l : List Rw, lookF (noteW l v) k = if k = v.ky then some v.nt else lookF l k
  | [] => by
    show (if v.ky = k then some v.nt else none) = _
    by_cases h : k = v.ky
    · rw [if_pos h, if_pos h.symm]
    · rw [if_neg h, if_neg (fun hh => h hh.symm)]; rfl
  | x :: l => by
    unfold noteW
    split
    · rename_i hx
      unfold lookF
      by_cases h : k = v.ky
      · rw [if_pos h, if_pos h.symm]
      · rw [if_neg h, if_neg (fun hh => h hh.symm), if_neg (fun hh => h (hh.symm.trans hx))]
    · rename_i hx
      unfold lookF
      by_cases h : x.ky = k
      · rw [if_pos h, if_pos h, if_neg (fun hh => hx (h.trans hh))]
      · rw [if_neg h, if_neg h]; exact noteW_look v k l
theorem noteW_mem {v : Rw} : ∀ {l : List Rw} {x : Rw}, x ∈ noteW l v → x = v ∨ x ∈ l
  | [], x, h => .inl (List.mem_singleton.1 h)
  | y :: l, x, h => by
    unfold noteW at h
    split at h
    · rcases List.mem_cons.1 h with h | h
      · exact .inl h
      · exact .inr (List.mem_cons_of_mem _ h)
    · rcases List.mem_cons.1 h with h | h
      · exact .inr (by rw [h]; exact List.mem_cons_self ..)
      · exact (noteW_mem h).imp id (List.mem_cons_of_mem _)
theorem noteW_uniq {v : Rw} : ∀ {l : List Rw}, UniqW l → UniqW (noteW l v)
  | [], _ => List.pairwise_singleton _ _
  | y :: l, h => by
    obtain ⟨h1, h2⟩ := List.pairwise_cons.1 h
    unfold noteW
    split
    · rename_i hy
      exact List.pairwise_cons.2 ⟨fun z hz => by rw [← hy]; exact h1 z hz, h2⟩
    · rename_i hy
      refine List.pairwise_cons.2 ⟨fun z hz => ?_, noteW_uniq h2⟩
      rcases noteW_mem hz with rfl | hz
      · exact hy
      · exact h1 z hz
theorem noteW_len {v : Rw} : ∀ l : List Rw, (noteW l v).length ≤ l.length + 1
  | [] => Nat.le_refl _
  | y :: l => by
    unfold noteW
    split
    · simp
    · have := noteW_len (v := v) l
      simp only [List.length_cons]; omega
theorem noteW_at {v : Rw} : ∀ {l : List Rw} {k : Nat}, k < l.length → (∀ j, j < k → (l.getD j noRw).ky ≠ v.ky) → (l.getD k noRw).ky = v.ky → noteW l v = l.set k v
  | [], _, h, _, _ => absurd h (Nat.not_lt_zero _)
  | y :: l, 0, _, _, h => by unfold noteW; rw [if_pos (show y.ky = v.ky from h)]; rfl
  | y :: l, k + 1, hk, h1, h2 => by
    unfold noteW
    rw [if_neg (show ¬ y.ky = v.ky from h1 0 (by omega))]
    rw [noteW_at (l := l) (k := k) (by simpa using hk) (fun j hj => h1 (j + 1) (by omega)) h2]
    rfl
theorem noteW_end {v : Rw} : ∀ {l : List Rw}, (∀ j, j < l.length → (l.getD j noRw).ky ≠ v.ky) → noteW l v = l ++ [v]
  | [], _ => rfl
  | y :: l, h => by
    unfold noteW
    rw [if_neg (show ¬ y.ky = v.ky from h 0 (by simp)), noteW_end (l := l) (fun j hj => h (j + 1) (by simp; omega))]
    rfl
theorem ky_eq {r : Rw} {e : Gsp.Edge} : r.ky = wyE e ↔ r.f = e.f ∧ r.c = e.c := by
  unfold Rw.ky wyE
  rw [Wy.mk.injEq]
set_option maxHeartbeats 1000000 in
theorem r37may_ok (e : Gsp.Edge) (w : World) : Calls Tryz.prog 55 #[.agg (edgeV e).toArray] w fun r w' => r = .returned (.bool (mayM e)) ∧ Le w w' := by
 refine enter Tryz.func55 rfl rfl ?_
 have L0 := Le.refl w
 refine WC.sr (W.ef rfl rfl rfl ?_)
 refine Ef.boxA rfl ?_
 intro g0_0 w0_0 hg0_0 b0_0 h0_0
 have L1 := L0.trans h0_0
 have b0_0 : Blk w0_0 g0_0 51 (edgeV e).toArray := b0_0
 refine W.run 1 rfl (W.nx (WC.sr ?_))
 refine W.a (.field0 fa51_0 rfl) ?_
 refine W.r (.loadB (v := .int .i64 (e.f)) na3 rfl b0_0 rfl) ?_
 refine W.run 1 rfl ?_
 by_cases q1_3 : 0 ≤ e.f
 ·refine W.dt q1_3 rfl rfl ?_
  refine W.g (Any.rd (.field0 fa51_0 rfl) _) ?_
  refine W.g (.loadB (v := .int .i64 (e.f)) na3 rfl b0_0 rfl) ?_
  refine W.run 2 rfl ?_
  by_cases q1_8 : e.f < 12
  ·refine W.dt q1_8 rfl rfl ?_
   refine W.g (Any.rd (.field0 fa51_1 rfl) _) ?_
   refine W.g (.loadB (v := .int .i64 (e.t)) na3 rfl b0_0 rfl) ?_
   refine W.run 2 rfl ?_
   by_cases q1_13 : 0 ≤ e.t
   ·refine W.dt q1_13 rfl rfl ?_
    refine W.g (Any.rd (.field0 fa51_1 rfl) _) ?_
    refine W.g (.loadB (v := .int .i64 (e.t)) na3 rfl b0_0 rfl) ?_
    refine W.run 2 rfl ?_
    by_cases q1_18 : e.t < 12
    ·refine W.dt q1_18 rfl rfl ?_
     refine W.g (Any.rd (.field0 fa51_0 rfl) _) ?_
     refine W.g (.loadB (v := .int .i64 (e.f)) na3 rfl b0_0 rfl) ?_
     refine W.g (Any.rd (.field0 fa51_1 rfl) _) ?_
     refine W.g (.loadB (v := .int .i64 (e.t)) na3 rfl b0_0 rfl) ?_
     refine W.run 3 rfl (W.nx (WC.sr (W.run 1 rfl ?_)))
     by_cases q2_1 : e.f ≠ e.t
     ·refine W.dt q2_1 rfl rfl ?_
      refine W.g (Any.rd (.field0 fa51_2 rfl) _) ?_
      refine W.g (.loadB (v := .int .i64 (e.c)) na3 rfl b0_0 rfl) ?_
      refine W.run 2 rfl ?_
      by_cases q2_6 : 0 ≤ e.c
      ·refine W.dt q2_6 rfl rfl ?_
       refine W.g (Any.rd (.field0 fa51_2 rfl) _) ?_
       refine W.g (.loadB (v := .int .i64 (e.c)) na3 rfl b0_0 rfl) ?_
       refine W.run 2 rfl ?_
       by_cases q2_11 : e.c < 1048576
       ·refine W.dt q2_11 rfl rfl ?_
        refine W.g (Any.rd (.field0 fa51_3 rfl) _) ?_
        refine W.g (.loadB (v := .int .i64 (e.r)) na3 rfl b0_0 rfl) ?_
        refine W.run 2 rfl ?_
        by_cases q2_16 : 1 ≤ e.r
        ·refine W.dt q2_16 rfl rfl ?_
         refine W.g (Any.rd (.field0 fa51_3 rfl) _) ?_
         refine W.g (.loadB (v := .int .i64 (e.r)) na3 rfl b0_0 rfl) ?_
         refine W.run 3 rfl (W.nx (WC.ret ?_))
         refine E.retG1 rfl rfl ?_
         exact ⟨rB (by unfold mayM ptyB; rw [Bool.eq_iff_iff]; simp only [Bool.and_eq_true, decide_eq_true_eq, Bool.false_eq_true, false_iff, not_and]; omega), L1⟩
        refine W.df q2_16 rfl rfl (W.run 5 rfl (W.nx (WC.ret ?_)))
        refine E.retG1 rfl rfl ?_
        exact ⟨rB (by unfold mayM ptyB; rw [Bool.eq_iff_iff]; simp only [Bool.and_eq_true, decide_eq_true_eq, Bool.false_eq_true, false_iff, not_and]; omega), L1⟩
       refine W.df q2_11 rfl rfl (W.run 10 rfl (W.nx (WC.ret ?_)))
       refine E.retG1 rfl rfl ?_
       exact ⟨rB (by unfold mayM ptyB; rw [Bool.eq_iff_iff]; simp only [Bool.and_eq_true, decide_eq_true_eq, Bool.false_eq_true, false_iff, not_and]; omega), L1⟩
      refine W.df q2_6 rfl rfl (W.run 15 rfl (W.nx (WC.ret ?_)))
      refine E.retG1 rfl rfl ?_
      exact ⟨rB (by unfold mayM ptyB; rw [Bool.eq_iff_iff]; simp only [Bool.and_eq_true, decide_eq_true_eq, Bool.false_eq_true, false_iff, not_and]; omega), L1⟩
     refine W.df q2_1 rfl rfl (W.run 20 rfl (W.nx (WC.ret ?_)))
     refine E.retG1 rfl rfl ?_
     exact ⟨rB (by unfold mayM ptyB; rw [Bool.eq_iff_iff]; simp only [Bool.and_eq_true, decide_eq_true_eq, Bool.false_eq_true, false_iff, not_and]; omega), L1⟩
    refine W.df q1_18 rfl rfl (W.run 7 rfl (W.nx (WC.sr (W.run 22 rfl (W.nx (WC.ret ?_))))))
    refine E.retG1 rfl rfl ?_
    exact ⟨rB (by unfold mayM ptyB; rw [Bool.eq_iff_iff]; simp only [Bool.and_eq_true, decide_eq_true_eq, Bool.false_eq_true, false_iff, not_and]; omega), L1⟩
   refine W.df q1_13 rfl rfl (W.run 12 rfl (W.nx (WC.sr (W.run 22 rfl (W.nx (WC.ret ?_))))))
   refine E.retG1 rfl rfl ?_
   exact ⟨rB (by unfold mayM ptyB; rw [Bool.eq_iff_iff]; simp only [Bool.and_eq_true, decide_eq_true_eq, Bool.false_eq_true, false_iff, not_and]; omega), L1⟩
  refine W.df q1_8 rfl rfl (W.run 17 rfl (W.nx (WC.sr (W.run 22 rfl (W.nx (WC.ret ?_))))))
  refine E.retG1 rfl rfl ?_
  exact ⟨rB (by unfold mayM ptyB; rw [Bool.eq_iff_iff]; simp only [Bool.and_eq_true, decide_eq_true_eq, Bool.false_eq_true, false_iff, not_and]; omega), L1⟩
 refine W.df q1_3 rfl rfl (W.run 22 rfl (W.nx (WC.sr (W.run 22 rfl (W.nx (WC.ret ?_))))))
 refine E.retG1 rfl rfl ?_
 exact ⟨rB (by unfold mayM ptyB; rw [Bool.eq_iff_iff]; simp only [Bool.and_eq_true, decide_eq_true_eq, Bool.false_eq_true, false_iff, not_and]; omega), L1⟩

theorem r37some_ok (e : Gsp.Edge) (a : Int) (w : World) : Calls Tryz.prog 72 #[.agg (edgeV e).toArray, .int .i64 (a)] w fun r w' => r = .returned (.bool (someM e a)) ∧ Le w w' := by
 refine enter Tryz.func72 rfl rfl ?_
 have L0 := Le.refl w
 refine WC.sr (W.ef rfl rfl rfl ?_)
 refine Ef.boxA rfl ?_
 intro g0_0 w0_0 hg0_0 b0_0 h0_0
 have L1 := L0.trans h0_0
 have b0_0 : Blk w0_0 g0_0 51 (edgeV e).toArray := b0_0
 refine W.run 1 rfl (W.nx (WC.sr ?_))
 refine W.r (.loadAll ag51 (by rfl) rfl b0_0) ?_
 refine W.cl go55 rfl rfl (r37may_ok e w0_0) ?_
 rintro _ w1_1 ⟨rfl, h1_1⟩
 have L2 := L1.trans h1_1
 by_cases q1_2 : (mayM e) = true
 ·refine W.a (.dec (.move rfl) (q1_2)) ?_
  refine W.run 3 rfl ?_
  by_cases q1_6 : 1 ≤ a
  ·refine W.dt q1_6 rfl rfl (W.run 1 rfl ?_)
   refine W.g (Any.rd (.field0 fa51_3 rfl) _) ?_
   have f3 := (b0_0.le h1_1)
   refine W.g (.loadB (v := .int .i64 (e.r)) na3 rfl f3 rfl) ?_
   refine W.run 3 rfl (W.nx (WC.ret ?_))
   refine E.retG1 rfl rfl ?_
   exact ⟨rB (by unfold someM; rw [Bool.eq_iff_iff]; simp [q1_2, q1_6] <;> omega), L2⟩
  refine W.df q1_6 rfl rfl (W.run 6 rfl (W.nx (WC.ret ?_)))
  refine E.retG1 rfl rfl ?_
  exact ⟨rB (by unfold someM; rw [Bool.eq_iff_iff]; simp [q1_2, q1_6] <;> omega), L2⟩
 refine W.a (.dec (.move rfl) ((Bool.eq_false_iff.2 q1_2))) ?_
 refine W.run 10 rfl (W.nx (WC.ret ?_))
 refine E.retG1 rfl rfl ?_
 exact ⟨rB (by unfold someM; rw [Bool.eq_iff_iff]; simp [q1_2] <;> omega), L2⟩

theorem r37count_ok {gp n c : Nat} {A : Option Addr} {ws : List Rw} (e : Gsp.Edge) (w : World) (hp : Blk w gp 110 #[.slice A n c]) (hV : Vec w rwV 5 A n ws) (hu : UniqW ws) (hok : ∀ x ∈ ws, okNt x.nt) (hrm : 0 ≤ e.r ∧ e.r ≤ 1125899906842624) (hn : n ≤ 1000000) : Calls Tryz.prog 56 #[.pointer (some ⟨gp, 0, none⟩), .agg (edgeV e).toArray] w fun r w' => r = .returned (.tuple #[.int .i64 (cnt (lookF ws (wyE e)) e.r).lo, .int .i64 (cnt (lookF ws (wyE e)) e.r).hi]) ∧ Le w w' := by
 have hl := hV.1
 refine enter Tryz.func56 rfl rfl ?_
 have L0 := Le.refl w
 refine WC.sr (W.ef rfl rfl rfl ?_)
 refine Ef.boxA rfl ?_
 intro g0_0 w0_0 hg0_0 b0_0 h0_0
 have L1 := L0.trans h0_0
 have b0_0 : Blk w0_0 g0_0 51 (edgeV e).toArray := b0_0
 refine W.run 2 rfl (W.nx (WC.sr (W.run 1 rfl (W.nx (WC.sr ?_)))))
 refine W.a (.field0 fa51_3 rfl) ?_
 refine W.r (.loadB (v := .int .i64 (e.r)) na3 rfl b0_0 rfl) ?_
 refine W.a (.add rfl rfl (by omega)) ?_
 refine W.run 1 rfl (W.nx (WC.seq (WC.sr (W.run 1 rfl (W.nx (WC.block ?_))))))
 refine WC.loop (ι := Nat) (fun k => [(0, .pointer (some ⟨gp, 0, none⟩)), (3, .pointer (some ⟨g0_0, 0, none⟩)), (6, .int .i64 ((cnt (lookF (ws.take k) (wyE e)) e.r).lo)), (7, .int .i64 ((cnt (lookF (ws.take k) (wyE e)) e.r).hi)), (8, .int .i64 (((k : Nat) : Int)))]) (fun k wl0 => (k ≤ n) ∧ Le w wl0 ∧ w0_0.heap.size ≤ wl0.heap.size ∧ Blk wl0 g0_0 51 (edgeV e).toArray) (fun k => n - k) 0 ?_ ?_ ?_
 ·exact .cons rfl (.cons rfl (.cons' rfl (int_eq rfl) (.cons' rfl (int_eq rfl) (.cons rfl (.nil _)))))
 ·exact ⟨Nat.zero_le _, L1, Nat.le_refl _, b0_0⟩
 rintro k wl0 ⟨hk, Ll0, zl0, f0_0⟩
 refine WC.seq (WC.sr (W.run 2 rfl ?_))
 refine W.a (.nilCheck rfl) ?_
 refine W.a (.field0 fa110_0 rfl) ?_
 refine W.r (.loadB (v := .slice A n c) na108 rfl (hp.le Ll0) rfl) ?_
 refine W.r (.len Tryz.underlying108 rfl) ?_
 refine W.run 1 rfl (W.nx ?_)
 by_cases c0 : ((k : Nat) : Int) < ((n : Nat) : Int)
 ·refine WC.condY rfl (decide_eq_true c0) ?_
  have hox := hok _ (getD_in' (z := noRw) (show k < ws.length by omega))
  unfold okNt Rw.nt at hox
  simp only at hox
  refine WC.sn (WC.seq (WC.block (WC.sr (W.run 1 rfl ?_))))
  refine W.a (.nilCheck rfl) ?_
  refine W.a (.field0 fa110_0 rfl) ?_
  refine W.r (.loadB (v := .slice A n c) na108 rfl (hp.le Ll0) rfl) ?_
  refine W.run 1 rfl ?_
  refine W.a (.idxS (k) Tryz.underlying108 sz126 rfl rfl (hV.isSome rwV_row (by omega)) (rfl) (by omega)) ?_
  refine W.r (.vload ag126 rfl (hV.le Ll0) rwV_row (getS ws noRw (by omega))) ?_
  refine W.ef rfl rfl rfl ?_
  refine Ef.allocA z126 ?_
  intro g6_7 w6_7 hg6_7 b6_7 h6_7
  have L2 := Ll0.trans h6_7
  have b6_7 : Blk w6_7 g6_7 126 (rwV noRw).toArray := b6_7
  refine W.ef0 rfl rfl ?_
  refine Ef.storeAll sz126 (by rfl) rfl rfl b6_7 (by simp only [List.size_toArray, rwV_row.len]) (rwV_row.one (ws.getD k noRw)) ?_
  intro w6_8 b6_8 h6_8
  have b6_8 : Blk w6_8 g6_7 126 (rwV (ws.getD k noRw)).toArray := b6_8
  have L3 := L2.then_ h6_8 (fun q hq => by cases hq; exact Nat.le_trans Ll0.size hg6_7)
  refine W.nx (WC.sr ?_)
  refine W.a (.field0 fa126_0 rfl) ?_
  refine W.r (.loadB (v := .int .i64 ((ws.getD k noRw).f)) na3 rfl b6_8 rfl) ?_
  refine W.a (.field0 fa51_0 rfl) ?_
  have f4 := ((f0_0.le h6_7).ch h6_8 (fun h => (show g6_7 ≠ g0_0 from by have := f0_0.lt; omega) (Option.some.inj h)))
  refine W.r (.loadB (v := .int .i64 (e.f)) na3 rfl f4 rfl) ?_
  refine W.run 1 rfl ?_
  by_cases q7_5 : ((ws.getD k noRw).f) = e.f
  ·refine W.dt q7_5 rfl rfl ?_
   refine W.g (Any.rd (.field0 fa126_1 rfl) _) ?_
   refine W.g (.loadB (v := .int .i64 ((ws.getD k noRw).c)) na3 rfl b6_8 rfl) ?_
   refine W.g (Any.rd (.field0 fa51_2 rfl) _) ?_
   refine W.g (.loadB (v := .int .i64 (e.c)) na3 rfl f4 rfl) ?_
   refine W.run 2 rfl (W.nx ?_)
   by_cases c1 : ((ws.getD k noRw).c) = e.c
   ·refine WC.condY rfl (decide_eq_true c1) ?_
    refine WC.sr ?_
    refine W.a (.field0 fa126_2 rfl) ?_
    refine W.r (.loadB (v := .int .i64 ((ws.getD k noRw).lo)) na3 rfl b6_8 rfl) ?_
    refine W.a (.field0 fa51_3 rfl) ?_
    refine W.r (.loadB (v := .int .i64 (e.r)) na3 rfl f4 rfl) ?_
    refine W.r (.min2 rfl rfl) ?_
    refine W.run 1 rfl (W.nx (WC.region ?_))
    refine W.a (.field0 fa126_3 rfl) ?_
    refine W.r (.loadB (v := .int .i64 ((ws.getD k noRw).hi)) na3 rfl b6_8 rfl) ?_
    refine W.a (.field0 fa51_3 rfl) ?_
    refine W.r (.loadB (v := .int .i64 (e.r)) na3 rfl f4 rfl) ?_
    refine W.a (.add rfl rfl (by omega)) ?_
    refine W.r (.min2 rfl rfl) ?_
    refine W.run 1 rfl ?_
    refine W.a (.add rfl rfl (by omega)) ?_
    refine W.r (.max2 rfl rfl) ?_
    refine W.run 1 rfl (W.nil (E.blkN (E.thenN (WC.region (W.run 1 rfl ?_)))))
    refine W.a (.add rfl rfl (by omega)) ?_
    refine W.run 1 rfl (W.nil ?_)
    refine E.again (k + 1) (.cons rfl (.cons rfl (.cons' rfl (int_eq (by rw [look_hit hu (by omega) (ky_eq.2 ⟨by omega, by omega⟩)]; simp only [cnt, Rw.nt])) (.cons' rfl (int_eq (by rw [look_hit hu (by omega) (ky_eq.2 ⟨by omega, by omega⟩)]; simp only [cnt, Rw.nt])) (.cons rfl (.nil _)))))) ?_ ?_
    ·exact ⟨by omega, L3, by have := zl0; have := h6_7.size; have := h6_8.size; omega, f4⟩
    first | omega | (simp only []; omega)
   refine WC.condN rfl (decide_eq_false c1) ?_
   refine WC.skip (E.blkN (E.thenN (WC.region (W.run 1 rfl ?_))))
   refine W.a (.add rfl rfl (by omega)) ?_
   refine W.run 1 rfl (W.nil ?_)
   refine E.again (k + 1) (.cons rfl (.cons rfl (.cons' rfl (int_eq (by rw [look_miss (by omega) (fun h => by have := ky_eq.1 h; omega)])) (.cons' rfl (int_eq (by rw [look_miss (by omega) (fun h => by have := ky_eq.1 h; omega)])) (.cons rfl (.nil _)))))) ?_ ?_
   ·exact ⟨by omega, L3, by have := zl0; have := h6_7.size; have := h6_8.size; omega, f4⟩
   first | omega | (simp only []; omega)
  refine W.df q7_5 rfl rfl (W.run 6 rfl (W.nx (WC.condF rfl (WC.skip (E.blkN (E.thenN (WC.region (W.run 1 rfl ?_))))))))
  refine W.a (.add rfl rfl (by omega)) ?_
  refine W.run 1 rfl (W.nil ?_)
  refine E.again (k + 1) (.cons rfl (.cons rfl (.cons' rfl (int_eq (by rw [look_miss (by omega) (fun h => by have := ky_eq.1 h; omega)])) (.cons' rfl (int_eq (by rw [look_miss (by omega) (fun h => by have := ky_eq.1 h; omega)])) (.cons rfl (.nil _)))))) ?_ ?_
  ·exact ⟨by omega, L3, by have := zl0; have := h6_7.size; have := h6_8.size; omega, f4⟩
  first | omega | (simp only []; omega)
 refine WC.condN rfl (decide_eq_false c0) ?_
 refine WC.exit (E.thenX (E.thenX (E.blkH (E.thenN (WC.sr (W.run 4 rfl (W.nx (WC.ret ?_))))))))
 refine E.retG2 rfl rfl rfl ?_
 have hke : k = ws.length := (by omega)
 subst hke
 rw [List.take_length]
 exact ⟨rfl, Ll0⟩

theorem r37note_ok {base gp n c : Nat} {A : Option Addr} {ws : List Rw} (e : Gsp.Edge) (lo hi : Int) (w : World) (hp0 : Blk w gp 110 #[.slice A n c]) (hS0 : OVec w base 126 rwV 5 A n c ws) (hne : rowOf A c ≠ some gp) (hbase : base ≤ w.heap.size) (hn : n ≤ 1000000) : Calls Tryz.prog 73 #[.pointer (some ⟨gp, 0, none⟩), .agg (edgeV e).toArray, .int .i64 (lo), .int .i64 (hi)] w fun r w' => r = .returned (.tuple #[]) ∧ ChP w w' (fun k => k = gp ∨ rowOf A c = some k) ∧ ∃ A' n' c', Blk w' gp 110 #[.slice A' n' c'] ∧ OVec w' base 126 rwV 5 A' n' c' (noteW ws (⟨e.f, e.c, lo, hi, e.r⟩ : Rw)) ∧ rowOf A' c' ≠ some gp ∧ (∀ q, rowOf A' c' = some q → rowOf A c = some q ∨ w.heap.size ≤ q) := by
 have hl := hS0.1
 refine enter Tryz.func73 rfl rfl ?_
 have L0 := ChP.refl w ((fun k => k = gp ∨ rowOf A c = some k))
 refine WC.sr (W.ef rfl rfl rfl ?_)
 refine Ef.boxA rfl ?_
 intro g0_0 w0_0 hg0_0 b0_0 h0_0
 have L1 := L0.le h0_0
 have b0_0 : Blk w0_0 g0_0 51 (edgeV e).toArray := b0_0
 refine W.nx (WC.sr ?_)
 refine W.a (.field0 fa51_0 rfl) ?_
 refine W.r (.loadB (v := .int .i64 (e.f)) na3 rfl b0_0 rfl) ?_
 refine W.a (.field0 fa51_2 rfl) ?_
 refine W.r (.loadB (v := .int .i64 (e.c)) na3 rfl b0_0 rfl) ?_
 refine W.run 2 rfl ?_
 refine W.a (.field0 fa51_3 rfl) ?_
 refine W.r (.loadB (v := .int .i64 (e.r)) na3 rfl b0_0 rfl) ?_
 refine W.a (.buildP (rwV (⟨e.f, e.c, lo, hi, e.r⟩ : Rw)) pl126 z126 rfl rfl) ?_
 refine W.ef rfl rfl rfl ?_
 refine Ef.allocA z126 ?_
 intro g1_9 w1_9 hg1_9 b1_9 h1_9
 have L2 := L1.le h1_9
 have b1_9 : Blk w1_9 g1_9 126 (rwV noRw).toArray := b1_9
 refine W.ef0 rfl rfl ?_
 refine Ef.storeAll sz126 (by rfl) rfl rfl b1_9 (by simp only [List.size_toArray, rwV_row.len]) (rwV_row.one (⟨e.f, e.c, lo, hi, e.r⟩ : Rw)) ?_
 intro w1_10 b1_10 h1_10
 have b1_10 : Blk w1_10 g1_9 126 (rwV (⟨e.f, e.c, lo, hi, e.r⟩ : Rw)).toArray := b1_10
 have L3 : ChP w w1_10 ((fun k => k = gp ∨ rowOf A c = some k)) := L2.ch h1_10 (fun i hi hlt => by cases hi; exact absurd hlt (by have := L1.size; have := hg1_9; omega))
 refine W.nx (WC.seq (WC.sr (W.run 1 rfl (W.nx (WC.block ?_)))))
 have f4 := ((hp0.le (h0_0.trans h1_9)).ch h1_10 (fun h => (show g1_9 ≠ gp from by have := hp0.lt; have := h0_0.size; omega) (Option.some.inj h)))
 have f5 := ((hS0.le (h0_0.trans h1_9)).ch h1_10 (fun q hq => by cases hq; exact (fun he => by have := (hS0.row he).2; have := h0_0.size; omega)))
 have f6 := ((b0_0.le h1_9).ch h1_10 (fun h => (show g1_9 ≠ g0_0 from by have := b0_0.lt; omega) (Option.some.inj h)))
 refine WC.loop (ι := Nat) (fun k => [(0, .pointer (some ⟨gp, 0, none⟩)), (5, .pointer (some ⟨g0_0, 0, none⟩)), (8, .pointer (some ⟨g1_9, 0, none⟩)), (9, .int .i64 (((k : Nat) : Int)))]) (fun k wl0 => (k ≤ n) ∧ (∀ j, j < k → (ws.getD j noRw).ky ≠ (⟨e.f, e.c, lo, hi, e.r⟩ : Rw).ky) ∧ ChP w wl0 ((fun k => k = gp ∨ rowOf A c = some k)) ∧ w1_10.heap.size ≤ wl0.heap.size ∧ Blk wl0 gp 110 #[.slice A n c] ∧ OVec wl0 base 126 rwV 5 A n c ws ∧ Blk wl0 g0_0 51 (edgeV e).toArray ∧ Blk wl0 g1_9 126 (rwV (⟨e.f, e.c, lo, hi, e.r⟩ : Rw)).toArray) (fun k => n - k) 0 ?_ ?_ ?_
 ·exact .cons rfl (.cons rfl (.cons rfl (.cons rfl (.nil _))))
 ·exact ⟨Nat.zero_le _, (fun j hj => absurd hj (Nat.not_lt_zero _)), L3, Nat.le_refl _, f4, f5, f6, b1_10⟩
 rintro k wl0 ⟨hk, hz, Ll0, zl0, f0_0, f0_1, f0_2, f0_3⟩
 refine WC.seq (WC.sr (W.run 2 rfl ?_))
 refine W.a (.nilCheck rfl) ?_
 refine W.a (.field0 fa110_0 rfl) ?_
 refine W.r (.loadB (v := .slice A n c) na108 rfl f0_0 rfl) ?_
 refine W.r (.len Tryz.underlying108 rfl) ?_
 refine W.run 1 rfl (W.nx ?_)
 by_cases c0 : ((k : Nat) : Int) < ((n : Nat) : Int)
 ·refine WC.condY rfl (decide_eq_true c0) ?_
  refine WC.sn (WC.seq (WC.block (WC.seq ?_)))
  refine WC.draw [0, 1, 2, 3, 4, 5, 6, 7, 8, 9, 10, 11, 12, 13, 14, 15, 16, 17, 18, 19, 20, 21, 22, 23] mixed (by kernel_rfl) ?_
  intro w5 d5
  have L7 := Ll0.le d5
  refine G.run 1 rfl ?_
  refine G.a rfl (.nilCheck rfl) ?_
  refine G.a rfl (.field0 fa110_0 rfl) ?_
  have f8 := (f0_0.le d5)
  refine G.r rfl (.loadB (v := .slice A n c) na108 rfl f8 rfl) ?_
  refine G.run 1 rfl ?_
  refine G.a rfl (.idxS (k) Tryz.underlying108 sz126 rfl rfl (hS0.vec.isSome rwV_row (by omega)) (rfl) (by omega)) ?_
  refine G.a rfl (.vfield fa126_0 (hS0.vec.isSome rwV_row (by omega)) rfl) ?_
  have f9 := (f0_1.le d5)
  refine G.r rfl (.vcell (j := k) (o := 0) (v := .int .i64 ((ws.getD k noRw).f)) na3 rfl f9.vec rwV_row (getS ws noRw (by omega)) rfl) ?_
  refine G.a rfl (.field0 fa51_0 rfl) ?_
  have f10 := (f0_2.le d5)
  refine G.r rfl (.loadB (v := .int .i64 (e.f)) na3 rfl f10 rfl) ?_
  refine G.run 1 rfl ?_
  by_cases q5_11 : ((ws.getD k noRw).f) = e.f
  ·refine G.a rfl (.dec (.move rfl) (decide_eq_true q5_11)) ?_
   refine G.run 1 rfl ?_
   refine G.ag rfl (.nilCheck rfl) ?_
   refine G.ag rfl (.field0 fa110_0 rfl) ?_
   refine G.rg rfl (.loadB (v := .slice A n c) na108 rfl f8 rfl) ?_
   refine G.run 1 rfl ?_
   refine G.ag rfl (.idxS (k) Tryz.underlying108 sz126 rfl rfl (hS0.vec.isSome rwV_row (by omega)) (rfl) (by omega)) ?_
   refine G.ag rfl (.vfield fa126_1 (hS0.vec.isSome rwV_row (by omega)) rfl) ?_
   refine G.rg rfl (.vcell (j := k) (o := 1) (v := .int .i64 ((ws.getD k noRw).c)) na3 rfl f9.vec rwV_row (getS ws noRw (by omega)) rfl) ?_
   refine G.ag rfl (.field0 fa51_2 rfl) ?_
   refine G.rg rfl (.loadB (v := .int .i64 (e.c)) na3 rfl f10 rfl) ?_
   refine G.run 2 rfl (G.nil (E.thenN ?_))
   by_cases c1 : ((ws.getD k noRw).c) = e.c
   ·refine WC.condY rfl (decide_eq_true c1) ?_
    refine WC.seq ?_
    refine WC.draw [0, 1, 2, 3, 4, 5, 6, 7] mixed (by kernel_rfl) ?_
    intro w6 d6
    have L11 := L7.le d6
    refine G.run 1 rfl ?_
    refine G.a rfl (.nilCheck rfl) ?_
    refine G.a rfl (.field0 fa110_0 rfl) ?_
    have f12 := (f8.le d6)
    refine G.r rfl (.loadB (v := .slice A n c) na108 rfl f12 rfl) ?_
    refine G.run 1 rfl ?_
    have f13 := (f0_3.le (d5.trans d6))
    refine G.r rfl (.loadAll ag126 (by rfl) rfl f13) ?_
    refine G.a rfl (.idxS (k) Tryz.underlying108 sz126 rfl rfl (hS0.vec.isSome rwV_row (by omega)) (rfl) (by omega)) ?_
    have f14 := (f9.le d6)
    refine G.ef0 rfl rfl rfl rfl ?_
    refine Ef.vput (j := k) (⟨e.f, e.c, lo, hi, e.r⟩ : Rw) sz126 rfl rfl rfl f14 rwV_row (by omega) ?_
    intro w6_7 o6_7 h6_7
    refine ⟨fun h => absurd h (ne_true_of_eq_false (by kernel_rfl)), ?_⟩
    have L15 : ChP w w6_7 ((fun k => k = gp ∨ rowOf A c = some k)) := L11.ch h6_7 (fun i hi _ => (fun i hi => Or.inr hi) i hi)
    refine G.nil (E.thenN (WC.ret (E.blkR (E.thenR (E.thenR (E.blkR (E.thenR ?_)))))))
    have f16 := (f12.ch h6_7 hne)
    refine E.ret0 rfl ?_
    have hnw : noteW ws (⟨e.f, e.c, lo, hi, e.r⟩ : Rw) = ws.set k (⟨e.f, e.c, lo, hi, e.r⟩ : Rw) := noteW_at (by omega) hz (ky_eq.2 ⟨by omega, by omega⟩)
    rw [hnw]
    exact ⟨rfl, L15, _, _, _, f16, o6_7, hne, fun q hq => .inl hq⟩
   refine WC.condN rfl (decide_eq_false c1) ?_
   refine WC.skip (E.blkN (E.thenN (WC.region (W.run 1 rfl ?_))))
   refine W.a (.add rfl rfl (by omega)) ?_
   refine W.run 1 rfl (W.nil ?_)
   have f17 := (f0_3.le d5)
   refine E.again (k + 1) (.cons rfl (.cons rfl (.cons rfl (.cons rfl (.nil _))))) ?_ ?_
   ·exact ⟨by omega, (fun j hj => by rcases Nat.lt_or_ge j k with h | h; exact hz j h; rw [show j = k by omega]; intro h9; have := (ky_eq (e := e)).1 h9; omega), L7, by have := zl0; have := d5.size; omega, f8, f9, f10, f17⟩
   first | omega | (simp only []; omega)
  refine G.a rfl (.dec (.move rfl) (decide_eq_false q5_11)) ?_
  refine G.run 12 rfl (G.nil (E.thenN (WC.condF rfl (WC.skip (E.blkN (E.thenN (WC.region (W.run 1 rfl ?_))))))))
  refine W.a (.add rfl rfl (by omega)) ?_
  refine W.run 1 rfl (W.nil ?_)
  have f18 := (f0_3.le d5)
  refine E.again (k + 1) (.cons rfl (.cons rfl (.cons rfl (.cons rfl (.nil _))))) ?_ ?_
  ·exact ⟨by omega, (fun j hj => by rcases Nat.lt_or_ge j k with h | h; exact hz j h; rw [show j = k by omega]; intro h9; have := (ky_eq (e := e)).1 h9; omega), L7, by have := zl0; have := d5.size; omega, f8, f9, f10, f18⟩
  first | omega | (simp only []; omega)
 refine WC.condN rfl (decide_eq_false c0) ?_
 refine WC.exit (E.thenX (E.thenX (E.blkH (E.thenN ?_))))
 refine WC.draw [0, 1, 2, 3, 4, 5, 6, 7, 8, 9, 10] mixed (by kernel_rfl) ?_
 intro w7 d7
 have L19 := Ll0.le d7
 refine G.run 2 rfl ?_
 refine G.a rfl (.nilCheck rfl) ?_
 refine G.a rfl (.field0 fa110_0 rfl) ?_
 have f20 := (f0_0.le d7)
 refine G.r rfl (.loadB (v := .slice A n c) na108 rfl f20 rfl) ?_
 have f21 := (f0_3.le d7)
 refine G.r rfl (.loadAll ag126 (by rfl) rfl f21) ?_
 refine G.ef rfl rfl rfl rfl rfl ?_
 refine Ef.buildSliceV (len := 1) [_] Tryz.underlying108 el126 rfl (by simp [Value.cells, rwV_row.len]) rfl (by decide) (by decide) ?_
 intro g7_6 w7_6 hg7_6 b7_6 h7_6
 refine ⟨fun _ => h7_6, ?_⟩
 have L22 := L19.le h7_6
 have b7_6 : Blk w7_6 g7_6 126 (([(⟨e.f, e.c, lo, hi, e.r⟩ : Rw)]).map rwV).flatten.toArray := b7_6
 have o7_6 : OVec w7_6 w7.heap.size 126 rwV 5 (some ⟨g7_6, 0, none⟩) 1 1 ([(⟨e.f, e.c, lo, hi, e.r⟩ : Rw)]) := b7_6.ovec hg7_6 rwV_row rfl rfl (by decide)
 have f23 := (f0_1.le (d7.trans h7_6))
 refine G.ef rfl rfl rfl rfl rfl ?_
 refine Ef.vpush (a := (⟨e.f, e.c, lo, hi, e.r⟩ : Rw)) Tryz.underlying108 el126 Tryz.underlying108 rwV_row rfl f23 rfl b7_6 (by omega) (by unfold maxLen; omega) (Nat.le_trans hbase (L22).size) ?_
 intro A7_7 c7_7 w7_7 o7_7 h7_7 at7_7
 refine ⟨fun h => absurd h (ne_true_of_eq_false (by kernel_rfl)), ?_⟩
 have L24 : ChP w w7_7 ((fun k => k = gp ∨ rowOf A c = some k)) := L22.ch h7_7 (fun i hi _ => (fun i hi => Or.inr hi) i hi)
 refine G.a rfl (.nilCheck rfl) ?_
 refine G.a rfl (.field0 fa110_0 rfl) ?_
 have f25 := ((f20.le h7_6).ch h7_7 hne)
 refine G.ef0 rfl rfl rfl rfl ?_
 refine Ef.store sz108 rfl rfl f25 (by first | decide | (simp; done)) (rfl) ?_
 intro w7_10 b7_10 h7_10
 refine ⟨fun h => absurd h (ne_true_of_eq_false (by kernel_rfl)), ?_⟩
 have b7_10 : Blk w7_10 gp 110 #[.slice A7_7 (n + 1) c7_7] := b7_10
 have L26 : ChP w w7_10 ((fun k => k = gp ∨ rowOf A c = some k)) := L24.ch h7_10 (fun i hi _ => by cases hi; exact Or.inl rfl)
 refine G.nil (E.end_ ?_)
 have f27 := (o7_7.ch h7_10 (fun q hq => by cases hq; exact (at7_7.off (by have := f20.lt; have := h7_6.size; omega) hne)))
 refine E.ret0 rfl ?_
 have hnw : noteW ws (⟨e.f, e.c, lo, hi, e.r⟩ : Rw) = ws ++ [(⟨e.f, e.c, lo, hi, e.r⟩ : Rw)] := noteW_end (fun j hj => hz j (by omega))
 rw [hnw]
 exact ⟨rfl, L26, _, _, _, b7_10, f27, (at7_7.off (by have := f20.lt; have := h7_6.size; omega) hne), fun q hq => (at7_7 q hq).elim (fun hz => .inl hz) (fun hz => .inr (by have := L0.size; have := L1.size; have := L2.size; have := L3.size; have := Ll0.size; have := L19.size; have := L22.size; have := L24.size; have := L26.size; omega))⟩
end Go.Proofs.YtmkdeemjkcigkaaGreatDoor

namespace Go.Proofs.YtmkdeemjkcigkaaGreatDoor
open Go Go.Sx Go.Num Go.Gsp Go.Nsp Go.Msp
set_option maxRecDepth 20000
def RMPool (w : World) (base gp : Nat) (F : Nat → Prop) (s : MF × Nat) : Prop := ∃ A n c ws, Blk w gp 110 #[.slice A n c] ∧ OVec w base 126 rwV 5 A n c ws ∧ rowOf A c ≠ some gp ∧ UniqW ws ∧ (∀ x ∈ ws, okNt x.nt) ∧ lookF ws = s.1 ∧ ws.length ≤ s.2 ∧ (∀ k, F k ↔ k = gp ∨ rowOf A c = some k) ∧ base ≤ gp
section
variable {w w' : World} {base gp : Nat} {F : Nat → Prop} {s : MF × Nat}
theorem RMPool.chP {F' : Nat → Prop} (h : RMPool w base gp F s) (hc : ChP w w' F') (hne : ∀ k, F k → ¬ F' k) : RMPool w' base gp F s := by
  obtain ⟨A, n, c, ws, h1, h2, h3, h4, h5, h6, h7, h8, h9⟩ := h
  exact ⟨A, n, c, ws, h1.chP hc (hne _ ((h8 _).2 (.inl rfl))), h2.chP hc (fun q hq => hne _ ((h8 _).2 (.inr hq))), h3, h4, h5, h6, h7, h8, h9⟩
theorem RMPool.ch {r : Option Nat} (h : RMPool w base gp F s) (hc : Ch w w' r) (hne : ∀ k, r = some k → ¬ F k) : RMPool w' base gp F s := h.chP (hc.chP (F := fun k => r = some k) (fun i hi => hi)) (fun k hk hr => hne k hr hk)
theorem RMPool.le (h : RMPool w base gp F s) (hl : Le w w') : RMPool w' base gp F s := h.chP (hl.chP (fun _ => False)) (fun _ _ hf => hf)
theorem RMPool.lt (h : RMPool w base gp F s) {k : Nat} (hk : F k) : k < w.heap.size := by
  obtain ⟨A, n, c, ws, h1, h2, h3, h4, h5, h6, h7, h8, h9⟩ := h
  rcases (h8 k).1 hk with rfl | hk
  · exact h1.lt
  · exact (h2.row hk).2
theorem RMPool.old (h : RMPool w base gp F s) {k : Nat} (hk : F k) : base ≤ k := by
  obtain ⟨A, n, c, ws, h1, h2, h3, h4, h5, h6, h7, h8, h9⟩ := h
  rcases (h8 k).1 hk with rfl | hk
  · exact h9
  · exact (h2.row hk).1
theorem RMPool.size (h : RMPool w base gp F s) : base ≤ w.heap.size := by
  obtain ⟨A, n, c, ws, h1, h2, h3, h4, h5, h6, h7, h8, h9⟩ := h
  have := h1.lt
  omega
theorem look_ok37 : ∀ {ws : List Rw}, (∀ x ∈ ws, okNt x.nt) → GoodM (lookF ws)
  | [], _, _, _, h => by cases h
  | x :: l, hx, k, v, h => by
    unfold lookF at h
    split at h
    · cases h; exact hx x (List.mem_cons_self ..)
    · exact look_ok37 (fun y hy => hx y (List.mem_cons_of_mem _ hy)) k v h
theorem RMPool.good (h : RMPool w base gp F s) : GoodM s.1 := by
  obtain ⟨A, n, c, ws, h1, h2, h3, h4, h5, h6, h7, h8, h9⟩ := h
  rw [← h6]; exact look_ok37 h5
theorem RMPool.up (h : RMPool w base gp F s) {m : MF} {N : Nat} (hm : s.1 = m) (hN : s.2 ≤ N) : RMPool w base gp F (m, N) := by
  obtain ⟨A, n, c, ws, h1, h2, h3, h4, h5, h6, h7, h8, h9⟩ := h
  exact ⟨A, n, c, ws, h1, h2, h3, h4, h5, h6.trans hm, Nat.le_trans h7 hN, h8, h9⟩
theorem count_rm (e : Gsp.Edge) (h : RMPool w base gp F s) (hrm : 0 ≤ e.r ∧ e.r ≤ 1125899906842624) (hN : s.2 ≤ 100000) : Calls Tryz.prog 56 #[.pointer (some ⟨gp, 0, none⟩), .agg (edgeV e).toArray] w fun r w' => r = .returned (.tuple #[.int .i64 (cnt (s.1 (wyE e)) e.r).lo, .int .i64 (cnt (s.1 (wyE e)) e.r).hi]) ∧ Le w w' := by
  obtain ⟨A, n, c, ws, h1, h2, h3, h4, h5, h6, h7, h8, h9⟩ := h
  have hl := h2.1
  rw [← h6]
  exact r37count_ok e w h1 h2.vec h4 h5 hrm (by omega)
theorem note_rm (e : Gsp.Edge) (lo hi : Int) (h : RMPool w base gp F s) (hok : okNt ⟨lo, hi, e.r⟩) (hN : s.2 ≤ 100000) : Calls Tryz.prog 73 #[.pointer (some ⟨gp, 0, none⟩), .agg (edgeV e).toArray, .int .i64 lo, .int .i64 hi] w fun r w' => r = .returned (.tuple #[]) ∧ ∃ F', RMPool w' base gp F' (setM s.1 ⟨e.f, e.c⟩ ⟨lo, hi, e.r⟩, s.2 + 1) ∧ GrownM w F F' ∧ ChP w w' F := by
  obtain ⟨A, n, c, ws, h1, h2, h3, h4, h5, h6, h7, h8, h9⟩ := h
  have hl := h2.1
  have h0 := h1.lt
  refine Calls.mono (r37note_ok e lo hi w h1 h2 h3 (by omega) (by omega)) ?_
  rintro r w' ⟨hr, hc, A', n', c', k1, k2, k3, k4⟩
  refine ⟨hr, fun k => k = gp ∨ rowOf A' c' = some k, ⟨A', n', c', _, k1, k2, k3, noteW_uniq h4, fun x hx => ?_, funext fun k => ?_, Nat.le_trans (noteW_len ws) (by omega), fun _ => Iff.rfl, h9⟩, fun k hk => ?_, hc.mono fun k hk _ => (h8 k).2 hk⟩
  · rcases noteW_mem hx with rfl | hx
    · exact hok
    · exact h5 x hx
  · rw [noteW_look, ← h6]; rfl
  · rcases hk with rfl | hk
    · exact .inl ((h8 _).2 (.inl rfl))
    · exact (k4 k hk).imp (fun hq => (h8 _).2 (.inr hq)) id
end
theorem r37new_ok (w : World) : Calls Tryz.prog 33 #[] w fun r w' => ∃ gp, r = .returned (.pointer (some ⟨gp, 0, none⟩)) ∧ Blk w' gp 110 #[.slice none 0 0] ∧ w.heap.size ≤ gp ∧ Le w w' := by
 refine enter Tryz.func33 rfl rfl ?_
 have L0 := Le.refl w
 refine WC.sr (W.run 1 rfl (W.nx (WC.sr ?_)))
 refine W.a (.buildP [.slice none 0 0] pl110 z110 rfl rfl) ?_
 refine W.ef rfl rfl rfl ?_
 refine Ef.boxA rfl ?_
 intro g1_1 w1_1 hg1_1 b1_1 h1_1
 have L1 := L0.trans h1_1
 have b1_1 : Blk w1_1 g1_1 110 #[.slice none 0 0] := b1_1
 refine W.run 1 rfl (W.nx (WC.ret ?_))
 refine E.retG1 rfl rfl ?_
 exact ⟨_, rfl, b1_1, (by have := hg1_1; have := L0.size; omega), L1⟩

theorem new_rm (w : World) : Calls Tryz.prog 33 #[] w fun r w' => ∃ gp F, r = .returned (.pointer (some ⟨gp, 0, none⟩)) ∧ RMPool w' w.heap.size gp F ((fun _ => none : MF), 0) ∧ Le w w' := by
  refine Calls.mono (r37new_ok w) ?_
  rintro r w' ⟨gp, hr, h1, h2, h3⟩
  exact ⟨gp, fun k => k = gp ∨ rowOf none 0 = some k, hr, ⟨none, 0, 0, [], h1, OVec.nil _ _ _ _ _ _, (by simp [rowOf]), List.Pairwise.nil, (fun x hx => by cases hx), rfl, Nat.le_refl _, fun _ => Iff.rfl, h2⟩, h3⟩

theorem rfail_rm {base gp : Nat} {F : Nat → Prop} {s : MF × Nat} (e : Gsp.Edge) (a : Int) (w : World) (hP : RMPool w base gp F s) (hN : s.2 ≤ 100000) : Calls Tryz.prog 34 #[.pointer (some ⟨gp, 0, none⟩), .agg (edgeV e).toArray, .int .i64 (a)] w fun r w' => r = .returned (.tuple #[]) ∧ ∃ F', RMPool w' base gp F' (failM s.1 e a, s.2 + 1) ∧ GrownM w F F' ∧ ChP w w' F := by
 have hgm := hP.good
 refine enter Tryz.func34 rfl rfl ?_
 have L0 := ChP.refl w (F)
 refine WC.sr (W.ef rfl rfl rfl ?_)
 refine Ef.boxA rfl ?_
 intro g0_0 w0_0 hg0_0 b0_0 h0_0
 have L1 := L0.le h0_0
 have b0_0 : Blk w0_0 g0_0 51 (edgeV e).toArray := b0_0
 refine W.nx (WC.sr ?_)
 refine W.r (.loadAll ag51 (by rfl) rfl b0_0) ?_
 refine W.run 1 rfl ?_
 refine W.cl go72 rfl rfl (r37some_ok e a w0_0) ?_
 rintro _ w1_2 ⟨rfl, h1_2⟩
 have L2 := L1.le h1_2
 refine W.nx ?_
 by_cases c0 : (someM e a) = true
 ·refine WC.condY rfl (c0) ?_
  have hsm := someM_T (by assumption : someM e a = true)
  have hmz := mayM_T hsm.1
  have hrm : 0 ≤ e.r ∧ e.r ≤ 1125899906842624 := by omega
  have hof := ofM_ok hgm (wyE e) (show 0 < e.r by omega) (show e.r ≤ 1125899906842624 by omega)
  unfold okNt ofM at hof
  refine WC.sr (W.run 1 rfl ?_)
  have f3 := (b0_0.le h1_2)
  refine W.r (.loadAll ag51 (by rfl) rfl f3) ?_
  have f4 := (hP.le (h0_0.trans h1_2))
  refine W.cl go56 rfl rfl (count_rm e f4 hrm (by omega)) ?_
  rintro _ w2_2 ⟨rfl, h2_2⟩
  have L5 := L2.le h2_2
  refine W.run 5 rfl (W.nx (WC.region (W.run 1 rfl ?_)))
  have f6 := (f3.le h2_2)
  refine W.r (.loadAll ag51 (by rfl) rfl f6) ?_
  refine W.run 2 rfl ?_
  refine W.a (.sub rfl rfl (by omega)) ?_
  refine W.r (.min2 rfl rfl) ?_
  refine W.run 2 rfl ?_
  refine W.r (.min2 rfl rfl) ?_
  have f7 := (f4.le h2_2)
  refine W.cl go73 rfl rfl (note_rm e (min ((cnt (s.1 (wyE e)) e.r).lo) (a - 1)) (min ((cnt (s.1 (wyE e)) e.r).hi) a) f7 (by unfold okNt; simp only; omega) (by omega)) ?_
  rintro _ w3_9 ⟨rfl, F3_9, p3_9, g3_9, h3_9⟩
  have L8 := L5.sub h3_9 (fun i hi hlt => hi)
  refine W.nil (E.end_ ?_)
  refine E.ret0 rfl ?_
  exact ⟨rfl, F3_9, (p3_9).up ((if_pos (by assumption)).symm) (Nat.le_refl _), (fun k hk => (g3_9 k hk).imp id (fun hz => Nat.le_trans L5.size hz)), L8⟩
 refine WC.condN rfl ((Bool.eq_false_iff.2 c0)) ?_
 refine WC.skip (E.end_ ?_)
 have f10 := (hP.le (h0_0.trans h1_2))
 refine E.ret0 rfl ?_
 exact ⟨rfl, F, (f10).up (if_neg (by assumption)).symm (Nat.le_succ _), fun k hk => .inl hk, L2⟩

theorem rpass_rm {base gp : Nat} {F : Nat → Prop} {s : MF × Nat} (e : Gsp.Edge) (a : Int) (w : World) (hP : RMPool w base gp F s) (hN : s.2 ≤ 100000) : Calls Tryz.prog 35 #[.pointer (some ⟨gp, 0, none⟩), .agg (edgeV e).toArray, .int .i64 (a)] w fun r w' => r = .returned (.tuple #[]) ∧ ∃ F', RMPool w' base gp F' (passM s.1 e a, s.2 + 1) ∧ GrownM w F F' ∧ ChP w w' F := by
 have hgm := hP.good
 refine enter Tryz.func35 rfl rfl ?_
 have L0 := ChP.refl w (F)
 refine WC.sr (W.ef rfl rfl rfl ?_)
 refine Ef.boxA rfl ?_
 intro g0_0 w0_0 hg0_0 b0_0 h0_0
 have L1 := L0.le h0_0
 have b0_0 : Blk w0_0 g0_0 51 (edgeV e).toArray := b0_0
 refine W.nx (WC.sr ?_)
 refine W.r (.loadAll ag51 (by rfl) rfl b0_0) ?_
 refine W.run 1 rfl ?_
 refine W.cl go72 rfl rfl (r37some_ok e a w0_0) ?_
 rintro _ w1_2 ⟨rfl, h1_2⟩
 have L2 := L1.le h1_2
 refine W.nx ?_
 by_cases c0 : (someM e a) = true
 ·refine WC.condY rfl (c0) ?_
  have hsm := someM_T (by assumption : someM e a = true)
  have hmz := mayM_T hsm.1
  have hrm : 0 ≤ e.r ∧ e.r ≤ 1125899906842624 := by omega
  have hof := ofM_ok hgm (wyE e) (show 0 < e.r by omega) (show e.r ≤ 1125899906842624 by omega)
  unfold okNt ofM at hof
  refine WC.sr (W.run 1 rfl ?_)
  have f3 := (b0_0.le h1_2)
  refine W.r (.loadAll ag51 (by rfl) rfl f3) ?_
  have f4 := (hP.le (h0_0.trans h1_2))
  refine W.cl go56 rfl rfl (count_rm e f4 hrm (by omega)) ?_
  rintro _ w2_2 ⟨rfl, h2_2⟩
  have L5 := L2.le h2_2
  refine W.run 5 rfl (W.nx (WC.region (W.run 1 rfl ?_)))
  have f6 := (f3.le h2_2)
  refine W.r (.loadAll ag51 (by rfl) rfl f6) ?_
  refine W.run 2 rfl ?_
  refine W.r (.max2 rfl rfl) ?_
  refine W.run 2 rfl ?_
  refine W.a (.add rfl rfl (by omega)) ?_
  refine W.r (.max2 rfl rfl) ?_
  have f7 := (f4.le h2_2)
  refine W.cl go73 rfl rfl (note_rm e (max ((cnt (s.1 (wyE e)) e.r).lo) a) (max ((cnt (s.1 (wyE e)) e.r).hi) (a + 1)) f7 (by unfold okNt; simp only; omega) (by omega)) ?_
  rintro _ w3_9 ⟨rfl, F3_9, p3_9, g3_9, h3_9⟩
  have L8 := L5.sub h3_9 (fun i hi hlt => hi)
  refine W.nil (E.end_ ?_)
  refine E.ret0 rfl ?_
  exact ⟨rfl, F3_9, (p3_9).up ((if_pos (by assumption)).symm) (Nat.le_refl _), (fun k hk => (g3_9 k hk).imp id (fun hz => Nat.le_trans L5.size hz)), L8⟩
 refine WC.condN rfl ((Bool.eq_false_iff.2 c0)) ?_
 refine WC.skip (E.end_ ?_)
 have f10 := (hP.le (h0_0.trans h1_2))
 refine E.ret0 rfl ?_
 exact ⟨rfl, F, (f10).up (if_neg (by assumption)).symm (Nat.le_succ _), fun k hk => .inl hk, L2⟩

theorem rbnd_rm {base gp : Nat} {F : Nat → Prop} {s : MF × Nat} (e : Gsp.Edge) (w : World) (hP : RMPool w base gp F s) (hN : s.2 ≤ 100000) : Calls Tryz.prog 21 #[.pointer (some ⟨gp, 0, none⟩), .agg (edgeV e).toArray] w fun r w' => r = .returned (.tuple #[.int .i64 (bndM s.1 e).1, .int .i64 (bndM s.1 e).2]) ∧ Le w w' := by
 refine enter Tryz.func21 rfl rfl ?_
 have L0 := Le.refl w
 refine WC.sr (W.ef rfl rfl rfl ?_)
 refine Ef.boxA rfl ?_
 intro g0_0 w0_0 hg0_0 b0_0 h0_0
 have L1 := L0.trans h0_0
 have b0_0 : Blk w0_0 g0_0 51 (edgeV e).toArray := b0_0
 refine W.run 2 rfl (W.nx (WC.seq (WC.sr ?_)))
 refine W.r (.loadAll ag51 (by rfl) rfl b0_0) ?_
 refine W.cl go55 rfl rfl (r37may_ok e w0_0) ?_
 rintro _ w1_1 ⟨rfl, h1_1⟩
 have L2 := L1.trans h1_1
 refine W.run 1 rfl (W.nx ?_)
 by_cases c0 : (mayM e) = true
 ·refine WC.condN rfl (congrArg not (c0)) ?_
  have hmy : mayM e = true := by assumption
  have hmz := mayM_T hmy
  have hrm : 0 ≤ e.r ∧ e.r ≤ 1125899906842624 := by omega
  refine WC.sn (WC.sr (W.run 1 rfl ?_))
  have f3 := (b0_0.le h1_1)
  refine W.r (.loadAll ag51 (by rfl) rfl f3) ?_
  have f4 := (hP.le (h0_0.trans h1_1))
  refine W.cl go56 rfl rfl (count_rm e f4 hrm (by omega)) ?_
  rintro _ w3_2 ⟨rfl, h3_2⟩
  have L5 := L2.trans h3_2
  refine W.run 4 rfl (W.nx (WC.ret ?_))
  refine E.retG2 rfl rfl rfl ?_
  exact ⟨(by first | rfl | (simp [bndM, ofM, c0]; done) | (simp [bndM, ofM, c0]; omega) | (simp [bndM, ofM, c0]; split <;> first | (exfalso; omega) | (simp; done) | (simp; omega))), L5⟩
 refine WC.condY rfl (congrArg not ((Bool.eq_false_iff.2 c0))) ?_
 refine WC.sr (W.run 2 rfl (W.nx (WC.ret (E.thenR ?_))))
 refine E.retG2 rfl rfl rfl ?_
 exact ⟨(by first | rfl | (simp [bndM, ofM, c0]; done) | (simp [bndM, ofM, c0]; omega) | (simp [bndM, ofM, c0]; split <;> first | (exfalso; omega) | (simp; done) | (simp; omega))), L2⟩

theorem rodds_rm {base gp : Nat} {F : Nat → Prop} {s : MF × Nat} (e : Gsp.Edge) (a : Int) (w : World) (hP : RMPool w base gp F s) (hN : s.2 ≤ 100000) : Calls Tryz.prog 49 #[.pointer (some ⟨gp, 0, none⟩), .agg (edgeV e).toArray, .int .i64 (a)] w fun r w' => ∃ A1 c1 A2 c2, r = .returned (.tuple #[.agg #[.slice A1 (digs (oddsM s.1 e a).n).length c1, .slice A2 (digs (oddsM s.1 e a).d).length c2], .bool (goesM e a)]) ∧ OVec w' w.heap.size 122 dv 1 A1 (digs (oddsM s.1 e a).n).length c1 (digs (oddsM s.1 e a).n) ∧ OVec w' w.heap.size 122 dv 1 A2 (digs (oddsM s.1 e a).d).length c2 (digs (oddsM s.1 e a).d) ∧ Le w w' := by
 have hgm := hP.good
 refine enter Tryz.func49 rfl rfl ?_
 have L0 := Le.refl w
 refine WC.sr (W.ef rfl rfl rfl ?_)
 refine Ef.boxA rfl ?_
 intro g0_0 w0_0 hg0_0 b0_0 h0_0
 have L1 := L0.trans h0_0
 have b0_0 : Blk w0_0 g0_0 51 (edgeV e).toArray := b0_0
 refine W.ef rfl rfl rfl ?_
 refine Ef.allocA z33 ?_
 intro g0_1 w0_1 hg0_1 b0_1 h0_1
 have L2 := L1.trans h0_1
 have b0_1 : Blk w0_1 g0_1 33 #[.slice none 0 0, .slice none 0 0] := b0_1
 refine W.run 1 rfl (W.nx (WC.seq (WC.sr ?_)))
 have f3 := (b0_0.le h0_1)
 refine W.r (.loadAll ag51 (by rfl) rfl f3) ?_
 refine W.cl go55 rfl rfl (r37may_ok e w0_1) ?_
 rintro _ w1_1 ⟨rfl, h1_1⟩
 have L4 := L2.trans h1_1
 refine W.run 1 rfl ?_
 by_cases q1_3 : (mayM e) = true
 ·refine W.a (.dec (.move rfl) (congrArg not (q1_3))) ?_
  refine W.run 3 rfl ?_
  by_cases q1_7 : a < 0
  ·refine W.dt q1_7 rfl rfl (W.run 5 rfl (W.nx (WC.condT rfl (WC.sr ?_))))
   refine W.a (.buildP [.slice none 0 0, .slice none 0 0] pl33 z33 rfl rfl) ?_
   have f5 := (b0_1.le h1_1)
   refine W.ef0 rfl rfl ?_
   refine Ef.storeAll sz33 (by rfl) rfl rfl f5 (by rfl) (by simp [Value.oneCell']) ?_
   intro w2_1 b2_1 h2_1
   have b2_1 : Blk w2_1 g0_1 33 #[.slice none 0 0, .slice none 0 0] := b2_1
   have L6 := L4.then_ h2_1 (fun q hq => by cases hq; exact Nat.le_trans L1.size hg0_1)
   refine W.run 1 rfl (W.nx (WC.ret (E.thenR ?_)))
   refine E.retG2 rfl (resA rfl b2_1 ag33 (by rfl)) rfl ?_
   have hgo : goesM e a = false := (by simp [goesM, q1_3, q1_7] <;> omega)
   have hod : oddsM s.1 e a = ⟨0, 0⟩ := by unfold oddsM; exact if_neg (by rw [hgo]; decide)
   rw [hod, hgo]
   exact ⟨none, 0, none, 0, by simp only [digs_zero]; rfl, by simp only [digs_zero]; exact OVec.nil _ _ _ _ _ _, by simp only [digs_zero]; exact OVec.nil _ _ _ _ _ _, L6⟩
  refine W.df q1_7 rfl rfl (W.run 1 rfl ?_)
  refine W.g (Any.rd (.field0 fa51_3 rfl) _) ?_
  have f7 := (f3.le h1_1)
  refine W.g (.loadB (v := .int .i64 (e.r)) na3 rfl f7 rfl) ?_
  refine W.run 2 rfl (W.nx ?_)
  by_cases c0 : e.r < a
  ·refine WC.condY rfl (decide_eq_true c0) ?_
   refine WC.sr ?_
   refine W.a (.buildP [.slice none 0 0, .slice none 0 0] pl33 z33 rfl rfl) ?_
   have f8 := (b0_1.le h1_1)
   refine W.ef0 rfl rfl ?_
   refine Ef.storeAll sz33 (by rfl) rfl rfl f8 (by rfl) (by simp [Value.oneCell']) ?_
   intro w2_1_1 b2_1_1 h2_1_1
   have b2_1_1 : Blk w2_1_1 g0_1 33 #[.slice none 0 0, .slice none 0 0] := b2_1_1
   have L9 := L4.then_ h2_1_1 (fun q hq => by cases hq; exact Nat.le_trans L1.size hg0_1)
   refine W.run 1 rfl (W.nx (WC.ret (E.thenR ?_)))
   refine E.retG2 rfl (resA rfl b2_1_1 ag33 (by rfl)) rfl ?_
   have hgo : goesM e a = false := (by simp [goesM, q1_3, q1_7, c0] <;> omega)
   have hod : oddsM s.1 e a = ⟨0, 0⟩ := by unfold oddsM; exact if_neg (by rw [hgo]; decide)
   rw [hod, hgo]
   exact ⟨none, 0, none, 0, by simp only [digs_zero]; rfl, by simp only [digs_zero]; exact OVec.nil _ _ _ _ _ _, by simp only [digs_zero]; exact OVec.nil _ _ _ _ _ _, L9⟩
  refine WC.condN rfl (decide_eq_false c0) ?_
  have hmy : mayM e = true := by assumption
  have hmb := bndM_ok hgm hmy
  have hmz := mayM_T hmy
  have hrm : 0 ≤ e.r ∧ e.r ≤ 1125899906842624 := by omega
  have hbe : bndM s.1 e = ((cnt (s.1 (wyE e)) e.r).lo, (cnt (s.1 (wyE e)) e.r).hi) := by unfold bndM ofM; rw [if_pos hmy]
  rw [hbe] at hmb
  simp only at hmb
  refine WC.sn (WC.sr (W.run 1 rfl ?_))
  refine W.r (.loadAll ag51 (by rfl) rfl f7) ?_
  have f10 := (hP.le (h0_0.trans (h0_1.trans h1_1)))
  refine W.cl go56 rfl rfl (count_rm e f10 hrm (by omega)) ?_
  rintro _ w3_2 ⟨rfl, h3_2⟩
  have L11 := L4.trans h3_2
  refine W.run 5 rfl (W.nx (WC.sr (W.run 4 rfl ?_)))
  refine W.r (.min2 rfl rfl) ?_
  refine W.r (.max2 rfl rfl) ?_
  refine W.a (.sub rfl rfl (by omega)) ?_
  refine W.run 1 rfl (W.nx (WC.sr (W.run 1 rfl ?_)))
  obtain ⟨nn, hnn⟩ := Int.eq_ofNat_of_zero_le (show 0 ≤ (cnt (s.1 (wyE e)) e.r).hi - max (cnt (s.1 (wyE e)) e.r).lo (min a (cnt (s.1 (wyE e)) e.r).hi) by omega)
  have hnn' : oddN s.1 e a = (nn : Int) := by unfold oddN; rw [hbe]; simp only; omega
  refine W.r (.as (.idI (isS Tryz.underlying3) Tryz.underlying57 rfl (IntWalk.u64_in _ (by omega))) (by rw [hnn])) ?_
  refine W.run 2 rfl ?_
  refine W.a (.sub rfl rfl (by omega)) ?_
  obtain ⟨dd, hdd⟩ := Int.eq_ofNat_of_zero_le (show 0 ≤ (cnt (s.1 (wyE e)) e.r).hi - (cnt (s.1 (wyE e)) e.r).lo by omega)
  have hdd' : oddD s.1 e = (dd : Int) := by unfold oddD; rw [hbe]; exact hdd
  refine W.r (.as (.idI (isS Tryz.underlying3) Tryz.underlying57 rfl (IntWalk.u64_in _ (by omega))) (by rw [hdd])) ?_
  refine W.cl go48 rfl rfl (rfof_ok nn dd w3_2 (by omega) (by omega) (by omega)) ?_
  rintro _ w5_6 ⟨An5_6, cn5_6, Ad5_6, cd5_6, rfl, on5_6, od5_6, h5_6⟩
  have L12 := L11.trans h5_6
  refine W.run 1 rfl ?_
  refine W.a (.extract (v := .agg #[.slice An5_6 ((digs ((lowF nn dd).n)).length) cn5_6, .slice Ad5_6 ((digs ((lowF nn dd).d)).length) cd5_6]) rfl rfl) ?_
  refine W.run 1 rfl (W.ef rfl rfl rfl ?_)
  refine Ef.allocA z33 ?_
  intro g5_10 w5_10 hg5_10 b5_10 h5_10
  have L13 := L12.trans h5_10
  have b5_10 : Blk w5_10 g5_10 33 #[.slice none 0 0, .slice none 0 0] := b5_10
  refine W.ef0 rfl rfl ?_
  refine Ef.storeAll sz33 (by rfl) rfl rfl b5_10 (by rfl) (by simp [Value.oneCell']) ?_
  intro w5_11 b5_11 h5_11
  have b5_11 : Blk w5_11 g5_10 33 #[.slice An5_6 ((digs ((lowF nn dd).n)).length) cn5_6, .slice Ad5_6 ((digs ((lowF nn dd).d)).length) cd5_6] := b5_11
  have L14 := L13.then_ h5_11 (fun q hq => by cases hq; exact Nat.le_trans L12.size hg5_10)
  refine W.run 1 rfl (W.nx (WC.sr ?_))
  refine W.r (.loadAll ag33 (by rfl) rfl b5_11) ?_
  have f15 := ((b0_1.le (h1_1.trans (h3_2.trans (h5_6.trans h5_10)))).ch h5_11 (fun h => (show g5_10 ≠ g0_1 from by have := b0_1.lt; have := h1_1.size; have := h3_2.size; have := h5_6.size; omega) (Option.some.inj h)))
  refine W.ef0 rfl rfl ?_
  refine Ef.storeAll sz33 (by rfl) rfl rfl f15 (by rfl) (by simp [Value.oneCell']) ?_
  intro w6_1 b6_1 h6_1
  have b6_1 : Blk w6_1 g0_1 33 #[.slice An5_6 ((digs ((lowF nn dd).n)).length) cn5_6, .slice Ad5_6 ((digs ((lowF nn dd).d)).length) cd5_6] := b6_1
  have L16 := L14.then_ h6_1 (fun q hq => by cases hq; exact Nat.le_trans L1.size hg0_1)
  refine W.run 1 rfl (W.nx (WC.ret ?_))
  have f17 := (((on5_6.le h5_10).ch h5_11 (fun q hq => by cases hq; exact (fun he => by have := (on5_6.row he).2; omega))).ch h6_1 (fun q hq => by cases hq; exact (fun he => by have := (on5_6.row he).1; have := b0_1.lt; have := h1_1.size; have := h3_2.size; omega)))
  have f18 := (((od5_6.le h5_10).ch h5_11 (fun q hq => by cases hq; exact (fun he => by have := (od5_6.row he).2; omega))).ch h6_1 (fun q hq => by cases hq; exact (fun he => by have := (od5_6.row he).1; have := b0_1.lt; have := h1_1.size; have := h3_2.size; omega)))
  refine E.retG2 rfl (resA rfl b6_1 ag33 (by rfl)) rfl ?_
  have hgo : goesM e a = true := (by simp [goesM, q1_3, q1_7, c0] <;> omega)
  have hod : oddsM s.1 e a = lowF nn dd := by unfold oddsM; rw [if_pos hgo, show oddN s.1 e a = (nn : Int) from hnn', show oddD s.1 e = (dd : Int) from hdd']; rfl
  rw [hod, hgo]
  exact ⟨_, _, _, _, rfl, (f17.mono L11.size), (f18.mono L11.size), L16⟩
 refine W.a (.dec (.move rfl) (congrArg not ((Bool.eq_false_iff.2 q1_3)))) ?_
 refine W.run 9 rfl (W.nx (WC.condT rfl (WC.sr ?_)))
 refine W.a (.buildP [.slice none 0 0, .slice none 0 0] pl33 z33 rfl rfl) ?_
 have f19 := (b0_1.le h1_1)
 refine W.ef0 rfl rfl ?_
 refine Ef.storeAll sz33 (by rfl) rfl rfl f19 (by rfl) (by simp [Value.oneCell']) ?_
 intro w2_1_2 b2_1_2 h2_1_2
 have b2_1_2 : Blk w2_1_2 g0_1 33 #[.slice none 0 0, .slice none 0 0] := b2_1_2
 have L20 := L4.then_ h2_1_2 (fun q hq => by cases hq; exact Nat.le_trans L1.size hg0_1)
 refine W.run 1 rfl (W.nx (WC.ret (E.thenR ?_)))
 refine E.retG2 rfl (resA rfl b2_1_2 ag33 (by rfl)) rfl ?_
 have hgo : goesM e a = false := (by simp [goesM, q1_3] <;> omega)
 have hod : oddsM s.1 e a = ⟨0, 0⟩ := by unfold oddsM; exact if_neg (by rw [hgo]; decide)
 rw [hod, hgo]
 exact ⟨none, 0, none, 0, by simp only [digs_zero]; rfl, by simp only [digs_zero]; exact OVec.nil _ _ _ _ _ _, by simp only [digs_zero]; exact OVec.nil _ _ _ _ _ _, L20⟩
end Go.Proofs.YtmkdeemjkcigkaaGreatDoor

namespace Go.Proofs.YtmkdeemjkcigkaaGreatDoor
open Go Go.Sx Go.Num Go.Osp Go.Gsp Go.Rtp
set_option maxRecDepth 20000
def AlE (p q : Gsp.Edge) : Prop := p.c = q.c → p.f = q.t ∧ p.t = q.f ∧ p.r = q.r
structure RtI (g : List Gsp.Edge) (k : Nat) : Prop where
  ok : ∀ i, i < k → edgeOk (g.getD i noEdge) = true
  up : ∀ i, i + 1 < k → ordE (g.getD i noEdge) (g.getD (i + 1) noEdge) < 0
  al : ∀ p i, p < i → i < k → AlE (g.getD p noEdge) (g.getD i noEdge)
def RtJ (g : List Gsp.Edge) (k p : Nat) : Prop := ∀ j, j < p → AlE (g.getD j noEdge) (g.getD k noEdge)
theorem RtI.next {g : List Gsp.Edge} {k : Nat} (h : RtI g k) (h1 : edgeOk (g.getD k noEdge) = true) (h2 : 0 < k → ordE (g.getD (k - 1) noEdge) (g.getD k noEdge) < 0) (h3 : RtJ g k k) : RtI g (k + 1) := by
  refine ⟨fun i hi => ?_, fun i hi => ?_, fun p i hp hi => ?_⟩
  · rcases Nat.lt_or_ge i k with q | q
    · exact h.ok i q
    · rw [show i = k by omega]; exact h1
  · rcases Nat.lt_or_ge (i + 1) k with q | q
    · exact h.up i q
    · have := h2 (by omega)
      rwa [show k - 1 = i by omega, show k = i + 1 by omega] at this
  · rcases Nat.lt_or_ge i k with q | q
    · exact h.al p i hp q
    · rw [show i = k by omega]; exact h3 p (by omega)
theorem RtI.done {g : List Gsp.Edge} (h : RtI g g.length) : rightG g = true := by
  have ho : ∀ d i, i + d + 1 < g.length → (g.getD i noEdge).c < (g.getD (i + d + 1) noEdge).c ∨ ((g.getD i noEdge).c = (g.getD (i + d + 1) noEdge).c ∧ (g.getD i noEdge).f < (g.getD (i + d + 1) noEdge).f) := by
    intro d
    induction d with
    | zero => intro i hi; exact ordE_lt.1 (h.up i hi)
    | succ d ih =>
      intro i hi
      have h1 := ih i (by omega)
      have h2 := ordE_lt.1 (h.up (i + d + 1) hi)
      rw [show i + (d + 1) + 1 = i + d + 1 + 1 by omega]
      omega
  refine right_of_pw h.ok fun i j hij hj => ⟨?_, h.al i j hij hj⟩
  have := ho (j - i - 1) i (by omega)
  rwa [show i + (j - i - 1) + 1 = j by omega] at this
theorem RtJ.next {g : List Gsp.Edge} {k p : Nat} (h : RtJ g k p) (h1 : AlE (g.getD p noEdge) (g.getD k noEdge)) : RtJ g k (p + 1) := fun j hj => by
  rcases Nat.lt_or_ge j p with q | q
  · exact h j q
  · rw [show j = p by omega]; exact h1
theorem not_right {g : List Gsp.Edge} {k : Nat} (hk : k < g.length) (h : edgeOk (g.getD k noEdge) = false ∨ (0 < k ∧ ¬ ordE (g.getD (k - 1) noEdge) (g.getD k noEdge) < 0) ∨ ∃ p, p < k ∧ ¬ AlE (g.getD p noEdge) (g.getD k noEdge)) : rightG g = false := by
  refine Bool.eq_false_iff.2 fun hr => ?_
  obtain ⟨h1, h2⟩ := right_pw hr
  rcases h with q | ⟨q0, q⟩ | ⟨p, q0, q⟩
  · rw [h1 k hk] at q; cases q
  · exact q (ordE_lt.2 (h2 (k - 1) k (by omega) hk).1)
  · exact q (h2 p k q0 hk).2
set_option maxHeartbeats 1000000 in
theorem r36right_ok {A : Option Addr} {n c : Nat} {xs : List Gsp.Edge} (w : World) (hV : Vec w edgeV 9 A n xs) (hn : n ≤ 1000000) : Calls Tryz.prog 42 #[.slice A n c] w fun r w' => r = .returned (.bool (rightG xs)) ∧ Le w w' := by
 have hl := hV.1
 refine enter Tryz.func42 rfl rfl ?_
 have L0 := Le.refl w
 refine WC.sr (W.run 1 rfl (W.nx (WC.seq (WC.sr (W.run 1 rfl (W.nx (WC.block ?_)))))))
 refine WC.loop (ι := Nat) (fun k => [(0, .slice A n c), (3, .int .i64 (((k : Nat) : Int)))]) (fun k wl0 => (k ≤ n) ∧ (RtI xs k) ∧ Le w wl0 ∧ w.heap.size ≤ wl0.heap.size) (fun k => n - k) 0 ?_ ?_ ?_
 ·exact .cons rfl (.cons rfl (.nil _))
 ·exact ⟨Nat.zero_le _, ⟨fun i hi => absurd hi (Nat.not_lt_zero _), fun i hi => absurd hi (Nat.not_lt_zero _), fun p i _ hi => absurd hi (Nat.not_lt_zero _)⟩, L0, Nat.le_refl _⟩
 rintro k wl0 ⟨hk, hri, Ll0, zl0⟩
 refine WC.seq (WC.sr (W.run 2 rfl ?_))
 refine W.r (.len Tryz.underlying22 rfl) ?_
 refine W.run 1 rfl (W.nx ?_)
 by_cases c0 : ((k : Nat) : Int) < ((n : Nat) : Int)
 ·refine WC.condY rfl (decide_eq_true c0) ?_
  refine WC.sn (WC.seq (WC.block (WC.seq (WC.seq ?_))))
  refine WC.draw [0, 1, 2, 3, 4, 5, 6, 7, 8, 9, 10, 11, 12, 13, 14, 15, 16, 17, 18, 19, 20, 21, 22] mixed (by kernel_rfl) ?_
  intro w4 d4
  have L1 := Ll0.trans d4
  refine G.run 2 rfl ?_
  refine G.a rfl (.idxS (k) Tryz.underlying22 sz51 rfl rfl (hV.isSome edgeV_row (by omega)) (rfl) (by omega)) ?_
  refine G.r rfl (.vload ag51 rfl (hV.le L1) edgeV_row (getS xs noEdge (by omega))) ?_
  refine G.ef rfl rfl rfl rfl rfl ?_
  refine Ef.call go80 rfl rfl (r36edge_ok (xs.getD k noEdge) w4) ?_
  rintro _ w4_4 ⟨rfl, h4_4⟩
  refine ⟨_, rfl, ?_⟩
  refine ⟨fun _ => h4_4, ?_⟩
  have L2 := L1.trans h4_4
  refine G.run 1 rfl ?_
  by_cases q4_6 : (edgeOk (xs.getD k noEdge)) = true
  ·refine G.a rfl (.dec (.move rfl) (congrArg not (q4_6))) ?_
   refine G.run 2 rfl ?_
   by_cases q4_9 : 0 < ((k : Nat) : Int)
   ·refine G.ag rfl (.dec (.move rfl) (decide_eq_true q4_9)) ?_
    refine G.run 2 rfl ?_
    refine G.ag rfl (.sub rfl rfl (by omega)) ?_
    refine G.ag rfl (.idxS ((k - 1)) Tryz.underlying22 sz51 rfl rfl (hV.isSome edgeV_row (by omega)) (by omega) (by omega)) ?_
    refine G.rg rfl (.vload ag51 rfl (hV.le L2) edgeV_row (getS xs noEdge (by omega))) ?_
    refine G.run 2 rfl ?_
    refine G.ag rfl (.idxS (k) Tryz.underlying22 sz51 rfl rfl (hV.isSome edgeV_row (by omega)) (rfl) (by omega)) ?_
    refine G.rg rfl (.vload ag51 rfl (hV.le L2) edgeV_row (getS xs noEdge (by omega))) ?_
    refine G.efg rfl rfl rfl rfl rfl (rfl) rfl rfl ?_
    refine Ef.call go81 rfl rfl (ahead_ok (xs.getD (k - 1) noEdge) (xs.getD k noEdge) w4_4) ?_
    rintro _ w4_19 ⟨rfl, h4_19⟩
    refine ⟨_, rfl, ?_⟩
    refine ⟨fun _ => h4_19, ?_⟩
    have L3 := L2.trans h4_19
    refine G.run 1 rfl ?_
    refine G.ag rfl (.pickT rfl rfl rfl) ?_
    refine G.run 1 rfl (G.nil (E.thenN ?_))
    by_cases c1 : ordE (xs.getD (k - 1) noEdge) (xs.getD k noEdge) < 0
    ·refine WC.condN rfl (congrArg not (decide_eq_true c1)) ?_
     refine WC.sn (WC.sr (W.run 1 rfl (W.nx (WC.block ?_))))
     refine WC.loop (ι := Nat) (fun p => [(0, .slice A n c), (3, .int .i64 (((k : Nat) : Int))), (4, .int .i64 (((p : Nat) : Int)))]) (fun p wl1 => (p ≤ k) ∧ (RtJ xs k p) ∧ Le w wl1 ∧ w4_19.heap.size ≤ wl1.heap.size) (fun p => k - p) 0 ?_ ?_ ?_
     ·exact .cons rfl (.cons rfl (.cons rfl (.nil _)))
     ·exact ⟨Nat.zero_le _, fun j hj => absurd hj (Nat.not_lt_zero _), L3, Nat.le_refl _⟩
     rintro p wl1 ⟨hp, hrj, Ll1, zl1⟩
     refine WC.seq (WC.sr (W.run 3 rfl (W.nx ?_)))
     by_cases c2 : ((p : Nat) : Int) < ((k : Nat) : Int)
     ·refine WC.condY rfl (decide_eq_true c2) ?_
      refine WC.sn (WC.seq (WC.block (WC.seq ?_)))
      refine WC.draw [0, 1, 2, 3, 4, 5, 6, 7, 8, 9, 10, 11, 12, 13, 14, 15, 16, 17, 18, 19, 20, 21, 22, 23, 24, 25, 26, 27, 28, 29, 30, 31, 32, 33, 34, 35, 36, 37, 38, 39, 40, 41, 42, 43, 44, 45, 46, 47, 48, 49] mixed (by kernel_rfl) ?_
      intro w9 d9
      have L4 := Ll1.trans d9
      refine G.run 2 rfl ?_
      refine G.a rfl (.idxS (p) Tryz.underlying22 sz51 rfl rfl (hV.isSome edgeV_row (by omega)) (rfl) (by omega)) ?_
      refine G.a rfl (.vfield fa51_2 (hV.isSome edgeV_row (by omega)) rfl) ?_
      refine G.r rfl (.vcell (j := p) (o := 2) (v := .int .i64 ((xs.getD p noEdge).c)) na3 rfl (hV.le L4) edgeV_row (getS xs noEdge (by omega)) rfl) ?_
      refine G.run 2 rfl ?_
      refine G.a rfl (.idxS (k) Tryz.underlying22 sz51 rfl rfl (hV.isSome edgeV_row (by omega)) (rfl) (by omega)) ?_
      refine G.a rfl (.vfield fa51_2 (hV.isSome edgeV_row (by omega)) rfl) ?_
      refine G.r rfl (.vcell (j := k) (o := 2) (v := .int .i64 ((xs.getD k noEdge).c)) na3 rfl (hV.le L4) edgeV_row (getS xs noEdge (by omega)) rfl) ?_
      refine G.run 1 rfl ?_
      by_cases q9_11 : ((xs.getD p noEdge).c) = ((xs.getD k noEdge).c)
      ·refine G.a rfl (.dec (.move rfl) (decide_eq_true q9_11)) ?_
       refine G.run 2 rfl ?_
       refine G.ag rfl (.idxS (p) Tryz.underlying22 sz51 rfl rfl (hV.isSome edgeV_row (by omega)) (rfl) (by omega)) ?_
       refine G.ag rfl (.vfield fa51_0 (hV.isSome edgeV_row (by omega)) rfl) ?_
       refine G.rg rfl (.vcell (j := p) (o := 0) (v := .int .i64 ((xs.getD p noEdge).f)) na3 rfl (hV.le L4) edgeV_row (getS xs noEdge (by omega)) rfl) ?_
       refine G.run 2 rfl ?_
       refine G.ag rfl (.idxS (k) Tryz.underlying22 sz51 rfl rfl (hV.isSome edgeV_row (by omega)) (rfl) (by omega)) ?_
       refine G.ag rfl (.vfield fa51_1 (hV.isSome edgeV_row (by omega)) rfl) ?_
       refine G.rg rfl (.vcell (j := k) (o := 1) (v := .int .i64 ((xs.getD k noEdge).t)) na3 rfl (hV.le L4) edgeV_row (getS xs noEdge (by omega)) rfl) ?_
       refine G.run 1 rfl ?_
       by_cases q9_23 : ((xs.getD p noEdge).f) ≠ ((xs.getD k noEdge).t)
       ·refine G.ag rfl (.dec (.move rfl) (decide_eq_true q9_23)) ?_
        refine G.run 11 rfl ?_
        refine G.ag rfl (.pickT rfl rfl rfl) ?_
        refine G.run 12 rfl ?_
        refine G.ag rfl (.pickT rfl rfl rfl) ?_
        refine G.run 1 rfl (G.nil (E.thenN (WC.condT rfl (WC.sr (W.run 1 rfl (W.nx (WC.ret (E.blkR (E.thenR (E.thenR (E.blkR (E.blkR (E.thenR (E.thenR (E.blkR (E.thenR ?_))))))))))))))))
        refine E.retG1 rfl rfl ?_
        exact ⟨rB (not_right (k := k) (by omega) (by first | exact .inl (Bool.eq_false_iff.2 (by assumption)) | exact .inr (.inl ⟨by omega, by assumption⟩) | exact .inr (.inr ⟨p, by omega, fun h => by have := h (by assumption); omega⟩))).symm, L4⟩
       refine G.ag rfl (.dec (.move rfl) (decide_eq_false q9_23)) ?_
       refine G.run 2 rfl ?_
       refine G.ag rfl (.idxS (p) Tryz.underlying22 sz51 rfl rfl (hV.isSome edgeV_row (by omega)) (rfl) (by omega)) ?_
       refine G.ag rfl (.vfield fa51_1 (hV.isSome edgeV_row (by omega)) rfl) ?_
       refine G.rg rfl (.vcell (j := p) (o := 1) (v := .int .i64 ((xs.getD p noEdge).t)) na3 rfl (hV.le L4) edgeV_row (getS xs noEdge (by omega)) rfl) ?_
       refine G.run 2 rfl ?_
       refine G.ag rfl (.idxS (k) Tryz.underlying22 sz51 rfl rfl (hV.isSome edgeV_row (by omega)) (rfl) (by omega)) ?_
       refine G.ag rfl (.vfield fa51_0 (hV.isSome edgeV_row (by omega)) rfl) ?_
       refine G.rg rfl (.vcell (j := k) (o := 0) (v := .int .i64 ((xs.getD k noEdge).f)) na3 rfl (hV.le L4) edgeV_row (getS xs noEdge (by omega)) rfl) ?_
       refine G.run 1 rfl ?_
       refine G.ag rfl (.pickF rfl rfl rfl) ?_
       by_cases q9_36 : ((xs.getD p noEdge).t) ≠ ((xs.getD k noEdge).f)
       ·refine G.ag rfl (.dec (.move rfl) (decide_eq_true q9_36)) ?_
        refine G.run 11 rfl ?_
        refine G.ag rfl (.pickT rfl rfl rfl) ?_
        refine G.run 1 rfl (G.nil (E.thenN (WC.condT rfl (WC.sr (W.run 1 rfl (W.nx (WC.ret (E.blkR (E.thenR (E.thenR (E.blkR (E.blkR (E.thenR (E.thenR (E.blkR (E.thenR ?_))))))))))))))))
        refine E.retG1 rfl rfl ?_
        exact ⟨rB (not_right (k := k) (by omega) (by first | exact .inl (Bool.eq_false_iff.2 (by assumption)) | exact .inr (.inl ⟨by omega, by assumption⟩) | exact .inr (.inr ⟨p, by omega, fun h => by have := h (by assumption); omega⟩))).symm, L4⟩
       refine G.ag rfl (.dec (.move rfl) (decide_eq_false q9_36)) ?_
       refine G.run 2 rfl ?_
       refine G.ag rfl (.idxS (p) Tryz.underlying22 sz51 rfl rfl (hV.isSome edgeV_row (by omega)) (rfl) (by omega)) ?_
       refine G.ag rfl (.vfield fa51_3 (hV.isSome edgeV_row (by omega)) rfl) ?_
       refine G.rg rfl (.vcell (j := p) (o := 3) (v := .int .i64 ((xs.getD p noEdge).r)) na3 rfl (hV.le L4) edgeV_row (getS xs noEdge (by omega)) rfl) ?_
       refine G.run 2 rfl ?_
       refine G.ag rfl (.idxS (k) Tryz.underlying22 sz51 rfl rfl (hV.isSome edgeV_row (by omega)) (rfl) (by omega)) ?_
       refine G.ag rfl (.vfield fa51_3 (hV.isSome edgeV_row (by omega)) rfl) ?_
       refine G.rg rfl (.vcell (j := k) (o := 3) (v := .int .i64 ((xs.getD k noEdge).r)) na3 rfl (hV.le L4) edgeV_row (getS xs noEdge (by omega)) rfl) ?_
       refine G.run 1 rfl ?_
       refine G.ag rfl (.pickF rfl rfl rfl) ?_
       refine G.run 1 rfl (G.nil (E.thenN ?_))
       by_cases c3 : ((xs.getD p noEdge).r) ≠ ((xs.getD k noEdge).r)
       ·refine WC.condY rfl (decide_eq_true c3) ?_
        refine WC.sr (W.run 1 rfl (W.nx (WC.ret (E.blkR (E.thenR (E.thenR (E.blkR (E.blkR (E.thenR (E.thenR (E.blkR (E.thenR ?_))))))))))))
        refine E.retG1 rfl rfl ?_
        exact ⟨rB (not_right (k := k) (by omega) (by first | exact .inl (Bool.eq_false_iff.2 (by assumption)) | exact .inr (.inl ⟨by omega, by assumption⟩) | exact .inr (.inr ⟨p, by omega, fun h => by have := h (by assumption); omega⟩))).symm, L4⟩
       refine WC.condN rfl (decide_eq_false c3) ?_
       refine WC.skip (E.blkN (E.thenN (WC.region (W.run 1 rfl ?_))))
       refine W.a (.add rfl rfl (by omega)) ?_
       refine W.run 1 rfl (W.nil ?_)
       refine E.again (p + 1) (.cons rfl (.cons rfl (.cons rfl (.nil _)))) ?_ ?_
       ·exact ⟨by omega, hrj.next (fun hc => by first | (exfalso; exact absurd hc (by assumption)) | omega), L4, by have := zl1; have := d9.size; omega⟩
       first | omega | (simp only []; omega)
      refine G.a rfl (.dec (.move rfl) (decide_eq_false q9_11)) ?_
      refine G.run 12 rfl ?_
      refine G.skipu rfl rfl rfl rfl rfl rfl ?_
      refine G.skipu rfl rfl rfl rfl rfl rfl ?_
      refine G.skipu rfl rfl rfl rfl rfl rfl ?_
      refine G.skipu rfl rfl rfl rfl rfl rfl ?_
      refine G.skipu rfl rfl rfl rfl rfl rfl ?_
      refine G.skipu rfl rfl rfl rfl rfl rfl ?_
      refine G.skipu rfl rfl rfl rfl rfl rfl ?_
      refine G.skipu rfl rfl rfl rfl rfl rfl ?_
      refine G.skipu rfl rfl rfl rfl rfl rfl ?_
      refine G.skipu rfl rfl rfl rfl rfl rfl ?_
      refine G.skipu rfl rfl rfl rfl rfl rfl ?_
      refine G.run 2 rfl ?_
      refine G.skipu rfl rfl rfl rfl rfl rfl ?_
      refine G.skipu rfl rfl rfl rfl rfl rfl ?_
      refine G.skipu rfl rfl rfl rfl rfl rfl ?_
      refine G.skipu rfl rfl rfl rfl rfl rfl ?_
      refine G.skipu rfl rfl rfl rfl rfl rfl ?_
      refine G.skipu rfl rfl rfl rfl rfl rfl ?_
      refine G.skipu rfl rfl rfl rfl rfl rfl ?_
      refine G.skipu rfl rfl rfl rfl rfl rfl ?_
      refine G.skipu rfl rfl rfl rfl rfl rfl ?_
      refine G.skipu rfl rfl rfl rfl rfl rfl ?_
      refine G.skipu rfl rfl rfl rfl rfl rfl ?_
      refine G.run 2 rfl (G.nil (E.thenN (WC.condF rfl (WC.skip (E.blkN (E.thenN (WC.region (W.run 1 rfl ?_))))))))
      refine W.a (.add rfl rfl (by omega)) ?_
      refine W.run 1 rfl (W.nil ?_)
      refine E.again (p + 1) (.cons rfl (.cons rfl (.cons rfl (.nil _)))) ?_ ?_
      ·exact ⟨by omega, hrj.next (fun hc => by first | (exfalso; exact absurd hc (by assumption)) | omega), L4, by have := zl1; have := d9.size; omega⟩
      first | omega | (simp only []; omega)
     refine WC.condN rfl (decide_eq_false c2) ?_
     refine WC.exit (E.thenX (E.thenX (E.blkH (E.blkN (E.thenN (WC.region (W.run 1 rfl ?_)))))))
     refine W.a (.add rfl rfl (by omega)) ?_
     refine W.run 1 rfl (W.nil ?_)
     refine E.again (k + 1) (.cons rfl (.cons rfl (.nil _))) ?_ ?_
     ·exact ⟨by omega, hri.next (by assumption) (fun h0 => by first | assumption | (exfalso; omega)) (by have h9 := hrj; rw [show p = k by omega] at h9; exact h9), Ll1, by have := zl0; have := zl1; have := d4.size; have := h4_4.size; have := h4_19.size; omega⟩
     first | omega | (simp only []; omega)
    refine WC.condY rfl (congrArg not (decide_eq_false c1)) ?_
    refine WC.sr (W.run 1 rfl (W.nx (WC.ret (E.thenR (E.blkR (E.thenR (E.thenR (E.blkR (E.thenR ?_)))))))))
    refine E.retG1 rfl rfl ?_
    exact ⟨rB (not_right (k := k) (by omega) (by first | exact .inl (Bool.eq_false_iff.2 (by assumption)) | exact .inr (.inl ⟨by omega, by assumption⟩) | exact .inr (.inr ⟨p, by omega, fun h => by have := h (by assumption); omega⟩))).symm, L3⟩
   refine G.ag rfl (.dec (.move rfl) (decide_eq_false q4_9)) ?_
   refine G.run 11 rfl ?_
   refine G.ag rfl (.pickF rfl rfl rfl) ?_
   refine G.run 1 rfl (G.nil (E.thenN (WC.condF rfl (WC.sn (WC.sr (W.run 1 rfl (W.nx (WC.block ?_))))))))
   refine WC.loop (ι := Nat) (fun p => [(0, .slice A n c), (3, .int .i64 (((k : Nat) : Int))), (4, .int .i64 (((p : Nat) : Int)))]) (fun p wl1 => (p ≤ k) ∧ (RtJ xs k p) ∧ Le w wl1 ∧ w4_4.heap.size ≤ wl1.heap.size) (fun p => k - p) 0 ?_ ?_ ?_
   ·exact .cons rfl (.cons rfl (.cons rfl (.nil _)))
   ·exact ⟨Nat.zero_le _, fun j hj => absurd hj (Nat.not_lt_zero _), L2, Nat.le_refl _⟩
   rintro p wl1 ⟨hp, hrj, Ll1, zl1⟩
   refine WC.seq (WC.sr (W.run 3 rfl (W.nx ?_)))
   by_cases c2 : ((p : Nat) : Int) < ((k : Nat) : Int)
   ·refine WC.condY rfl (decide_eq_true c2) ?_
    refine WC.sn (WC.seq (WC.block (WC.seq ?_)))
    refine WC.draw [0, 1, 2, 3, 4, 5, 6, 7, 8, 9, 10, 11, 12, 13, 14, 15, 16, 17, 18, 19, 20, 21, 22, 23, 24, 25, 26, 27, 28, 29, 30, 31, 32, 33, 34, 35, 36, 37, 38, 39, 40, 41, 42, 43, 44, 45, 46, 47, 48, 49] mixed (by kernel_rfl) ?_
    intro w9 d9
    have L5 := Ll1.trans d9
    refine G.run 2 rfl ?_
    refine G.a rfl (.idxS (p) Tryz.underlying22 sz51 rfl rfl (hV.isSome edgeV_row (by omega)) (rfl) (by omega)) ?_
    refine G.a rfl (.vfield fa51_2 (hV.isSome edgeV_row (by omega)) rfl) ?_
    refine G.r rfl (.vcell (j := p) (o := 2) (v := .int .i64 ((xs.getD p noEdge).c)) na3 rfl (hV.le L5) edgeV_row (getS xs noEdge (by omega)) rfl) ?_
    refine G.run 2 rfl ?_
    refine G.a rfl (.idxS (k) Tryz.underlying22 sz51 rfl rfl (hV.isSome edgeV_row (by omega)) (rfl) (by omega)) ?_
    refine G.a rfl (.vfield fa51_2 (hV.isSome edgeV_row (by omega)) rfl) ?_
    refine G.r rfl (.vcell (j := k) (o := 2) (v := .int .i64 ((xs.getD k noEdge).c)) na3 rfl (hV.le L5) edgeV_row (getS xs noEdge (by omega)) rfl) ?_
    refine G.run 1 rfl ?_
    by_cases q9_11 : ((xs.getD p noEdge).c) = ((xs.getD k noEdge).c)
    ·refine G.a rfl (.dec (.move rfl) (decide_eq_true q9_11)) ?_
     refine G.run 2 rfl ?_
     refine G.ag rfl (.idxS (p) Tryz.underlying22 sz51 rfl rfl (hV.isSome edgeV_row (by omega)) (rfl) (by omega)) ?_
     refine G.ag rfl (.vfield fa51_0 (hV.isSome edgeV_row (by omega)) rfl) ?_
     refine G.rg rfl (.vcell (j := p) (o := 0) (v := .int .i64 ((xs.getD p noEdge).f)) na3 rfl (hV.le L5) edgeV_row (getS xs noEdge (by omega)) rfl) ?_
     refine G.run 2 rfl ?_
     refine G.ag rfl (.idxS (k) Tryz.underlying22 sz51 rfl rfl (hV.isSome edgeV_row (by omega)) (rfl) (by omega)) ?_
     refine G.ag rfl (.vfield fa51_1 (hV.isSome edgeV_row (by omega)) rfl) ?_
     refine G.rg rfl (.vcell (j := k) (o := 1) (v := .int .i64 ((xs.getD k noEdge).t)) na3 rfl (hV.le L5) edgeV_row (getS xs noEdge (by omega)) rfl) ?_
     refine G.run 1 rfl ?_
     by_cases q9_23 : ((xs.getD p noEdge).f) ≠ ((xs.getD k noEdge).t)
     ·refine G.ag rfl (.dec (.move rfl) (decide_eq_true q9_23)) ?_
      refine G.run 11 rfl ?_
      refine G.ag rfl (.pickT rfl rfl rfl) ?_
      refine G.run 12 rfl ?_
      refine G.ag rfl (.pickT rfl rfl rfl) ?_
      refine G.run 1 rfl (G.nil (E.thenN (WC.condT rfl (WC.sr (W.run 1 rfl (W.nx (WC.ret (E.blkR (E.thenR (E.thenR (E.blkR (E.blkR (E.thenR (E.thenR (E.blkR (E.thenR ?_))))))))))))))))
      refine E.retG1 rfl rfl ?_
      exact ⟨rB (not_right (k := k) (by omega) (by first | exact .inl (Bool.eq_false_iff.2 (by assumption)) | exact .inr (.inl ⟨by omega, by assumption⟩) | exact .inr (.inr ⟨p, by omega, fun h => by have := h (by assumption); omega⟩))).symm, L5⟩
     refine G.ag rfl (.dec (.move rfl) (decide_eq_false q9_23)) ?_
     refine G.run 2 rfl ?_
     refine G.ag rfl (.idxS (p) Tryz.underlying22 sz51 rfl rfl (hV.isSome edgeV_row (by omega)) (rfl) (by omega)) ?_
     refine G.ag rfl (.vfield fa51_1 (hV.isSome edgeV_row (by omega)) rfl) ?_
     refine G.rg rfl (.vcell (j := p) (o := 1) (v := .int .i64 ((xs.getD p noEdge).t)) na3 rfl (hV.le L5) edgeV_row (getS xs noEdge (by omega)) rfl) ?_
     refine G.run 2 rfl ?_
     refine G.ag rfl (.idxS (k) Tryz.underlying22 sz51 rfl rfl (hV.isSome edgeV_row (by omega)) (rfl) (by omega)) ?_
     refine G.ag rfl (.vfield fa51_0 (hV.isSome edgeV_row (by omega)) rfl) ?_
     refine G.rg rfl (.vcell (j := k) (o := 0) (v := .int .i64 ((xs.getD k noEdge).f)) na3 rfl (hV.le L5) edgeV_row (getS xs noEdge (by omega)) rfl) ?_
     refine G.run 1 rfl ?_
     refine G.ag rfl (.pickF rfl rfl rfl) ?_
     by_cases q9_36 : ((xs.getD p noEdge).t) ≠ ((xs.getD k noEdge).f)
     ·refine G.ag rfl (.dec (.move rfl) (decide_eq_true q9_36)) ?_
      refine G.run 11 rfl ?_
      refine G.ag rfl (.pickT rfl rfl rfl) ?_
      refine G.run 1 rfl (G.nil (E.thenN (WC.condT rfl (WC.sr (W.run 1 rfl (W.nx (WC.ret (E.blkR (E.thenR (E.thenR (E.blkR (E.blkR (E.thenR (E.thenR (E.blkR (E.thenR ?_))))))))))))))))
      refine E.retG1 rfl rfl ?_
      exact ⟨rB (not_right (k := k) (by omega) (by first | exact .inl (Bool.eq_false_iff.2 (by assumption)) | exact .inr (.inl ⟨by omega, by assumption⟩) | exact .inr (.inr ⟨p, by omega, fun h => by have := h (by assumption); omega⟩))).symm, L5⟩
     refine G.ag rfl (.dec (.move rfl) (decide_eq_false q9_36)) ?_
     refine G.run 2 rfl ?_
     refine G.ag rfl (.idxS (p) Tryz.underlying22 sz51 rfl rfl (hV.isSome edgeV_row (by omega)) (rfl) (by omega)) ?_
     refine G.ag rfl (.vfield fa51_3 (hV.isSome edgeV_row (by omega)) rfl) ?_
     refine G.rg rfl (.vcell (j := p) (o := 3) (v := .int .i64 ((xs.getD p noEdge).r)) na3 rfl (hV.le L5) edgeV_row (getS xs noEdge (by omega)) rfl) ?_
     refine G.run 2 rfl ?_
     refine G.ag rfl (.idxS (k) Tryz.underlying22 sz51 rfl rfl (hV.isSome edgeV_row (by omega)) (rfl) (by omega)) ?_
     refine G.ag rfl (.vfield fa51_3 (hV.isSome edgeV_row (by omega)) rfl) ?_
     refine G.rg rfl (.vcell (j := k) (o := 3) (v := .int .i64 ((xs.getD k noEdge).r)) na3 rfl (hV.le L5) edgeV_row (getS xs noEdge (by omega)) rfl) ?_
     refine G.run 1 rfl ?_
     refine G.ag rfl (.pickF rfl rfl rfl) ?_
     refine G.run 1 rfl (G.nil (E.thenN ?_))
     by_cases c3 : ((xs.getD p noEdge).r) ≠ ((xs.getD k noEdge).r)
     ·refine WC.condY rfl (decide_eq_true c3) ?_
      refine WC.sr (W.run 1 rfl (W.nx (WC.ret (E.blkR (E.thenR (E.thenR (E.blkR (E.blkR (E.thenR (E.thenR (E.blkR (E.thenR ?_))))))))))))
      refine E.retG1 rfl rfl ?_
      exact ⟨rB (not_right (k := k) (by omega) (by first | exact .inl (Bool.eq_false_iff.2 (by assumption)) | exact .inr (.inl ⟨by omega, by assumption⟩) | exact .inr (.inr ⟨p, by omega, fun h => by have := h (by assumption); omega⟩))).symm, L5⟩
     refine WC.condN rfl (decide_eq_false c3) ?_
     refine WC.skip (E.blkN (E.thenN (WC.region (W.run 1 rfl ?_))))
     refine W.a (.add rfl rfl (by omega)) ?_
     refine W.run 1 rfl (W.nil ?_)
     refine E.again (p + 1) (.cons rfl (.cons rfl (.cons rfl (.nil _)))) ?_ ?_
     ·exact ⟨by omega, hrj.next (fun hc => by first | (exfalso; exact absurd hc (by assumption)) | omega), L5, by have := zl1; have := d9.size; omega⟩
     first | omega | (simp only []; omega)
    refine G.a rfl (.dec (.move rfl) (decide_eq_false q9_11)) ?_
    refine G.run 12 rfl ?_
    refine G.skipu rfl rfl rfl rfl rfl rfl ?_
    refine G.skipu rfl rfl rfl rfl rfl rfl ?_
    refine G.skipu rfl rfl rfl rfl rfl rfl ?_
    refine G.skipu rfl rfl rfl rfl rfl rfl ?_
    refine G.skipu rfl rfl rfl rfl rfl rfl ?_
    refine G.skipu rfl rfl rfl rfl rfl rfl ?_
    refine G.skipu rfl rfl rfl rfl rfl rfl ?_
    refine G.skipu rfl rfl rfl rfl rfl rfl ?_
    refine G.skipu rfl rfl rfl rfl rfl rfl ?_
    refine G.skipu rfl rfl rfl rfl rfl rfl ?_
    refine G.skipu rfl rfl rfl rfl rfl rfl ?_
    refine G.run 2 rfl ?_
    refine G.skipu rfl rfl rfl rfl rfl rfl ?_
    refine G.skipu rfl rfl rfl rfl rfl rfl ?_
    refine G.skipu rfl rfl rfl rfl rfl rfl ?_
    refine G.skipu rfl rfl rfl rfl rfl rfl ?_
    refine G.skipu rfl rfl rfl rfl rfl rfl ?_
    refine G.skipu rfl rfl rfl rfl rfl rfl ?_
    refine G.skipu rfl rfl rfl rfl rfl rfl ?_
    refine G.skipu rfl rfl rfl rfl rfl rfl ?_
    refine G.skipu rfl rfl rfl rfl rfl rfl ?_
    refine G.skipu rfl rfl rfl rfl rfl rfl ?_
    refine G.skipu rfl rfl rfl rfl rfl rfl ?_
    refine G.run 2 rfl (G.nil (E.thenN (WC.condF rfl (WC.skip (E.blkN (E.thenN (WC.region (W.run 1 rfl ?_))))))))
    refine W.a (.add rfl rfl (by omega)) ?_
    refine W.run 1 rfl (W.nil ?_)
    refine E.again (p + 1) (.cons rfl (.cons rfl (.cons rfl (.nil _)))) ?_ ?_
    ·exact ⟨by omega, hrj.next (fun hc => by first | (exfalso; exact absurd hc (by assumption)) | omega), L5, by have := zl1; have := d9.size; omega⟩
    first | omega | (simp only []; omega)
   refine WC.condN rfl (decide_eq_false c2) ?_
   refine WC.exit (E.thenX (E.thenX (E.blkH (E.blkN (E.thenN (WC.region (W.run 1 rfl ?_)))))))
   refine W.a (.add rfl rfl (by omega)) ?_
   refine W.run 1 rfl (W.nil ?_)
   refine E.again (k + 1) (.cons rfl (.cons rfl (.nil _))) ?_ ?_
   ·exact ⟨by omega, hri.next (by assumption) (fun h0 => by first | assumption | (exfalso; omega)) (by have h9 := hrj; rw [show p = k by omega] at h9; exact h9), Ll1, by have := zl0; have := zl1; have := d4.size; have := h4_4.size; omega⟩
   first | omega | (simp only []; omega)
  refine G.a rfl (.dec (.move rfl) (congrArg not ((Bool.eq_false_iff.2 q4_6)))) ?_
  refine G.run 3 rfl ?_
  refine G.skipu rfl rfl rfl rfl rfl rfl ?_
  refine G.skipu rfl rfl rfl rfl rfl rfl ?_
  refine G.skipu rfl rfl rfl rfl rfl rfl ?_
  refine G.skipu rfl rfl rfl rfl rfl rfl ?_
  refine G.skipu rfl rfl rfl rfl rfl rfl ?_
  refine G.skipu rfl rfl rfl rfl rfl rfl ?_
  refine G.skipu rfl rfl rfl rfl rfl rfl ?_
  refine G.skipu rfl rfl rfl rfl rfl rfl ?_
  refine G.skipu rfl rfl rfl rfl rfl rfl ?_
  refine G.skipu rfl rfl rfl rfl rfl rfl ?_
  refine G.skipu rfl rfl rfl rfl rfl rfl ?_
  refine G.run 2 rfl (G.nil (E.thenN (WC.condT rfl (WC.sr (W.run 1 rfl (W.nx (WC.ret (E.thenR (E.blkR (E.thenR (E.thenR (E.blkR (E.thenR ?_)))))))))))))
  refine E.retG1 rfl rfl ?_
  exact ⟨rB (not_right (k := k) (by omega) (by first | exact .inl (Bool.eq_false_iff.2 (by assumption)) | exact .inr (.inl ⟨by omega, by assumption⟩) | exact .inr (.inr ⟨p, by omega, fun h => by have := h (by assumption); omega⟩))).symm, L2⟩
 refine WC.condN rfl (decide_eq_false c0) ?_
 refine WC.exit (E.thenX (E.thenX (E.blkH (E.thenN (WC.sr (W.run 1 rfl (W.nx (WC.ret ?_))))))))
 refine E.retG1 rfl rfl ?_
 have hke : k = xs.length := (by omega)
 subst hke
 exact ⟨rB hri.done.symm, Ll0⟩
end Go.Proofs.YtmkdeemjkcigkaaGreatDoor

namespace Go.Rtp
open Go.Gsp Go.Nsp Go.Msp Go.Proofs.YtmkdeemjkcigkaaGreatDoor
abbrev FB := Fnd × Bool
def betQ (u : Fnd) (b : FB) : Bool := !b.2 || decide (ordB u b.1 < 0)
def endT (way : List Gsp.Edge) : Int := (way.getD (way.length - 1) noEdge).t
def takeQ (m : MF) (a x : Int) (way : List Gsp.Edge) (b : FB) : Prop := (oddsR m way a x).2.2 = 0 ∧ (oddsR m way a x).1.n ≠ 0 ∧ betQ (fo m a x way) b = true
instance (m : MF) (a x : Int) (way : List Gsp.Edge) (b : FB) : Decidable (takeQ m a x way b) := by unfold takeQ; infer_instance
def rstep (rec_ : List Gsp.Edge → FB → FB) (way : List Gsp.Edge) (b : FB) (e : Gsp.Edge) : FB := if wayG (way ++ [e]) = true then rec_ (way ++ [e]) b else b
def rlook (g : List Gsp.Edge) (m : MF) (to a x : Int) : Nat → List Gsp.Edge → FB → FB
  | 0, _, b => b
  | k + 1, way, b => if endT way = to then (if takeQ m a x way b then (fo m a x way, true) else b) else g.foldl (rstep (rlook g m to a x k) way) b
def rfirst (rec_ : List Gsp.Edge → FB → FB) (fr : Int) (b : FB) (e : Gsp.Edge) : FB := if e.f = fr then rec_ [e] b else b
def rbestF (g : List Gsp.Edge) (m : MF) (fr to a x : Int) : FB := g.foldl (rfirst (rlook g m to a x 8) fr) (noFnd, false)
variable {g : List Gsp.Edge} {m : MF} {fr to a x : Int}
def BGB (g : List Gsp.Edge) (m : MF) (fr to a x : Int) (b : FB) : Prop := b.2 = false ∨ (b.2 = true ∧ Cand g m fr to a x b.1.way ∧ b.1 = fo m a x b.1.way)
def GeqB (b : FB) (c : Fnd) : Prop := b.2 = true ∧ ordB b.1 c ≤ 0
theorem GeqB.trans {b : FB} {c d : Fnd} (h : GeqB b c) (k : ordB c d ≤ 0) : GeqB b d := ⟨h.1, TP.ordB.trans _ _ _ h.2 k⟩
structure SpecB (g : List Gsp.Edge) (m : MF) (fr to a x : Int) (W : List Gsp.Edge → Prop) (b b' : FB) : Prop where
  good : BGB g m fr to a x b'
  up : b.2 = true → GeqB b' b.1
  all : ∀ w, Cand g m fr to a x w → W w → GeqB b' (fo m a x w)
theorem SpecB.same {W : List Gsp.Edge → Prop} {b : FB} (hb : BGB g m fr to a x b) (h : ∀ w, Cand g m fr to a x w → W w → GeqB b (fo m a x w)) : SpecB g m fr to a x W b b := ⟨hb, fun h => ⟨h, Int.le_of_eq (TP.ordB.refl b.1)⟩, h⟩
theorem SpecB.fold {α : Type} {f : FB → α → FB} {W : α → List Gsp.Edge → Prop} : ∀ (l : List α), (∀ e ∈ l, ∀ b, BGB g m fr to a x b → SpecB g m fr to a x (W e) b (f b e)) → ∀ b, BGB g m fr to a x b → SpecB g m fr to a x (fun w => ∃ e ∈ l, W e w) b (l.foldl f b)
  | [], _, b, hb => SpecB.same hb (fun w _ h => by obtain ⟨e, he, _⟩ := h; cases he)
  | e :: l, h, b, hb => by
    have h1 := h e (List.mem_cons_self ..) b hb
    have h2 := SpecB.fold l (fun e' he' => h e' (List.mem_cons_of_mem _ he')) (f b e) h1.good
    refine ⟨h2.good, fun hn => ?_, fun w hw hW => ?_⟩
    · have k1 := h1.up hn
      exact (h2.up k1.1).trans k1.2
    · obtain ⟨e', he', hw'⟩ := hW
      rcases List.mem_cons.1 he' with rfl | he'
      · have k1 := h1.all w hw hw'
        exact (h2.up k1.1).trans k1.2
      · exact h2.all w hw ⟨e', he', hw'⟩
theorem getD_pre (p q : List Gsp.Edge) {i : Nat} (hi : i < p.length) : (p ++ q).getD i noEdge = p.getD i noEdge := by simp [List.getD, List.getElem?_append_left hi]
theorem take_pre (p : List Gsp.Edge) (e : Gsp.Edge) (q : List Gsp.Edge) : (p ++ e :: q).take (p.length + 1) = p ++ [e] := by
  rw [List.take_append, List.take_of_length_le (by omega), show p.length + 1 - p.length = 1 by omega]
  rfl
def Gone (g : List Gsp.Edge) (fr : Int) (way : List Gsp.Edge) : Prop := way ≠ [] ∧ (∀ e ∈ way, e ∈ g) ∧ (way.getD 0 noEdge).f = fr
theorem rlook_spec : ∀ (k : Nat) (way : List Gsp.Edge) (b : FB), way.length + k = 9 → 1 ≤ k → Gone g fr way → BGB g m fr to a x b → SpecB g m fr to a x (fun w => ∃ p, w = way ++ p) b (rlook g m to a x k way b)
  | 0, _, _, _, h, _, _ => absurd h (by decide)
  | k + 1, way, b, hk, _, hA, hb => by
    have hl0 := List.length_pos_iff.2 hA.1
    unfold rlook
    split
    · rename_i hto
      have only : ∀ w, Cand g m fr to a x w → (∃ p, w = way ++ p) → w = way := by
        rintro w hw ⟨p, rfl⟩
        cases p with
        | nil => exact List.append_nil _
        | cons e p =>
          exfalso
          have h1 := (way_once hw.way (j := way.length - 1) (i := (way ++ e :: p).length - 1) (by simp only [List.length_append, List.length_cons]; omega) (by simp)).2.1
          rw [getD_pre _ _ (by omega), hw.lst] at h1
          exact h1 hto
      split
      · rename_i ht
        have hcd : Cand g m fr to a x way := ⟨hA.1, hA.2.1, hA.2.2, hto, ht.1, ht.2.1⟩
        refine ⟨.inr ⟨rfl, hcd, rfl⟩, fun hn => ⟨rfl, ?_⟩, fun w hw hW => ?_⟩
        · have := ht.2.2
          simp only [betQ, hn, Bool.not_true, Bool.false_or, decide_eq_true_eq] at this
          exact Int.le_of_lt this
        · rw [only w hw hW]
          exact ⟨rfl, Int.le_of_eq (TP.ordB.refl _)⟩
      · rename_i ht
        refine SpecB.same hb fun w hw hW => ?_
        have e := only w hw hW
        subst e
        have h1 : ¬ betQ (fo m a x w) b = true := fun h => ht ⟨hw.ok, hw.pos, h⟩
        simp only [betQ, Bool.or_eq_true, Bool.not_eq_true', decide_eq_true_eq, not_or, Bool.not_eq_false] at h1
        have h2 := TP.ordB.anti (fo m a x w) b.1
        exact ⟨h1.1, by omega⟩
    · rename_i hto
      have hfold := SpecB.fold (g := g) (m := m) (fr := fr) (to := to) (a := a) (x := x) (f := rstep (rlook g m to a x k) way) (W := fun e w => wayG (way ++ [e]) = true ∧ ∃ p, w = (way ++ [e]) ++ p) g (fun e he b' hb' => by
        unfold rstep
        split
        · rename_i hwy
          have hl := wayG_len hwy
          rw [List.length_append, List.length_singleton] at hl
          have hr := rlook_spec k (way ++ [e]) b' (by rw [List.length_append, List.length_singleton]; omega) (by omega) ⟨by simp, fun y hy => by
            rcases List.mem_append.1 hy with hy | hy
            · exact hA.2.1 y hy
            · rw [List.mem_singleton.1 hy]; exact he, by rw [getD_pre _ _ hl0]; exact hA.2.2⟩ hb'
          exact ⟨hr.good, hr.up, fun w hw hW => hr.all w hw hW.2⟩
        · rename_i hwy
          exact SpecB.same hb' fun w _ hW => absurd hW.1 hwy) b hb
      refine ⟨hfold.good, hfold.up, fun w hw hW => ?_⟩
      obtain ⟨p, rfl⟩ := hW
      cases p with
      | nil => rw [List.append_nil] at hw; exact absurd hw.lst hto
      | cons e p =>
        have hw1 := way_take hw.way (k := way.length) (by simp)
        rw [take_pre] at hw1
        exact hfold.all _ hw ⟨e, hw.sub e (by simp), hw1, p, by simp⟩
theorem rbestF_spec : SpecB g m fr to a x (fun _ => True) (noFnd, false) (rbestF g m fr to a x) := by
  have hfold := SpecB.fold (g := g) (m := m) (fr := fr) (to := to) (a := a) (x := x) (f := rfirst (rlook g m to a x 8) fr) (W := fun e w => e.f = fr ∧ ∃ p, w = [e] ++ p) g (fun e he b' hb' => by
    unfold rfirst
    split
    · rename_i hf
      have hr := rlook_spec (m := m) (to := to) (a := a) (x := x) 8 [e] b' rfl (by decide) ⟨by simp, fun y hy => by rw [List.mem_singleton.1 hy]; exact he, hf⟩ hb'
      exact ⟨hr.good, hr.up, fun w hw hW => hr.all w hw hW.2⟩
    · rename_i hf
      exact SpecB.same hb' fun w _ hW => absurd hW.1 hf) (noFnd, false) (.inl rfl)
  refine ⟨hfold.good, hfold.up, fun w hw _ => ?_⟩
  obtain ⟨e, p, rfl⟩ := List.exists_cons_of_ne_nil hw.ne
  exact hfold.all _ hw ⟨e, hw.sub e (List.mem_cons_self ..), hw.fst, p, rfl⟩
theorem rbest_eq (hm : GoodM m) (hb : badR g fr to a x = false) : bestR g m fr to a x = if (rbestF g m fr to a x).2 = true then ((rbestF g m fr to a x).1.way, (rbestF g m fr to a x).1.odds, 0) else ([], ⟨0, 0⟩, 19) := by
  have hs := rbestF_spec (g := g) (m := m) (fr := fr) (to := to) (a := a) (x := x)
  split
  · rename_i h2
    rcases hs.good with k | ⟨_, k1, k2⟩
    · rw [k] at h2; cases h2
    · have h0 : (bestR g m fr to a x).2.2 = 0 := Decidable.byContradiction fun hh => (bestR_no hm hb hh).2 _ k1
      obtain ⟨_, q1, q2, q3⟩ := bestR_ok hm h0
      have h4 := (hs.all _ q1 trivial).2
      rw [k2] at h4
      have e := cand_uniq (bad_T hb).1 q1 k1 (q3 _ k1) h4
      refine Prod.ext e (Prod.ext ?_ h0)
      show (bestR g m fr to a x).2.1 = (rbestF g m fr to a x).1.odds
      rw [q2, e, k2]
      rfl
  · rename_i h2
    have hn : ∀ w, ¬ Cand g m fr to a x w := fun w hw => h2 (hs.all w hw trivial).1
    exact (bestR_no hm hb (fun h0 => hn _ (bestR_ok hm h0).2.1)).1
end Go.Rtp

