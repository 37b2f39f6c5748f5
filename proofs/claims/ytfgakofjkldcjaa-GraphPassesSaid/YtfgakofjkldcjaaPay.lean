/- Payments (layer 30), what OnionLocks reaches of it: sum, Back, Proof, Shows, drawn, From, New; and field's Add, Neg, Sub; walked. -/
import Derived.Test.YtfgakofjkldcjaaOnion3
import Derived.Test.YtfgakofjkldcjaaPsp
namespace Go.Sx
open Go Go.RowKit
/-- Results in a variable and in a slot. -/
theorem E.retCT {P : Program} {env : Env} {n : Nat} {w : World} {fn : Func} {R : Ending → World → Prop} {t1 ty1 t2 s1 : Nat} {g1 : Nat} {b1 : TypeId} {cs1 : Array Value} {v2 : Value} (hr : fn.results = #[.cell t1 ty1, .tmp t2])
    (h1 : look env t1 = some (.pointer (some ⟨g1, 0, none⟩))) (h2 : look env t2 = some v2) (hB1 : Blk w g1 b1 cs1) (ha1 : IsAgg P ty1 s1) (hs1 : cs1.size = s1) (h : R (.returned (.tuple #[.agg cs1, v2])) w) : E (bodyPost P fn R) n .ret env w := fun a ha => by
  subst hs1
  obtain ⟨d1, u1, u2, u3⟩ := ha1
  have l1 := run_loadVar_row (P := P) w g1 b1 ty1 cs1 (0, 0) d1 hB1 u1 (by cases d1 <;> simp_all) u3
  refine bodyPost_ret (v := .tuple #[.agg cs1, v2]) ?_ ha.1 h
  simp [results, hr, ha.2.2 t1 _ h1, ha.2.2 t2 _ h2, asAddr, l1]
end Go.Sx
namespace Go.Proofs.Ytfgakofjkldcjaa
open Go Go.Sx Go.Hsp Go.Num Go.Osp
set_option maxRecDepth 20000
theorem made_pv (k : Nat) : madeCells (Value.int .u64 0).cells (k * 1) = ((List.replicate k 0).map pv).toArray := by
  apply Array.ext'
  apply List.ext_getElem (by simp [madeCells])
  intro i h1 h2
  simp [madeCells, Value.cells, Nat.mod_one]
  rfl
theorem set_pv (l : List Nat) (i x : Nat) : ((l.map pv).toArray).setIfInBounds i (pv x) = ((l.set i x).map pv).toArray := by simp [List.map_set]
theorem getpB (ks : List Nat) {k : Nat} (h : k < ks.length) : (ks.map pv).toArray[k]? = some (pv (ks.getD k 0)) := by simp [h, List.getD]
theorem addP_lt (a b : Nat) : addP a b < 18446744073709551616 := Nat.lt_trans (Nat.mod_lt _ (by decide)) (by decide : M < 18446744073709551616)
theorem fromP_lt (p : Nat) (hp : p < 18446744073709551616) : ∀ l, ∀ x ∈ fromP p l, x < 18446744073709551616
  | [], x, hx => by simp [fromP] at hx; subst hx; exact hp
  | b :: l, x, hx => by
    rw [fromP, List.mem_cons] at hx
    rcases hx with rfl | hx
    · exact addP_lt _ _
    · exact fromP_lt p hp l x hx
theorem mixP_lt (p : Nat) (hp : p < 18446744073709551616) (l : List Nat) (m i : Nat) : (List.replicate m 0 ++ fromP p l).getD i 0 < 18446744073709551616 := by
  refine getD_lt (fun x hx => ?_) (by decide) i
  rcases List.mem_append.1 hx with hx | hx
  · rw [(List.mem_replicate.1 hx).2]; decide
  · exact fromP_lt p hp l x hx
theorem one2p {a b : Nat} : ∀ v ∈ [pv a, pv b], v.oneCell' = true := fun v hv => by
  simp at hv; rcases hv with rfl | rfl <;> rfl
theorem one2s {A B : Option Addr} {a b a' b' : Nat} : ∀ v ∈ [Value.slice A a a', Value.slice B b b'], v.oneCell' = true := fun v hv => by
  simp at hv; rcases hv with rfl | rfl <;> rfl
theorem plus_ok (a b : Nat) (ha : a < 2305843009213688669) (hb : b < 2305843009213688669) (w : World) : Calls Try.prog 103 #[.int .u64 ((a : Nat) : Int), .int .u64 ((b : Nat) : Int)] w fun e w' => e = .returned (.int .u64 (((a + b) % q : Nat) : Int)) ∧ Le w w' := by
  refine enter Try.func103 rfl rfl ?_
  have L0 := Le.refl w
  refine WC.seq ?_
  refine WC.region ?_
  refine W.any (.assign rfl) rfl rfl rfl ?_
  refine W.nil ?_
  refine E.thenN ?_
  refine WC.seq ?_
  refine WC.region ?_
  refine W.any (.move rfl) rfl rfl rfl ?_
  refine W.any (.move rfl) rfl rfl rfl ?_
  refine W.any (.addN (a) (b) (a + b) rfl rfl rfl rfl (Nat.mod_eq_of_lt (by omega))) rfl rfl rfl ?_
  refine W.any (.remN (a + b) (2305843009213688669) ((a + b) % 2305843009213688669) rfl rfl rfl rfl (by decide) (rfl)) rfl rfl rfl ?_
  refine W.any (.assign rfl) rfl rfl rfl ?_
  refine W.nil ?_
  refine E.thenN ?_
  refine WC.ret ?_
  refine E.ret1 rfl rfl ?_
  exact ⟨rfl, L0⟩

theorem fadd_ok (a b : Nat) (w : World) : Calls Try.prog 55 #[.int .u64 ((a : Nat) : Int), .int .u64 ((b : Nat) : Int)] w fun e w' => e = .returned (.int .u64 ((addS a b : Nat) : Int)) ∧ Le w w' := by
  refine enter Try.func55 rfl rfl ?_
  have L0 := Le.refl w
  refine WC.seq ?_
  refine WC.region ?_
  refine W.any (.assign rfl) rfl rfl rfl ?_
  refine W.nil ?_
  refine E.thenN ?_
  refine WC.seq ?_
  refine WC.region ?_
  refine W.any (.move rfl) rfl rfl rfl ?_
  refine W.ef rfl rfl rfl ?_
  refine Ef.call go102 rfl rfl (of_ok a w) ?_
  rintro _ w1_1 ⟨rfl, h1_1⟩
  refine ⟨_, rfl, ?_⟩
  have L1_1 := L0.trans h1_1
  refine W.any (.move rfl) rfl rfl rfl ?_
  refine W.ef rfl rfl rfl ?_
  refine Ef.call go102 rfl rfl (of_ok b w1_1) ?_
  rintro _ w1_3 ⟨rfl, h1_3⟩
  refine ⟨_, rfl, ?_⟩
  have L1_3 := L1_1.trans h1_3
  refine W.ef rfl rfl rfl ?_
  refine Ef.call go103 rfl rfl (plus_ok (a % q) (b % q) (Nat.mod_lt _ (by decide)) (Nat.mod_lt _ (by decide)) w1_3) ?_
  rintro _ w1_4 ⟨rfl, h1_4⟩
  refine ⟨_, rfl, ?_⟩
  have L1_4 := L1_3.trans h1_4
  refine W.any (.assign rfl) rfl rfl rfl ?_
  refine W.nil ?_
  refine E.thenN ?_
  refine WC.ret ?_
  refine E.ret1 rfl rfl ?_
  exact ⟨rfl, L1_4⟩

theorem fneg_ok (a : Nat) (w : World) : Calls Try.prog 142 #[.int .u64 ((a : Nat) : Int)] w fun e w' => e = .returned (.int .u64 ((negS a : Nat) : Int)) ∧ Le w w' := by
  refine enter Try.func142 rfl rfl ?_
  have L0 := Le.refl w
  refine WC.seq ?_
  refine WC.region ?_
  refine W.any (.assign rfl) rfl rfl rfl ?_
  refine W.nil ?_
  refine E.thenN ?_
  refine WC.seq ?_
  refine WC.region ?_
  refine W.any (.move rfl) rfl rfl rfl ?_
  refine W.ef rfl rfl rfl ?_
  refine Ef.call go102 rfl rfl (of_ok a w) ?_
  rintro _ w1_1 ⟨rfl, h1_1⟩
  refine ⟨_, rfl, ?_⟩
  have L1_1 := L0.trans h1_1
  have hlt : a % q < 2305843009213688669 := Nat.mod_lt _ (by decide)
  refine W.any (.subN (2305843009213688669) (a % q) (2305843009213688669 - a % q) rfl rfl rfl rfl (by omega) (by omega)) rfl rfl rfl ?_
  refine W.any (.remN (2305843009213688669 - a % q) (2305843009213688669) ((2305843009213688669 - a % q) % 2305843009213688669) rfl rfl rfl rfl (by decide) (rfl)) rfl rfl rfl ?_
  refine W.any (.assign rfl) rfl rfl rfl ?_
  refine W.nil ?_
  refine E.thenN ?_
  refine WC.ret ?_
  refine E.ret1 rfl rfl ?_
  exact ⟨rfl, L1_1⟩

theorem fsub_ok (a b : Nat) (w : World) : Calls Try.prog 95 #[.int .u64 ((a : Nat) : Int), .int .u64 ((b : Nat) : Int)] w fun e w' => e = .returned (.int .u64 ((addS a (negS b) : Nat) : Int)) ∧ Le w w' := by
  refine enter Try.func95 rfl rfl ?_
  have L0 := Le.refl w
  refine WC.seq ?_
  refine WC.region ?_
  refine W.any (.assign rfl) rfl rfl rfl ?_
  refine W.nil ?_
  refine E.thenN ?_
  refine WC.seq ?_
  refine WC.region ?_
  refine W.any (.move rfl) rfl rfl rfl ?_
  refine W.any (.move rfl) rfl rfl rfl ?_
  refine W.ef rfl rfl rfl ?_
  refine Ef.call go142 rfl rfl (fneg_ok b w) ?_
  rintro _ w1_2 ⟨rfl, h1_2⟩
  refine ⟨_, rfl, ?_⟩
  have L1_2 := L0.trans h1_2
  refine W.ef rfl rfl rfl ?_
  refine Ef.call go55 rfl rfl (fadd_ok a _ w1_2) ?_
  rintro _ w1_3 ⟨rfl, h1_3⟩
  refine ⟨_, rfl, ?_⟩
  have L1_3 := L1_2.trans h1_3
  refine W.any (.assign rfl) rfl rfl rfl ?_
  refine W.nil ?_
  refine E.thenN ?_
  refine WC.ret ?_
  refine E.ret1 rfl rfl ?_
  exact ⟨rfl, L1_3⟩

theorem psum_ok {A : Option Addr} {n c : Nat} {xs : List Nat} (w : World) (hS : Sl w 1 A n (xs.map pv)) (hn : n ≤ 1000000) : Calls Try.prog 94 #[.slice A n c] w fun e w' => e = .returned (.int .u64 ((sumS xs : Nat) : Int)) ∧ Le w w' := by
  have hl := hS.1
  rw [List.length_map, Nat.mul_one] at hl
  refine enter Try.func94 rfl rfl ?_
  have L0 := Le.refl w
  refine WC.seq ?_
  refine WC.region ?_
  refine W.any (.assign rfl) rfl rfl rfl ?_
  refine W.nil ?_
  refine E.thenN ?_
  refine WC.seq ?_
  refine WC.region ?_
  refine W.any (.assign rfl) rfl rfl rfl ?_
  refine W.nil ?_
  refine E.thenN ?_
  refine WC.seq ?_
  refine WC.seq ?_
  refine WC.region ?_
  refine W.any (.move rfl) rfl rfl rfl ?_
  refine W.rd (.len Try.underlying61 rfl) rfl rfl rfl ?_
  refine W.any (.move rfl) rfl rfl rfl ?_
  refine W.nil ?_
  refine E.thenN ?_
  refine WC.block ?_
  refine WC.loop (ι := Nat) (fun k => [(3, .int .u64 ((sumS (xs.take k) : Nat) : Int)), (6, .slice A n c), (7, .int .i64 (n : Int)), (8, .int .i64 (k : Int))]) (fun k wl => k ≤ n ∧ Le w wl) (fun k => n - k) 0 ?_ ?_ ?_
  · exact .cons rfl (.cons rfl (.cons rfl (.cons rfl (.nil _))))
  · exact ⟨Nat.zero_le _, L0⟩
  · rintro k wl ⟨hk, Ll⟩
    refine WC.seq ?_
    refine WC.region ?_
    refine W.any (.lss rfl rfl) rfl rfl rfl ?_
    refine W.nil ?_
    refine E.thenN ?_
    refine WC.seq ?_
    refine WC.cond rfl (fun c0 => ?_) (fun c0 => ?_)
    · have hx := getn xs (show k < xs.length by omega)
      refine WC.skip ?_
      refine E.thenN ?_
      refine WC.seq ?_
      refine WC.block ?_
      refine WC.seq ?_
      refine WC.region ?_
      refine W.any (.idxS1 (k) Try.underlying61 sz30 rfl rfl (hS.isSome (j := k) (by omega) (by decide)) (rfl) (by omega)) rfl rfl rfl ?_
      refine W.rd (.loadS na30 rfl (hS.le Ll) (getp xs (by omega))) rfl rfl rfl ?_
      refine W.any (.assign rfl) rfl rfl rfl ?_
      refine W.nil ?_
      refine E.thenN ?_
      refine WC.region ?_
      refine W.any (.move rfl) rfl rfl rfl ?_
      refine W.any (.move rfl) rfl rfl rfl ?_
      refine W.ef rfl rfl rfl ?_
      refine Ef.call go55 rfl rfl (fadd_ok _ _ wl) ?_
      rintro _ w5_2 ⟨rfl, h5_2⟩
      refine ⟨_, rfl, ?_⟩
      have L5_2 := Ll.trans h5_2
      refine W.any (.assign rfl) rfl rfl rfl ?_
      refine W.nil ?_
      refine E.blkN ?_
      refine E.thenN ?_
      refine WC.region ?_
      refine W.any (.add rfl rfl (by omega)) rfl rfl rfl ?_
      refine W.any (.move rfl) rfl rfl rfl ?_
      refine W.nil ?_
      refine E.again (k + 1) (.cons' rfl (int_eq (congrArg Nat.cast (by rw [sumS_snoc xs k _ hx]))) (.cons rfl (.cons rfl (.cons rfl (.nil _))))) ?_ ?_
      · exact ⟨by omega, L5_2⟩
      · first | omega | (simp only []; omega)
    · have hkn : k = n := by omega
      subst hkn
      refine WC.exit ?_
      refine E.thenX ?_
      refine E.thenX ?_
      refine E.blkH ?_
      refine E.thenN ?_
      refine WC.seq ?_
      refine WC.region ?_
      refine W.any (.move rfl) rfl rfl rfl ?_
      refine W.any (.assign rfl) rfl rfl rfl ?_
      refine W.nil ?_
      refine E.thenN ?_
      refine WC.ret ?_
      refine E.ret1 rfl rfl ?_
      exact ⟨by rw [List.take_of_length_le (by omega)], Ll⟩

theorem pback_ok (t b : Nat) (w : World) : Calls Try.prog 51 #[.int .u64 ((t : Nat) : Int), .int .u64 ((b : Nat) : Int)] w fun e w' => e = .returned (.int .u64 ((addS t b : Nat) : Int)) ∧ Le w w' := by
  refine enter Try.func51 rfl rfl ?_
  have L0 := Le.refl w
  refine WC.seq ?_
  refine WC.region ?_
  refine W.any (.assign rfl) rfl rfl rfl ?_
  refine W.nil ?_
  refine E.thenN ?_
  refine WC.seq ?_
  refine WC.region ?_
  refine W.any (.move rfl) rfl rfl rfl ?_
  refine W.any (.move rfl) rfl rfl rfl ?_
  refine W.ef rfl rfl rfl ?_
  refine Ef.buildSliceN [_, _] Try.underlying61 el30 rfl one2p rfl (by decide) (by decide) ?_
  intro g1_2 w1_2 hg1_2 b1_2 h1_2
  have L1_2 := L0.trans h1_2
  refine W.ef rfl rfl rfl ?_
  refine Ef.call go94 rfl rfl (psum_ok (xs := [t, b]) w1_2 (b1_2.sl (s := 1) (n := 2) rfl) (by decide)) ?_
  rintro _ w1_3 ⟨rfl, h1_3⟩
  refine ⟨_, rfl, ?_⟩
  have L1_3 := L1_2.trans h1_3
  refine W.any (.assign rfl) rfl rfl rfl ?_
  refine W.nil ?_
  refine E.thenN ?_
  refine WC.ret ?_
  refine E.ret1 rfl rfl ?_
  exact ⟨by rw [← addS_zero]; rfl, L1_3⟩

theorem proof_ok (t : Nat) {A : Option Addr} {n c : Nat} {xs : List Nat} (w : World) (hS : Sl w 1 A n (xs.map pv)) (hn : n ≤ 1000000) : Calls Try.prog 52 #[.int .u64 ((t : Nat) : Int), .slice A n c] w fun e w' => e = .returned (.int .u64 ((addS t (negS (sumS xs)) : Nat) : Int)) ∧ Le w w' := by
  refine enter Try.func52 rfl rfl ?_
  have L0 := Le.refl w
  refine WC.seq ?_
  refine WC.region ?_
  refine W.any (.assign rfl) rfl rfl rfl ?_
  refine W.nil ?_
  refine E.thenN ?_
  refine WC.seq ?_
  refine WC.region ?_
  refine W.any (.move rfl) rfl rfl rfl ?_
  refine W.any (.move rfl) rfl rfl rfl ?_
  refine W.ef rfl rfl rfl ?_
  refine Ef.call go94 rfl rfl (psum_ok w (hS.le L0) hn) ?_
  rintro _ w1_2 ⟨rfl, h1_2⟩
  refine ⟨_, rfl, ?_⟩
  have L1_2 := L0.trans h1_2
  refine W.ef rfl rfl rfl ?_
  refine Ef.call go95 rfl rfl (fsub_ok _ _ w1_2) ?_
  rintro _ w1_3 ⟨rfl, h1_3⟩
  refine ⟨_, rfl, ?_⟩
  have L1_3 := L1_2.trans h1_3
  refine W.any (.assign rfl) rfl rfl rfl ?_
  refine W.nil ?_
  refine E.thenN ?_
  refine WC.ret ?_
  refine E.ret1 rfl rfl ?_
  exact ⟨rfl, L1_3⟩

theorem shows_ok (p t : Nat) (hp : p < 18446744073709551616) (hr : right p = true) (hb : base t = p) (w : World) : Calls Try.prog 50 #[.int .u64 ((p : Nat) : Int), .int .u64 ((t : Nat) : Int)] w fun e w' => e = .returned (.bool true) ∧ Le w w' := by
  refine enter Try.func50 rfl rfl ?_
  have L0 := Le.refl w
  refine WC.seq ?_
  refine WC.region ?_
  refine W.any (.assign rfl) rfl rfl rfl ?_
  refine W.nil ?_
  refine E.thenN ?_
  refine WC.seq ?_
  refine WC.region ?_
  refine W.any (.move rfl) rfl rfl rfl ?_
  refine W.ef rfl rfl rfl ?_
  refine Ef.call go90 rfl rfl (pright_T p hp hr w) ?_
  rintro _ w1_1 ⟨rfl, h1_1⟩
  refine ⟨_, rfl, ?_⟩
  have L1_1 := L0.trans h1_1
  refine W.any (.move rfl) rfl rfl rfl ?_
  refine W.rdg (Any.rd (.move rfl) _) rfl rfl rfl (rfl) rfl rfl ?_
  refine W.efg rfl rfl rfl (rfl) rfl rfl ?_
  refine Ef.call go49 rfl rfl (base_ok t w1_1) ?_
  rintro _ w1_4 ⟨rfl, h1_4⟩
  refine ⟨_, rfl, ?_⟩
  have L1_4 := L1_1.trans h1_4
  refine W.rdg (Any.rd (.move rfl) _) rfl rfl rfl (rfl) rfl rfl ?_
  refine W.rdg (Any.rd (.dec (.eql rfl rfl) (decide_eq_true (by rw [hb]))) _) rfl rfl rfl (rfl) rfl rfl ?_
  refine W.any (.pickT rfl rfl rfl) rfl rfl rfl ?_
  refine W.any (.assign rfl) rfl rfl rfl ?_
  refine W.nil ?_
  refine E.thenN ?_
  refine WC.ret ?_
  refine E.ret1 rfl rfl ?_
  exact ⟨rfl, L1_4⟩

theorem drawn_ok (name : ByteArray) (hnm : byteCells name = nBlind.map u8v) {A : Option Addr} {c : Nat} {xs : List Byte} (i : Nat) (w : World) (hS : Sb w A 32 xs) : Calls Try.prog 91 #[.string name, .slice A 32 c, .int .i64 (i : Int)] w fun e w' => e = .returned (.int .u64 ((fromB (tag nBlind [xs, [BitVec.ofNat 8 i]]) : Nat) : Int)) ∧ Le w w' := by
  refine enter Try.func91 rfl rfl ?_
  have L0 := Le.refl w
  refine WC.seq ?_
  refine WC.region ?_
  refine W.any (.assign rfl) rfl rfl rfl ?_
  refine W.nil ?_
  refine E.thenN ?_
  refine WC.seq ?_
  refine WC.region ?_
  refine W.any (.move rfl) rfl rfl rfl ?_
  refine W.any (.move rfl) rfl rfl rfl ?_
  refine W.any (.move rfl) rfl rfl rfl ?_
  refine W.rd (.toU8 i (isS Try.underlying3) Try.underlying5 rfl rfl) rfl rfl rfl ?_
  refine W.ef rfl rfl rfl ?_
  refine Ef.buildSlice1 Try.underlying107 el5 rfl rfl ?_
  intro g1_4 w1_4 hg1_4 b1_4 h1_4
  have L1_4 := L0.trans h1_4
  refine W.ef rfl rfl rfl ?_
  refine Ef.buildSliceN [_, _] Try.underlying211 el107 rfl one2s rfl (by decide) (by decide) ?_
  intro g1_5 w1_5 hg1_5 b1_5 h1_5
  have L1_5 := L1_4.trans h1_5
  refine W.ef rfl rfl rfl ?_
  refine Ef.call go107 rfl rfl (tag_ok _ nBlind w1_5 (ps := [xs, [BitVec.ofNat 8 i]]) hnm (b1_5.sl (s := 1) (n := 2) rfl) (.cons (hS.le L1_5) (.cons (Blk.sb (xs := [BitVec.ofNat 8 i]) (b1_4.le h1_5) rfl) (.nil _))) (by rw [tagLen2, hS.len]; show 24 + 5 + 32 + 1 ≤ _; decide)) ?_
  rintro _ w1_6 ⟨rfl, h1_6⟩
  refine ⟨_, rfl, ?_⟩
  have L1_6 := L1_5.trans h1_6
  refine W.ef rfl rfl rfl ?_
  refine Ef.call go139 rfl rfl (from_ok _ (tag_length _ _) w1_6) ?_
  rintro _ w1_7 ⟨rfl, h1_7⟩
  refine ⟨_, rfl, ?_⟩
  have L1_7 := L1_6.trans h1_7
  refine W.any (.assign rfl) rfl rfl rfl ?_
  refine W.nil ?_
  refine E.thenN ?_
  refine WC.ret ?_
  refine E.ret1 rfl rfl ?_
  exact ⟨rfl, L1_7⟩

theorem pfrom_ok (p : Nat) (hp : p < 18446744073709551616) (hr : right p = true) {A : Option Addr} {n c : Nat} {xs : List Nat} (w : World) (hS : Sl w 1 A n (xs.map pv)) (hn : n < 8) : Calls Try.prog 92 #[.int .u64 ((p : Nat) : Int), .slice A n c] w fun e w' => ∃ g, e = .returned (.slice (some ⟨g, 0, none⟩) (n + 1) (n + 1)) ∧ w.heap.size ≤ g ∧ Blk w' g 31 ((fromP p xs).map pv).toArray ∧ Le w w' := by
  have hl := hS.1
  rw [List.length_map, Nat.mul_one] at hl
  refine enter Try.func92 rfl rfl ?_
  have L0 := Le.refl w
  refine WC.seq ?_
  refine WC.region ?_
  refine W.any (.assign rfl) rfl rfl rfl ?_
  refine W.nil ?_
  refine E.thenN ?_
  refine WC.seq ?_
  refine WC.region ?_
  refine W.any (.move rfl) rfl rfl rfl ?_
  refine W.rd (.len Try.underlying61 rfl) rfl rfl rfl ?_
  refine W.any (.assign rfl) rfl rfl rfl ?_
  refine W.nil ?_
  refine E.thenN ?_
  refine WC.seq ?_
  refine WC.seq ?_
  refine WC.region ?_
  refine W.any (.move rfl) rfl rfl rfl ?_
  refine W.ef rfl rfl rfl ?_
  refine Ef.call go90 rfl rfl (pright_T p hp hr w) ?_
  rintro _ w2_1 ⟨rfl, h2_1⟩
  refine ⟨_, rfl, ?_⟩
  have L2_1 := L0.trans h2_1
  refine W.any (.not rfl) rfl rfl rfl ?_
  refine W.any (.move rfl) rfl rfl rfl ?_
  refine W.rdg (Any.rd (.move rfl) _) rfl rfl rfl (rfl) rfl rfl ?_
  refine W.rdg (Any.rd (.dec (.geq rfl rfl) (decide_eq_false (by omega))) _) rfl rfl rfl (rfl) rfl rfl ?_
  refine W.any (.pickF rfl rfl rfl) rfl rfl rfl ?_
  refine W.nil ?_
  refine E.thenN ?_
  refine WC.condF rfl ?_
  refine WC.skip ?_
  refine E.thenN ?_
  refine WC.seq ?_
  refine WC.region ?_
  refine W.any (.move rfl) rfl rfl rfl ?_
  refine W.any (.add rfl rfl (by omega)) rfl rfl rfl ?_
  refine W.ef rfl rfl rfl ?_
  refine Ef.makeSlice (n + 1) (n + 1) Try.underlying60 el31 rfl (by omega) rfl (by omega) (Nat.le_refl _) (by omega) (by unfold maxLen; omega) ?_
  intro g4_2 w4_2 hg4_2 b4_2 h4_2
  have L4_2 := L2_1.trans h4_2
  have bp : Blk w4_2 g4_2 31 ((List.replicate (n + 1) 0).map pv).toArray := b4_2.cast (made_pv _)
  have hg := Nat.le_trans L2_1.size hg4_2
  refine W.any (.assign rfl) rfl rfl rfl ?_
  refine W.nil ?_
  refine E.thenN ?_
  refine WC.seq ?_
  refine WC.region ?_
  refine W.any (.move rfl) rfl rfl rfl ?_
  refine W.any (.move rfl) rfl rfl rfl ?_
  refine W.any (.move rfl) rfl rfl rfl ?_
  refine W.any (.idxB1 (n) Try.underlying60 sz31 rfl rfl (rfl) (by omega)) rfl rfl rfl ?_
  refine W.ef0 rfl rfl ?_
  refine Ef.store sz31 rfl rfl (bp) (by simp) (rfl) ?_
  intro w5_4 b5_4 h5_4
  have L5_4 : Le w w5_4 := L4_2.then_ h5_4 (fun q hq => by cases hq; exact hg)
  have bp : Blk w5_4 g4_2 31 ((List.replicate n 0 ++ [p]).map pv).toArray := b5_4.cast ((set_pv _ n p).trans (by rw [List.replicate_succ', List.set_append_right _ _ (by simp)]; simp))
  refine W.nil ?_
  refine E.thenN ?_
  refine WC.seq ?_
  refine WC.seq ?_
  refine WC.region ?_
  refine W.any (.move rfl) rfl rfl rfl ?_
  refine W.any (.move rfl) rfl rfl rfl ?_
  refine W.nil ?_
  refine E.thenN ?_
  refine WC.block ?_
  refine WC.loop (ι := Nat) (fun k => [(1, .slice A n c), (5, .int .i64 (n : Int)), (6, .slice (some ⟨g4_2, 0, none⟩) (n + 1) (n + 1)), (25, .int .i64 (n : Int)), (26, .int .i64 (k : Int))]) (fun k wl => k ≤ n ∧ Le w wl ∧ Blk wl g4_2 31 ((List.replicate (n - k) 0 ++ fromP p (xs.drop (n - k))).map pv).toArray) (fun k => n - k) 0 ?_ ?_ ?_
  · exact .cons rfl (.cons rfl (.cons rfl (.cons rfl (.cons rfl (.nil _)))))
  · exact ⟨Nat.zero_le _, L5_4, bp.cast (by rw [Nat.sub_zero, List.drop_of_length_le (by omega)]; rfl)⟩
  · rintro k wl ⟨hk, Ll, bl⟩
    refine WC.seq ?_
    refine WC.region ?_
    refine W.any (.lss rfl rfl) rfl rfl rfl ?_
    refine W.nil ?_
    refine E.thenN ?_
    refine WC.seq ?_
    refine WC.cond rfl (fun c1 => ?_) (fun c1 => ?_)
    · have hmx := mixP_lt p hp (xs.drop (n - k)) (n - k) (n - 1 - k + 1)
      have hml : (List.replicate (n - k) 0 ++ fromP p (xs.drop (n - k))).length = n + 1 := by rw [List.length_append, List.length_replicate, fromP_length, List.length_drop]; omega
      refine WC.skip ?_
      refine E.thenN ?_
      refine WC.seq ?_
      refine WC.block ?_
      refine WC.seq ?_
      refine WC.region ?_
      refine W.any (.move rfl) rfl rfl rfl ?_
      refine W.any (.assign rfl) rfl rfl rfl ?_
      refine W.nil ?_
      refine E.thenN ?_
      refine WC.seq ?_
      refine WC.region ?_
      refine W.any (.move rfl) rfl rfl rfl ?_
      refine W.any (.sub rfl rfl (by omega)) rfl rfl rfl ?_
      refine W.any (.move rfl) rfl rfl rfl ?_
      refine W.any (.sub rfl rfl (by omega)) rfl rfl rfl ?_
      refine W.any (.assign rfl) rfl rfl rfl ?_
      refine W.nil ?_
      refine E.thenN ?_
      refine WC.draw [0, 1, 2, 3, 4, 5, 6, 7, 8, 9, 10, 11, 12, 13, 14] mixed (by kernel_rfl) ?_
      intro w10 d10
      have L10 := Ll.trans d10
      refine G.any rfl rfl (.move rfl) rfl rfl rfl ?_
      refine G.any rfl rfl (.move rfl) rfl rfl rfl ?_
      refine G.any rfl rfl (.move rfl) rfl rfl rfl ?_
      refine G.any rfl rfl (.move rfl) rfl rfl rfl ?_
      refine G.any rfl rfl (.add rfl rfl (by omega)) rfl rfl rfl ?_
      refine G.any rfl rfl (.idxB1 (n - 1 - k + 1) Try.underlying60 sz31 rfl rfl (by omega) (by omega)) rfl rfl rfl ?_
      refine G.rd rfl rfl (.loadB na31 rfl (bl.le d10) (getpB _ (by omega))) rfl rfl rfl ?_
      refine G.any rfl rfl (.move rfl) rfl rfl rfl ?_
      refine G.any rfl rfl (.move rfl) rfl rfl rfl ?_
      refine G.any rfl rfl (.idxS1 (n - 1 - k) Try.underlying61 sz30 rfl rfl (hS.isSome (j := n - 1 - k) (by omega) (by decide)) (by omega) (by omega)) rfl rfl rfl ?_
      refine G.rd rfl rfl (.loadS na30 rfl (hS.le L10) (getp xs (by omega))) rfl rfl rfl ?_
      refine G.ef rfl rfl rfl rfl rfl ?_
      refine Ef.call go49 rfl rfl (base_ok _ w10) ?_
      rintro _ w10_11 ⟨rfl, h10_11⟩
      refine ⟨_, rfl, ?_⟩
      have L10_11 := L10.trans h10_11
      refine ⟨fun _ => h10_11, ?_⟩
      refine G.ef rfl rfl rfl rfl rfl ?_
      refine Ef.call go140 rfl rfl (padd_ok _ _ hmx (base_lt _) w10_11) ?_
      rintro _ w10_12 ⟨rfl, h10_12⟩
      refine ⟨_, rfl, ?_⟩
      have L10_12 := L10_11.trans h10_12
      refine ⟨fun _ => h10_12, ?_⟩
      refine G.any rfl rfl (.idxB1 (n - 1 - k) Try.underlying60 sz31 rfl rfl (by omega) (by omega)) rfl rfl rfl ?_
      refine G.ef0 rfl rfl rfl rfl ?_
      refine Ef.store sz31 rfl rfl (bl.le (d10.trans (h10_11.trans h10_12))) (by rw [List.size_toArray, List.length_map]; omega) (rfl) ?_
      intro w10_14 b10_14 h10_14
      have L10_14 : Le w w10_14 := L10_12.then_ h10_14 (fun q hq => by cases hq; exact hg)
      refine ⟨fun h => absurd h (ne_true_of_eq_false (by kernel_rfl)), ?_⟩
      refine G.nil ?_
      refine E.blkN ?_
      refine E.thenN ?_
      refine WC.region ?_
      refine W.any (.add rfl rfl (by omega)) rfl rfl rfl ?_
      refine W.any (.move rfl) rfl rfl rfl ?_
      refine W.nil ?_
      refine E.again (k + 1) (.cons rfl (.cons rfl (.cons rfl (.cons rfl (.cons rfl (.nil _)))))) ?_ ?_
      · exact ⟨by omega, L10_14, b10_14.cast ((set_pv _ _ _).trans (by have := fill_back p xs k (by omega); rw [hl] at this; rw [← this]))⟩
      · first | omega | (simp only []; omega)
    · have hkn : n = k := by omega
      subst hkn
      refine WC.exit ?_
      refine E.thenX ?_
      refine E.thenX ?_
      refine E.blkH ?_
      refine E.thenN ?_
      refine WC.seq ?_
      refine WC.region ?_
      refine W.any (.move rfl) rfl rfl rfl ?_
      refine W.any (.assign rfl) rfl rfl rfl ?_
      refine W.nil ?_
      refine E.thenN ?_
      refine WC.ret ?_
      refine E.ret1 rfl rfl ?_
      exact ⟨g4_2, rfl, hg, bl.cast (by rw [Nat.sub_self]; rfl), Ll⟩

set_option maxHeartbeats 1000000 in
theorem pnew_ok (p : Nat) (hp : p < 18446744073709551616) (hr : right p = true) (hp1 : p ≠ 1) (seed : List Byte) (hse : seed.length = 32) (n : Nat) (h1 : 1 ≤ n) (h8 : n ≤ 8) (w : World) : Calls Try.prog 48 #[.int .u64 ((p : Nat) : Int), .agg (seed.map u8v).toArray, .int .i64 (n : Int)] w fun e w' => ∃ g A c, e = .returned (.tuple #[.agg #[.slice (some ⟨g, 0, none⟩) n n, .slice A (n - 1) c], .bool true]) ∧ w.heap.size ≤ g ∧ Blk w' g 31 ((fromP p (blindsP seed (n - 1))).map pv).toArray ∧ Sx.Own w' w.heap.size 30 1 A (n - 1) c ((blindsP seed (n - 1)).map pv) ∧ Le w w' := by
  refine enter Try.func48 rfl rfl ?_
  have L0 := Le.refl w
  refine WC.seq ?_
  refine WC.region ?_
  refine W.ef rfl rfl rfl ?_
  refine Ef.boxA rfl ?_
  intro g0_0 w0_0 hg0_0 b0_0 h0_0
  have L0_0 := L0.trans h0_0
  refine W.ef rfl rfl rfl ?_
  refine Ef.allocA z63 ?_
  intro g0_1 w0_1 hg0_1 b0_1 h0_1
  have L0_1 := L0_0.trans h0_1
  have bs := b0_0.le h0_1
  have br : Blk w0_1 g0_1 63 #[.slice none 0 0, .slice none 0 0] := b0_1
  have hL0 := h0_0.trans h0_1
  have LL := Le.refl w0_1
  refine W.any (.assign rfl) rfl rfl rfl ?_
  refine W.nil ?_
  refine E.thenN ?_
  refine WC.seq ?_
  refine WC.seq ?_
  refine WC.region ?_
  refine W.any (.move rfl) rfl rfl rfl ?_
  refine W.ef rfl rfl rfl ?_
  refine Ef.call go90 rfl rfl (pright_T p hp hr w0_1) ?_
  rintro _ w1_1 ⟨rfl, h1_1⟩
  refine ⟨_, rfl, ?_⟩
  have L1_1 := LL.trans h1_1
  refine W.any (.not rfl) rfl rfl rfl ?_
  refine W.any (.move rfl) rfl rfl rfl ?_
  refine W.rdg (Any.rd (.move rfl) _) rfl rfl rfl (rfl) rfl rfl ?_
  refine W.rdg (Any.rd (.dec (.eql rfl rfl) (decide_eq_false (by omega))) _) rfl rfl rfl (rfl) rfl rfl ?_
  refine W.any (.pickF rfl rfl rfl) rfl rfl rfl ?_
  refine W.any (.move rfl) rfl rfl rfl ?_
  refine W.rdg (Any.rd (.move rfl) _) rfl rfl rfl (rfl) rfl rfl ?_
  refine W.rdg (Any.rd (.dec (.lss rfl rfl) (decide_eq_false (by omega))) _) rfl rfl rfl (rfl) rfl rfl ?_
  refine W.any (.pickF rfl rfl rfl) rfl rfl rfl ?_
  refine W.any (.move rfl) rfl rfl rfl ?_
  refine W.rdg (Any.rd (.move rfl) _) rfl rfl rfl (rfl) rfl rfl ?_
  refine W.rdg (Any.rd (.dec (.gtr rfl rfl) (decide_eq_false (by omega))) _) rfl rfl rfl (rfl) rfl rfl ?_
  refine W.any (.pickF rfl rfl rfl) rfl rfl rfl ?_
  refine W.nil ?_
  refine E.thenN ?_
  refine WC.condF rfl ?_
  refine WC.skip ?_
  refine E.thenN ?_
  refine WC.seq ?_
  refine WC.region ?_
  refine W.ef rfl rfl rfl ?_
  refine Ef.allocA z63 ?_
  intro g3_0 w3_0 hg3_0 b3_0 h3_0
  have L3_0 := L1_1.trans h3_0
  have b3 : Blk w3_0 g3_0 63 #[.slice none 0 0, .slice none 0 0] := b3_0
  refine W.nil ?_
  refine E.thenN ?_
  refine WC.seq ?_
  refine WC.seq ?_
  refine WC.region ?_
  refine W.any (.move rfl) rfl rfl rfl ?_
  refine W.any (.sub rfl rfl (by omega)) rfl rfl rfl ?_
  refine W.any (.move rfl) rfl rfl rfl ?_
  refine W.nil ?_
  refine E.thenN ?_
  refine WC.block ?_
  refine WC.loop (ι := Nat × Option Addr × Nat) (fun ⟨k, Ab, cb⟩ => [(0, .int .u64 ((p : Nat) : Int)), (4, .pointer (some ⟨g0_0, 0, none⟩)), (6, .pointer (some ⟨g0_1, 0, none⟩)), (8, .pointer (some ⟨g3_0, 0, none⟩)), (27, .int .i64 ((n : Int) - 1)), (28, .int .i64 (k : Int))]) (fun ⟨k, Ab, cb⟩ wl => k ≤ n - 1 ∧ Le w1_1 wl ∧ Blk wl g3_0 63 #[.slice none 0 0, .slice Ab k cb] ∧ Sx.Own wl w1_1.heap.size 30 1 Ab k cb ((blindsP seed k).map pv) ∧ rowOf Ab cb ≠ some g3_0) (fun ⟨k, Ab, cb⟩ => n - 1 - k) (0, none, 0) ?_ ?_ ?_
  · exact .cons rfl (.cons rfl (.cons rfl (.cons rfl (.cons rfl (.cons rfl (.nil _))))))
  · exact ⟨Nat.zero_le _, h3_0, b3, Own.nil _ _ _ _ _, by simp [rowOf_zero]⟩
  · rintro ⟨k, Ab, cb⟩ wl ⟨hk, Ll, bl, ob, nb⟩
    have hgl := bl.lt
    refine WC.seq ?_
    refine WC.region ?_
    refine W.any (.lss rfl rfl) rfl rfl rfl ?_
    refine W.nil ?_
    refine E.thenN ?_
    refine WC.seq ?_
    refine WC.cond rfl (fun c1 => ?_) (fun c1 => ?_)
    · refine WC.skip ?_
      refine E.thenN ?_
      refine WC.seq ?_
      refine WC.block ?_
      refine WC.seq ?_
      refine WC.region ?_
      refine W.any (.move rfl) rfl rfl rfl ?_
      refine W.any (.assign rfl) rfl rfl rfl ?_
      refine W.nil ?_
      refine E.thenN ?_
      refine WC.draw [0, 1, 2, 3, 4, 5, 6, 7, 8] mixed (by kernel_rfl) ?_
      intro w7 d7
      have L7 := Ll.trans d7
      have bl := bl.le d7
      have ob := ob.le d7
      refine G.any rfl rfl (.field0 fa63_1 rfl) rfl rfl rfl ?_
      refine G.rd rfl rfl (.loadB na61 rfl (bl) (rfl)) rfl rfl rfl ?_
      refine G.any rfl rfl (.cutArr Try.underlying89 sz5 rfl) rfl rfl rfl ?_
      refine G.any rfl rfl (.move rfl) rfl rfl rfl ?_
      refine G.ef rfl rfl rfl rfl rfl ?_
      refine Ef.call go91 rfl rfl (drawn_ok _ rfl k w7 ((bs.le (L1_1.trans L7)).sb hse)) ?_
      rintro _ w7_4 ⟨rfl, h7_4⟩
      refine ⟨_, rfl, ?_⟩
      have L7_4 := L7.trans h7_4
      refine ⟨fun _ => h7_4, ?_⟩
      refine G.ef rfl rfl rfl rfl rfl ?_
      refine Ef.buildSlice1 Try.underlying61 el30 rfl rfl ?_
      intro g7_5 w7_5 hg7_5 b7_5 h7_5
      have L7_5 := L7_4.trans h7_5
      refine ⟨fun _ => h7_5, ?_⟩
      refine G.ef rfl rfl rfl rfl rfl ?_
      refine Ef.append Try.underlying61 el30 rfl ((ob.le h7_4).le h7_5) rfl (b7_5.src1 Try.underlying61 rfl) (by omega) (by unfold maxLen; omega) (L7_5.size) ?_
      intro A7_6 c7_6 w7_6 o7_6 h7_6 at7_6
      have L7_6 : Le w1_1 w7_6 := L7_5.then_ h7_6 (fun q hq => (ob.row hq).1)
      refine ⟨fun h => absurd h (ne_true_of_eq_false (by kernel_rfl)), ?_⟩
      have bl := ((bl.le h7_4).le h7_5).ch h7_6 nb
      have ob7 : Sx.Own w7_6 w1_1.heap.size 30 1 A7_6 (k + 1) c7_6 ((blindsP seed (k + 1)).map pv) := o7_6.cast rfl (by rw [blindsP_succ, List.map_append]; rfl)
      refine G.any rfl rfl (.field0 fa63_1 rfl) rfl rfl rfl ?_
      have nb7 : rowOf A7_6 c7_6 ≠ some g3_0 := at7_6.off (by have := d7.size; have := h7_4.size; have := h7_5.size; omega) nb
      refine G.ef0 rfl rfl rfl rfl ?_
      refine Ef.store sz61 rfl rfl (bl) (by simp) (rfl) ?_
      intro w7_8 b7_8 h7_8
      have L7_8 : Le w1_1 w7_8 := L7_6.then_ h7_8 (fun q hq => by cases hq; exact hg3_0)
      refine ⟨fun h => absurd h (ne_true_of_eq_false (by kernel_rfl)), ?_⟩
      have o8 := ob7.ch h7_8 (fun q hq => by cases hq; exact nb7)
      refine G.nil ?_
      refine E.blkN ?_
      refine E.thenN ?_
      refine WC.region ?_
      refine W.any (.add rfl rfl (by omega)) rfl rfl rfl ?_
      refine W.any (.move rfl) rfl rfl rfl ?_
      refine W.nil ?_
      refine E.again (k + 1, A7_6, c7_6) (.cons rfl (.cons rfl (.cons rfl (.cons rfl (.cons rfl (.cons rfl (.nil _))))))) ?_ ?_
      · exact ⟨by omega, L7_8, b7_8, o8, nb7⟩
      · first | omega | (simp only []; omega)
    · have hkn : k = n - 1 := by omega
      subst hkn
      refine WC.exit ?_
      refine E.thenX ?_
      refine E.thenX ?_
      refine E.blkH ?_
      refine E.thenN ?_
      refine WC.seq ?_
      refine WC.region ?_
      refine W.any (.move rfl) rfl rfl rfl ?_
      refine W.any (.field0 fa63_1 rfl) rfl rfl rfl ?_
      refine W.rd (.loadB na61 rfl (bl) (rfl)) rfl rfl rfl ?_
      refine W.ef rfl rfl rfl ?_
      refine Ef.call go92 rfl rfl (pfrom_ok p hp hr wl ob.sl (by omega)) ?_
      rintro _ w9_3 ⟨g9, rfl, hg9, b9, h9_3⟩
      refine ⟨_, rfl, ?_⟩
      have L9_3 := Ll.trans h9_3
      refine W.any (.field0 fa63_0 rfl) rfl rfl rfl ?_
      refine W.ef0 rfl rfl ?_
      refine Ef.store sz60 rfl rfl (bl.le h9_3) (by simp) (rfl) ?_
      intro w9_5 b9_5 h9_5
      have L9_5 : Le w1_1 w9_5 := L9_3.then_ h9_5 (fun q hq => by cases hq; exact hg3_0)
      have b9 := b9.ch h9_5 (by simp; have := bl.lt; omega)
      have ob := (ob.le h9_3).ch h9_5 (fun q hq => by cases hq; exact nb)
      refine W.nil ?_
      refine E.thenN ?_
      refine WC.seq ?_
      refine WC.region ?_
      refine W.rd (.loadAll ag63 (by rfl) rfl (b9_5)) rfl rfl rfl ?_
      refine W.ef0 rfl rfl ?_
      refine Ef.storeAll sz63 (by rfl) rfl rfl (br.le (L1_1.trans L9_5)) (by rfl) (one2s) ?_
      intro w10_1 b10_1 h10_1
      have L10_1 : Le w w10_1 := (hL0.trans (L1_1.trans L9_5)).then_ h10_1 (fun q hq => by cases hq; exact Nat.le_trans h0_0.size hg0_1)
      have b9 := b9.ch h10_1 (by simp; have := br.lt; have := L1_1.size; have := Ll.size; omega)
      have ob := ob.ch h10_1 (fun q hq => by cases hq; exact fun he => by have := (ob.row he).1; have := br.lt; have := L1_1.size; omega)
      refine W.any (.assign rfl) rfl rfl rfl ?_
      refine W.nil ?_
      refine E.thenN ?_
      refine WC.ret ?_
      refine E.retCT rfl rfl rfl b10_1 ag63 (by rfl) ?_
      exact ⟨g9, Ab, cb, by rw [show n - 1 + 1 = n by omega]; rfl, Nat.le_trans (hL0.trans (L1_1.trans Ll)).size hg9, b9, ob.mono (hL0.trans L1_1).size, L10_1⟩
end Go.Proofs.Ytfgakofjkldcjaa
