/- SplitProofs: for every input the law answers true and leaves its arguments as they were. -/
import Derived.Test.YtocheaahlpiajaaGreatDoorSplitProofsP
set_option linter.unusedVariables false
set_option linter.unusedSimpArgs false
namespace Go.Proofs.YtocheaahlpiajaaGreatDoor
open Tryz
open Go Go.Sx Go.Hsp Go.Num Go.Osp Go.Gsp Go.Rtp
set_option maxRecDepth 20000
set_option maxHeartbeats 1000000
structure PlR where
  pA : Option Addr
  pN : Nat
  pC : Nat
  bA : Option Addr
  bN : Nat
  bC : Nat
def noPlR : PlR := ⟨none, 0, 0, none, 0, 0⟩
def plV (r : PlR) : List Value := [.slice r.pA r.pN r.pC, .slice r.bA r.bN r.bC]
theorem plV_row : RowF plV 2 := ⟨fun _ => rfl, fun x v hv => by simp [plV] at hv; rcases hv with rfl | rfl <;> rfl, by decide⟩
structure PlnAt (w : World) (bs : Nat) (r : PlR) (p : Pln) : Prop where
  pts : OVec w bs 43 pv1 1 r.pA r.pN r.pC p.pts
  bl : OVec w bs 28 pv1 1 r.bA r.bN r.bC p.bl
def PlnsAt (w : World) (bs : Nat) (rs : List PlR) (ps : List Pln) : Prop := rs.length = ps.length /\ ∀ i, i < ps.length -> PlnAt w bs (rs.getD i noPlR) (ps.getD i noPln)
section
variable {w w' : World} {bs bs' : Nat} {r : PlR} {p : Pln} {rs : List PlR} {ps : List Pln} {F : Nat -> Prop}
theorem PlnAt.le (h : PlnAt w bs r p) (k : Le w w') : PlnAt w' bs r p := ⟨h.1.le k, h.2.le k⟩
theorem PlnAt.mono (h : PlnAt w bs r p) (k : bs' <= bs) : PlnAt w bs' r p := ⟨h.1.mono k, h.2.mono k⟩
theorem PlnAt.chP (h : PlnAt w bs r p) (k : ChP w w' F) (hF : ∀ i, F i -> i < bs) : PlnAt w' bs r p :=
  ⟨h.1.chP k fun g hg hf => by have := (h.1.row hg).1; have := hF g hf; omega, h.2.chP k fun g hg hf => by have := (h.2.row hg).1; have := hF g hf; omega⟩
theorem PlnAt.chO {b e s n c : Nat} {α : Type} {f : α -> List Value} {A : Option Addr} {xs : List α} (h : PlnAt w bs r p) (k : Ch w w' (rowOf A c)) (o : OVec w b e f s A n c xs) (h1 : 43 ≠ e) (h2 : 28 ≠ e) : PlnAt w' bs r p := ⟨h.1.ch_ty k o h1, h.2.ch_ty k o h2⟩
theorem PlnAt.chB {g t : Nat} {cs : Array Value} (h : PlnAt w bs r p) (k : Ch w w' (some g)) (o : Blk w g t cs) (h1 : 43 ≠ t) (h2 : 28 ≠ t) : PlnAt w' bs r p := ⟨h.1.ch_blk k o h1, h.2.ch_blk k o h2⟩
theorem PlnsAt.nil (w : World) (bs : Nat) : PlnsAt w bs [] [] := ⟨rfl, fun i hi => absurd hi (Nat.not_lt_zero _)⟩
theorem PlnsAt.le (h : PlnsAt w bs rs ps) (k : Le w w') : PlnsAt w' bs rs ps := ⟨h.1, fun i hi => (h.2 i hi).le k⟩
theorem PlnsAt.mono (h : PlnsAt w bs rs ps) (k : bs' <= bs) : PlnsAt w bs' rs ps := ⟨h.1, fun i hi => (h.2 i hi).mono k⟩
theorem PlnsAt.chP (h : PlnsAt w bs rs ps) (k : ChP w w' F) (hF : ∀ i, F i -> i < bs) : PlnsAt w' bs rs ps := ⟨h.1, fun i hi => (h.2 i hi).chP k hF⟩
theorem PlnsAt.chO {b e s n c : Nat} {α : Type} {f : α -> List Value} {A : Option Addr} {xs : List α} (h : PlnsAt w bs rs ps) (k : Ch w w' (rowOf A c)) (o : OVec w b e f s A n c xs) (h1 : 43 ≠ e) (h2 : 28 ≠ e) : PlnsAt w' bs rs ps := ⟨h.1, fun i hi => (h.2 i hi).chO k o h1 h2⟩
theorem PlnsAt.chB {g t : Nat} {cs : Array Value} (h : PlnsAt w bs rs ps) (k : Ch w w' (some g)) (o : Blk w g t cs) (h1 : 43 ≠ t) (h2 : 28 ≠ t) : PlnsAt w' bs rs ps := ⟨h.1, fun i hi => (h.2 i hi).chB k o h1 h2⟩
theorem PlnsAt.push (h : PlnsAt w bs rs ps) (k : PlnAt w bs r p) : PlnsAt w bs (rs ++ [r]) (ps ++ [p]) := by
  refine ⟨by simp [h.1], fun i hi => ?_⟩
  simp only [List.length_append, List.length_cons, List.length_nil] at hi
  by_cases e : i < ps.length
  · rw [getD_app1 e, getD_app1 (by rw [h.1]; exact e)]
    exact h.2 i e
  · have : i = ps.length := by omega
    subst this
    rw [getD_app2, <- h.1, getD_app2]
    exact k
theorem ns_at (rs : List PaR) (i : Nat) : (rs.map (·.wN)).getD i 0 = (rs.getD i noPaR).wN := by
  rw [List.getD_eq_getElem?_getD, List.getD_eq_getElem?_getD, List.getElem?_map]
  cases rs[i]? <;> rfl
theorem PlnsAt.cast {ps' : List Pln} (h : PlnsAt w bs rs ps) (e : ps = ps') : PlnsAt w bs rs ps' := e ▸ h
end
theorem pdrawn8_ok (name : ByteArray) (hnm : byteCells name = nPart.map u8v) {A : Option Addr} {c : Nat} {xs : List Byte} (i : Nat) (w : World) (hS : Sb w A 8 xs) : Calls prog 74 #[.string name, .slice A 8 c, .int .i64 (i : Int)] w fun e w' => e = .returned (.int .u64 ((fromB (tag nPart [xs, [BitVec.ofNat 8 i]]) : Nat) : Int)) /\ Le w w' := by
 refine enter func74 rfl rfl ?_
 have L0 := Le.refl w
 refine WC.sr (W.run 1 rfl (W.nx (WC.sr (W.run 3 rfl ?_))))
 refine W.r (.toU8 i (isS underlying3) underlying5 rfl rfl) ?_
 refine W.ef rfl rfl rfl ?_
 refine Ef.buildSlice1 underlying26 el5 rfl rfl ?_
 intro g1_4 w1_4 hg1_4 b1_4 h1_4
 have L1_4 := L0.trans h1_4
 refine W.ef rfl rfl rfl ?_
 refine Ef.buildSliceN [_, _] underlying157 el26 rfl one2s rfl (by decide) (by decide) ?_
 intro g1_5 w1_5 hg1_5 b1_5 h1_5
 have L1_5 := L1_4.trans h1_5
 refine W.cl go21 rfl rfl (tag_ok _ nPart w1_5 (ps := [xs, [BitVec.ofNat 8 i]]) hnm (b1_5.sl (s := 1) (n := 2) rfl) (.cons (hS.le L1_5) (.cons (Blk.sb (xs := [BitVec.ofNat 8 i]) (b1_4.le h1_5) rfl) (.nil _))) (by rw [tagLen2, hS.len]; show 24 + 4 + 8 + 1 <= _; decide)) ?_
 rintro _ w1_6 ⟨rfl, h1_6⟩
 have L1_6 := L1_5.trans h1_6
 refine W.cl go169 rfl rfl (from_ok _ (tag_length _ _) w1_6) ?_
 rintro _ w1_7 ⟨rfl, h1_7⟩
 have L1_7 := L1_6.trans h1_7
 refine W.run 1 rfl (W.nx (WC.ret ?_))
 refine E.ret1 rfl rfl ?_
 exact ⟨rfl, L1_7⟩

theorem pnewF_ok (p : Nat) (hp : p < 18446744073709551616) (seed : List Byte) (n : Nat) (h : ¬ (right p = true /\ p ≠ 1 /\ 1 <= n /\ n <= 8)) (w : World) : Calls prog 19 #[.int .u64 (((p : Nat) : Int)), .agg (seed.map u8v).toArray, .int .i64 (((n : Nat) : Int))] w fun r w' => r = .returned (.tuple #[.agg #[.slice none 0 0, .slice none 0 0], .bool false]) /\ Le w w' := by
 refine enter func19 rfl rfl ?_
 have L0 := Le.refl w
 refine WC.sr (W.ef rfl rfl rfl ?_)
 refine Ef.boxA rfl ?_
 intro g0_0 w0_0 hg0_0 b0_0 h0_0
 have L1 := L0.trans h0_0
 refine W.ef rfl rfl rfl ?_
 refine Ef.allocA z41 ?_
 intro g0_1 w0_1 hg0_1 b0_1 h0_1
 have L2 := L1.trans h0_1
 have b0_1 : Blk w0_1 g0_1 41 (plV noPlR).toArray := b0_1
 refine W.run 1 rfl (W.nx (WC.seq (WC.sr (W.run 1 rfl ?_))))
 refine W.cl go75 rfl rfl (pright_ok p (by omega) w0_1) ?_
 rintro _ w1_1 ⟨rfl, h1_1⟩
 have L3 := L2.trans h1_1
 refine W.run 1 rfl ?_
 by_cases q1_3 : (right p) = true
 ·refine W.a (.dec (.move rfl) (congrArg not (q1_3))) ?_
  refine W.run 3 rfl ?_
  by_cases q1_7 : ((p : Nat) : Int) = 1
  ·refine W.dt q1_7 rfl rfl (W.run 7 rfl (W.nx (WC.condT rfl (WC.sr ?_))))
   refine W.a (.buildP (plV noPlR) pl41 z41 rfl rfl) ?_
   have f4 := (b0_1.le h1_1)
   refine W.ef0 rfl rfl ?_
   refine Ef.storeAll sz41 (by rfl) rfl rfl f4 (by simp only [List.size_toArray, plV_row.len]) (plV_row.one noPlR) ?_
   intro w2_1 b2_1 h2_1
   have b2_1 : Blk w2_1 g0_1 41 (plV noPlR).toArray := b2_1
   have L5 := L3.tb h2_1 L1 hg0_1
   refine W.run 1 rfl (W.nx (WC.ret (E.thenR ?_)))
   refine E.retG2 rfl (resA rfl b2_1 ag41 (by rfl)) rfl ?_
   exact ⟨rfl, L5⟩
  refine W.df q1_7 rfl rfl (W.run 3 rfl ?_)
  by_cases q1_11 : ((n : Nat) : Int) < 1
  ·refine W.dt q1_11 rfl rfl (W.run 3 rfl (W.nx (WC.condT rfl (WC.sr ?_))))
   refine W.a (.buildP (plV noPlR) pl41 z41 rfl rfl) ?_
   have f6 := (b0_1.le h1_1)
   refine W.ef0 rfl rfl ?_
   refine Ef.storeAll sz41 (by rfl) rfl rfl f6 (by simp only [List.size_toArray, plV_row.len]) (plV_row.one noPlR) ?_
   intro w2_1_1 b2_1_1 h2_1_1
   have b2_1_1 : Blk w2_1_1 g0_1 41 (plV noPlR).toArray := b2_1_1
   have L7 := L3.tb h2_1_1 L1 hg0_1
   refine W.run 1 rfl (W.nx (WC.ret (E.thenR ?_)))
   refine E.retG2 rfl (resA rfl b2_1_1 ag41 (by rfl)) rfl ?_
   exact ⟨rfl, L7⟩
  refine W.df q1_11 rfl rfl (W.run 3 rfl (W.nx ?_))
  by_cases c0 : 8 < ((n : Nat) : Int)
  ·refine WC.condY rfl (decide_eq_true c0) ?_
   refine WC.sr ?_
   refine W.a (.buildP (plV noPlR) pl41 z41 rfl rfl) ?_
   have f8 := (b0_1.le h1_1)
   refine W.ef0 rfl rfl ?_
   refine Ef.storeAll sz41 (by rfl) rfl rfl f8 (by simp only [List.size_toArray, plV_row.len]) (plV_row.one noPlR) ?_
   intro w2_1_2 b2_1_2 h2_1_2
   have b2_1_2 : Blk w2_1_2 g0_1 41 (plV noPlR).toArray := b2_1_2
   have L9 := L3.tb h2_1_2 L1 hg0_1
   refine W.run 1 rfl (W.nx (WC.ret (E.thenR ?_)))
   refine E.retG2 rfl (resA rfl b2_1_2 ag41 (by rfl)) rfl ?_
   exact ⟨rfl, L9⟩
  refine WC.condN rfl (decide_eq_false c0) ?_
  exact absurd ⟨by assumption, by omega, by omega, by omega⟩ h
 refine W.a (.dec (.move rfl) (congrArg not ((Bool.eq_false_iff.2 q1_3)))) ?_
 refine W.run 11 rfl (W.nx (WC.condT rfl (WC.sr ?_)))
 refine W.a (.buildP (plV noPlR) pl41 z41 rfl rfl) ?_
 have f10 := (b0_1.le h1_1)
 refine W.ef0 rfl rfl ?_
 refine Ef.storeAll sz41 (by rfl) rfl rfl f10 (by simp only [List.size_toArray, plV_row.len]) (plV_row.one noPlR) ?_
 intro w2_1_3 b2_1_3 h2_1_3
 have b2_1_3 : Blk w2_1_3 g0_1 41 (plV noPlR).toArray := b2_1_3
 have L11 := L3.tb h2_1_3 L1 hg0_1
 refine W.run 1 rfl (W.nx (WC.ret (E.thenR ?_)))
 refine E.retG2 rfl (resA rfl b2_1_3 ag41 (by rfl)) rfl ?_
 exact ⟨rfl, L11⟩

theorem parts_ok (s : Nat) (n : Int) (w : World) : Calls prog 15 #[.int .u64 (((s : Nat) : Int)), .int .i64 (n)] w fun r w' => ∃ A c, r = .returned (.slice A (partsL s n).length c) /\ OVec w' w.heap.size 28 pv1 1 A (partsL s n).length c (partsL s n) /\ Le w w' := by
 refine enter func15 rfl rfl ?_
 have L0 := Le.refl w
 refine WC.sr (W.run 1 rfl (W.nx (WC.seq (WC.sr (W.run 2 rfl ?_)))))
 by_cases q1_2 : n < 1
 ·refine W.dt q1_2 rfl rfl (W.run 3 rfl (W.nx (WC.condT rfl (WC.sr (W.run 1 rfl (W.nx (WC.ret (E.thenR ?_))))))))
  refine E.retG1 rfl rfl ?_
  rw [partsL_none (by omega)]
  exact ⟨none, 0, rfl, OVec.nil _ _ _ _ _ _, L0⟩
 refine W.df q1_2 rfl rfl (W.run 3 rfl (W.nx ?_))
 by_cases c0 : 8 < n
 ·refine WC.condY rfl (decide_eq_true c0) ?_
  refine WC.sr (W.run 1 rfl (W.nx (WC.ret (E.thenR ?_))))
  refine E.retG1 rfl rfl ?_
  rw [partsL_none (by omega)]
  exact ⟨none, 0, rfl, OVec.nil _ _ _ _ _ _, L0⟩
 refine WC.condN rfl (decide_eq_false c0) ?_
 refine WC.sn (WC.sr (W.ef rfl rfl rfl ?_))
 refine Ef.allocA z151 ?_
 intro g3_0 w3_0 hg3_0 b3_0 h3_0
 have L1 := L0.trans h3_0
 have b3_0 : Blk w3_0 g3_0 151 ((List.replicate 8 0#8).map u8v).toArray := b3_0.cast (rfl)
 refine W.nx (WC.seq (WC.sr (W.run 1 rfl (W.ef rfl rfl rfl ?_))))
 refine Ef.buildSliceV (len := 1) [_] underlying35 el28 rfl (by simp [Value.cells]) rfl (by decide) (by decide) ?_
 intro g4_1 w4_1 hg4_1 b4_1 h4_1
 have L2 := L1.trans h4_1
 have b4_1 : Blk w4_1 g4_1 28 (([s]).map pv1).flatten.toArray := b4_1
 have o4_1 : OVec w4_1 w3_0.heap.size 28 pv1 1 (some ⟨g4_1, 0, none⟩) 1 1 ([s]) := b4_1.ovec hg4_1 pv1_row rfl rfl (by decide)
 refine W.cl go73 rfl rfl (psum_ok w4_1 (Vec.sl (g1 := pv) o4_1.vec) (by omega)) ?_
 rintro _ w4_2 ⟨rfl, h4_2⟩
 have L3 := L2.trans h4_2
 refine W.run 2 rfl (W.nx (WC.block ?_))
 have f4 := (b3_0.le (h4_1.trans h4_2))
 refine WC.loop (ι := Nat × (List Byte)) (fun ⟨k, bs⟩ => [(0, .int .u64 (((s : Nat) : Int))), (1, .int .i64 (n)), (5, .pointer (some ⟨g3_0, 0, none⟩)), (6, .int .i64 (((k : Nat) : Int))), (7, .int .u64 (((sumS ([s]) : Nat) : Int)))]) (fun ⟨k, bs⟩ wl0 => (k <= 8) /\ (bs = be8To (sumS [s]) k ++ List.replicate (8 - k) 0#8) /\ Le w wl0 /\ w4_2.heap.size <= wl0.heap.size /\ Blk wl0 g3_0 151 (bs.map u8v).toArray) (fun ⟨k, bs⟩ => 8 - k) (0, (List.replicate 8 0#8)) ?_ ?_ ?_
 ·exact .cons rfl (.cons rfl (.cons rfl (.cons rfl (.cons rfl (.nil _)))))
 ·exact ⟨by omega, rfl, L3, Nat.le_refl _, f4⟩
 rintro ⟨k, bs⟩ wl0 ⟨hk, hbs, Ll0, zl0, f0_0⟩
 have hbl : (be8To (sumS [s]) k).length = k := by simp [be8To, be8_length]; omega
 have hb8 : bs.length = 8 := by rw [hbs, List.length_append, hbl, List.length_replicate]; omega
 refine WC.seq (WC.sr (W.run 2 rfl (W.nx ?_)))
 by_cases c1 : ((k : Nat) : Int) < 8
 ·refine WC.condY rfl (decide_eq_true c1) ?_
  refine WC.sn (WC.seq (WC.block (WC.region (W.run 3 rfl ?_))))
  refine W.a (.mul rfl rfl (by omega)) ?_
  refine W.a (.sub rfl rfl (by omega)) ?_
  refine W.a (.shrN (sumS [s]) (56 - 8 * k) rfl rfl rfl (by omega) (by show 56 - 8 * k <= 64; omega)) ?_
  refine W.r (.toU8 ((sumS [s]) >>> (56 - 8 * k)) (isS underlying27) underlying5 rfl rfl) ?_
  refine W.a (.idxA1 (k) underlying151 sz5 rfl rfl (rfl) (by omega)) ?_
  refine W.ef0 rfl rfl ?_
  refine Ef.store sz5 rfl rfl f0_0 (by simp only [List.size_toArray, List.length_map, List.length_set]; omega) rfl ?_
  intro w7_8 b7_8 h7_8
  have b7_8 : Blk w7_8 g3_0 151 ((bs.set k (BitVec.ofNat 8 ((sumS [s]) >>> (56 - 8 * k)))).map u8v).toArray := bset b7_8
  have L5 := Ll0.tb h7_8 L0 hg3_0
  refine W.nil (E.blkN (E.thenN (WC.region (W.run 1 rfl ?_))))
  refine W.a (.add rfl rfl (by omega)) ?_
  refine W.run 1 rfl (W.nil ?_)
  refine E.again (k + 1, (bs.set k (BitVec.ofNat 8 ((sumS [s]) >>> (56 - 8 * k))))) (.cons rfl (.cons rfl (.cons rfl (.cons rfl (.cons rfl (.nil _)))))) ?_ ?_
  ·exact ⟨by omega, (by rw [hbs, set_fill _ _ _ 8 k hbl (by omega), be8To_succ _ _ (by omega)]), L5, by have := zl0; have := h7_8.size; omega, b7_8⟩
  first | omega | (simp only []; omega)
 refine WC.condN rfl (decide_eq_false c1) ?_
 refine WC.exit (E.thenX (E.thenX (E.blkH (E.thenN (WC.sr ?_)))))
 have h8k : k = 8 := by omega
 have hfl : bs = be8 (addS 0 s) := by subst h8k; rw [hbs]; simp [be8To, be8_length]; rfl
 have bq8 : Blk wl0 g3_0 151 ((be8 (addS 0 s)).map u8v).toArray := by rw [<- hfl]; exact f0_0
 refine W.run 1 rfl (W.ef rfl rfl rfl ?_)
 refine Ef.vmake0 ((n).toNat) pv1 underlying35 el28 rfl rfl rfl (by omega) (by omega) (by unfold maxLen; omega) ?_
 intro g8_1 w8_1 hg8_1 o8_1 h8_1
 have L6 := Ll0.trans h8_1
 refine W.run 1 rfl (W.nx (WC.seq (WC.sr (W.run 1 rfl ?_))))
 refine W.a (.sub rfl rfl (by omega)) ?_
 refine W.run 1 rfl (W.nx (WC.block ?_))
 have f7 := (bq8.le h8_1)
 refine WC.loop (ι := Nat × ((Option Addr)) × Nat) (fun ⟨k2, Ao, co⟩ => [(0, .int .u64 (((s : Nat) : Int))), (5, .pointer (some ⟨g3_0, 0, none⟩)), (8, .slice Ao k2 co), (34, .int .i64 ((n - 1))), (35, .int .i64 (((k2 : Nat) : Int)))]) (fun ⟨k2, Ao, co⟩ wl1 => (k2 <= n.toNat - 1) /\ Le w wl1 /\ w8_1.heap.size <= wl1.heap.size /\ Blk wl1 g3_0 151 ((be8 (addS 0 s)).map u8v).toArray /\ OVec wl1 wl0.heap.size 28 pv1 1 Ao k2 co (partK s k2)) (fun ⟨k2, Ao, co⟩ => n.toNat - 1 - k2) (0, (some ⟨g8_1, 0, none⟩), ((n).toNat)) ?_ ?_ ?_
 ·exact .cons rfl (.cons rfl (.cons rfl (.cons rfl (.cons rfl (.nil _)))))
 ·exact ⟨Nat.zero_le _, L6, Nat.le_refl _, f7, o8_1⟩
 rintro ⟨k2, Ao, co⟩ wl1 ⟨hk2, Ll1, zl1, f1_0, f1_1⟩
 have lb1_3 : wl0.heap.size <= wl1.heap.size := by have := h8_1.size; omega
 refine WC.sr (W.run 1 rfl (W.nx (WC.seq ?_)))
 by_cases c2 : ((k2 : Nat) : Int) < (n - 1)
 ·refine WC.condY rfl (decide_eq_true c2) ?_
  refine WC.sn (WC.seq (WC.block (WC.sr (W.run 2 rfl (W.nx (WC.region (W.run 1 rfl ?_)))))))
  refine W.a (.cutArr underlying151 sz5 rfl) ?_
  refine W.run 1 rfl ?_
  refine W.cl go74 rfl rfl (pdrawn8_ok _ rfl k2 wl1 (f1_0.sb (be8_length _))) ?_
  rintro _ w12_3 ⟨rfl, h12_3⟩
  have L8 := Ll1.trans h12_3
  refine W.ef rfl rfl rfl ?_
  refine Ef.buildSliceV (len := 1) [_] underlying35 el28 rfl (by simp [Value.cells]) rfl (by decide) (by decide) ?_
  intro g12_4 w12_4 hg12_4 b12_4 h12_4
  have L9 := L8.trans h12_4
  have b12_4 : Blk w12_4 g12_4 28 (([partD (addS 0 s) k2]).map pv1).flatten.toArray := b12_4
  have o12_4 : OVec w12_4 w12_3.heap.size 28 pv1 1 (some ⟨g12_4, 0, none⟩) 1 1 ([partD (addS 0 s) k2]) := b12_4.ovec hg12_4 pv1_row rfl rfl (by decide)
  have f10 := (f1_1.le (h12_3.trans h12_4))
  refine W.ef rfl rfl rfl ?_
  refine Ef.vpush (a := (partD (addS 0 s) k2)) underlying35 el28 underlying35 pv1_row rfl f10 rfl b12_4 (by omega) (by unfold maxLen; omega) (by have := lb1_3; have := h12_3.size; have := h12_4.size; omega) ?_
  intro A12_5 c12_5 w12_5 o12_5 h12_5 at12_5
  have L11 := L9.then_ h12_5 (fun q hq => Nat.le_trans Ll0.size (f10.row hq).1)
  refine W.run 1 rfl (W.nil (E.blkN (E.thenN (WC.region ?_))))
  refine W.a (.add rfl rfl (by omega)) ?_
  refine W.run 1 rfl (W.nil ?_)
  have f12 := ((f1_0.le (h12_3.trans h12_4)).ch h12_5 (fun he => by have := (f10.row he).1; have := f0_0.lt; omega))
  refine E.again (k2 + 1, A12_5, c12_5) (.cons rfl (.cons rfl (.cons rfl (.cons rfl (.cons rfl (.nil _)))))) ?_ ?_
  ·exact ⟨by omega, L11, by have := zl1; have := h12_3.size; have := h12_4.size; have := h12_5.size; omega, f12, (o12_5.cast rfl (partK_succ _ _).symm)⟩
  first | omega | (simp only []; omega)
 refine WC.condN rfl (decide_eq_false c2) ?_
 refine WC.exit (E.thenX (E.thenX (E.blkH (E.thenN (WC.sr (W.run 3 rfl ?_))))))
 refine W.cl go73 rfl rfl (psum_ok wl1 (Vec.sl (g1 := pv) f1_1.vec) (by omega)) ?_
 rintro _ w14_3 ⟨rfl, h14_3⟩
 have L13 := Ll1.trans h14_3
 refine W.cl go60 rfl rfl (fsub_ok s (sumS (partK s k2)) w14_3) ?_
 rintro _ w14_4 ⟨rfl, h14_4⟩
 have L14 := L13.trans h14_4
 refine W.ef rfl rfl rfl ?_
 refine Ef.buildSliceV (len := 1) [_] underlying35 el28 rfl (by simp [Value.cells]) rfl (by decide) (by decide) ?_
 intro g14_5 w14_5 hg14_5 b14_5 h14_5
 have L15 := L14.trans h14_5
 have b14_5 : Blk w14_5 g14_5 28 (([addS s (negS (sumS (partK s k2)))]).map pv1).flatten.toArray := b14_5
 have o14_5 : OVec w14_5 w14_4.heap.size 28 pv1 1 (some ⟨g14_5, 0, none⟩) 1 1 ([addS s (negS (sumS (partK s k2)))]) := b14_5.ovec hg14_5 pv1_row rfl rfl (by decide)
 have f16 := (f1_1.le (h14_3.trans (h14_4.trans h14_5)))
 refine W.ef rfl rfl rfl ?_
 refine Ef.vpush (a := (addS s (negS (sumS (partK s k2))))) underlying35 el28 underlying35 pv1_row rfl f16 rfl b14_5 (by omega) (by unfold maxLen; omega) (by have := lb1_3; have := h14_3.size; have := h14_4.size; have := h14_5.size; omega) ?_
 intro A14_6 c14_6 w14_6 o14_6 h14_6 at14_6
 have L17 := L15.then_ h14_6 (fun q hq => Nat.le_trans Ll0.size (f16.row hq).1)
 refine W.run 1 rfl (W.nx (WC.ret ?_))
 refine E.retG1 rfl rfl ?_
 have hkn : k2 = n.toNat - 1 := (by omega)
 have hpl := partsL_len (s := s) (n := n) (by omega) (by omega)
 have hpe : partsL s n = partK s k2 ++ [addS s (negS (sumS (partK s k2)))] := (by rw [hkn]; exact if_neg (by omega))
 rw [hpe, List.length_append, partK_len]
 exact ⟨_, _, rfl, (o14_6.mono Ll0.size), L17⟩

theorem whole_ok {A : Option Addr} {n c : Nat} {xs : List Nat} (w : World) (hS : Sl w 1 A n (xs.map pv)) (hn : n <= 1000000) : Calls prog 24 #[.slice A n c] w fun r w' => r = .returned (.int .u64 ((sumS xs : Nat) : Int)) /\ Le w w' := by
 have hV : Vec w pv1 1 A n xs := Sl.vec (g1 := pv) hS
 refine enter func24 rfl rfl ?_
 have L0 := Le.refl w
 refine WC.sr (W.run 1 rfl (W.nx (WC.sr (W.run 1 rfl ?_))))
 refine W.cl go73 rfl rfl (psum_ok w (Vec.sl (g1 := pv) (hV.le L0)) (by omega)) ?_
 rintro _ w1_1 ⟨rfl, h1_1⟩
 have L1 := L0.trans h1_1
 refine W.run 1 rfl (W.nx (WC.ret ?_))
 refine E.retG1 rfl rfl ?_
 exact ⟨rfl, L1⟩

theorem plans_ok (s : Nat) {seed : List Byte} (hse : seed.length = 32) {A : Option Addr} {n c : Nat} {rs : List PaR} (w : World) (hV : Vec w prV 4 A n rs) (hn : n <= 1000000) : Calls prog 16 #[.slice A n c, .int .u64 (((s : Nat) : Int)), .agg (seed.map u8v).toArray] w fun r w' => ∃ A' c' qs, r = .returned (.slice A' (plansL s seed (rs.map (·.wN))).length c') /\ OVec w' w.heap.size 41 plV 2 A' (plansL s seed (rs.map (·.wN))).length c' qs /\ PlnsAt w' w.heap.size qs (plansL s seed (rs.map (·.wN))) /\ Le w w' := by
 have hl := hV.1
 have hnl : (rs.map (·.wN)).length = n := by rw [List.length_map]; exact hl
 refine enter func16 rfl rfl ?_
 have L0 := Le.refl w
 refine WC.sr (W.ef rfl rfl rfl ?_)
 refine Ef.boxA rfl ?_
 intro g0_0 w0_0 hg0_0 b0_0 h0_0
 have L1 := L0.trans h0_0
 have b0_0 : Blk w0_0 g0_0 30 (seed.map u8v).toArray := b0_0
 refine W.run 1 rfl (W.nx (WC.sr (W.run 1 rfl (W.nx (WC.seq (WC.sr (W.run 2 rfl ?_)))))))
 refine W.r (.len underlying31 rfl) ?_
 obtain ⟨ts, hets⟩ : ∃ z, z = (partsL s ((n : Nat) : Int)) := ⟨_, rfl⟩
 refine W.cl go15 rfl rfl ((by have k := parts_ok s ((n : Nat) : Int) w0_0; rw [<- hets] at k; exact k)) ?_
 rintro _ w2_3 ⟨At2_3, ct2_3, rfl, ot2_3, h2_3⟩
 have L2 := L1.trans h2_3
 have hlt2_3 := partsL_le s ((n : Nat) : Int); have hql2_3 := partsL_lt s ((n : Nat) : Int)
 have htn : ts.length <= n := by rw [hets]; exact partsL_len_le s n
 have hpa : ∀ i, planAt s seed (rs.map (·.wN)) i = planT (ts.getD i 0) (seedD seed i) (rs.getD i noPaR).wN := fun i => by unfold planAt; rw [hnl, <- hets, ns_at]
 have hmay : PlansMay s (rs.map (·.wN)) ↔ ∀ i, i < ts.length -> PlnMay (ts.getD i 0) (rs.getD i noPaR).wN := by unfold PlansMay; simp only [hnl, <- hets, ns_at]
 refine W.r (.len underlying35 rfl) ?_
 refine W.run 1 rfl (W.nx (WC.block ?_))
 have f3 := (b0_0.le h2_3)
 refine WC.loop (ι := Nat × ((Option Addr)) × Nat × ((List PlR))) (fun ⟨i, Ao, co, qo⟩ => [(0, .slice A n c), (5, .pointer (some ⟨g0_0, 0, none⟩)), (7, .slice Ao i co), (15, .slice At2_3 ts.length ct2_3), (16, .int .i64 (((ts.length : Nat) : Int))), (17, .int .i64 (((i : Nat) : Int)))]) (fun ⟨i, Ao, co, qo⟩ wl0 => (i <= ts.length) /\ (∀ j, j < i -> PlnMay (ts.getD j 0) (rs.getD j noPaR).wN) /\ Le w wl0 /\ w2_3.heap.size <= wl0.heap.size /\ Blk wl0 g0_0 30 (seed.map u8v).toArray /\ OVec wl0 w2_3.heap.size 41 plV 2 Ao i co qo /\ PlnsAt wl0 w2_3.heap.size qo (planK s seed (rs.map (·.wN)) i) /\ OVec wl0 w0_0.heap.size 28 pv1 1 At2_3 ts.length ct2_3 ts) (fun ⟨i, Ao, co, qo⟩ => ts.length - i) (0, none, 0, ([])) ?_ ?_ ?_
 ·exact .cons rfl (.cons rfl (.cons rfl (.cons rfl (.cons rfl (.cons rfl (.nil _))))))
 ·exact ⟨Nat.zero_le _, fun j hj => absurd hj (Nat.not_lt_zero _), L2, Nat.le_refl _, f3, (OVec.nil w2_3 w2_3.heap.size 41 plV 2 none), (PlnsAt.nil w2_3 w2_3.heap.size), ot2_3⟩
 rintro ⟨i, Ao, co, qo⟩ wl0 ⟨hi, hall, Ll0, zl0, f0_0, f0_1, f0_2, f0_3⟩
 have lb0_4 : w2_3.heap.size <= wl0.heap.size := by omega
 have lb0_5 : w2_3.heap.size <= wl0.heap.size := by omega
 have lb0_3 : w0_0.heap.size <= wl0.heap.size := by have := h2_3.size; omega
 refine WC.sr (W.run 1 rfl (W.nx (WC.seq ?_)))
 by_cases c0 : ((i : Nat) : Int) < ((ts.length : Nat) : Int)
 ·refine WC.condY rfl (decide_eq_true c0) ?_
  refine WC.sn (WC.seq (WC.block (WC.sr (W.run 1 rfl ?_))))
  refine W.a (.idxS (i) underlying35 sz28 rfl rfl (ot2_3.vec.isSome pv1_row (by omega)) (rfl) (by omega)) ?_
  refine W.r (.vone (v := .int .u64 ((((ts.getD i 0) : Nat) : Int))) na28 rfl f0_3.vec pv1_row (getS ts 0 (by omega)) rfl) ?_
  refine W.run 1 rfl ?_
  by_cases qc4_4 : PlnMay (ts.getD i 0) (rs.getD i noPaR).wN
  ·refine W.run 1 rfl (W.nx (WC.seq ?_))
   refine WC.drawM [0, 2, 3, 4, 8, 9, 10, 11, 12, 13] [1, 5, 6, 7, 14, 15, 16, 17, 18] [19, 20] (fun i => bif Nat.beq i 6 then [5] else bif Nat.beq i 7 then [6] else bif Nat.beq i 14 then [1, 7] else bif Nat.beq i 15 then [14] else bif Nat.beq i 16 then [15] else bif Nat.beq i 17 then [15] else []) mixed (by kernel_rfl) ?_
   intro w5 d5
   have L4 := Ll0.trans d5
   refine G.run 1 rfl ?_
   refine G.a rfl (.cutArr underlying30 sz5 rfl) ?_
   refine G.run 1 rfl ?_
   refine G.r rfl (.toU8 i (isS underlying3) underlying5 rfl rfl) ?_
   refine G.run 2 rfl ?_
   refine G.a rfl (.idxS (i) underlying31 sz34 rfl rfl (hV.isSome prV_row (by omega)) (rfl) (by omega)) ?_
   refine G.a rfl (.vfield fa34_1 (hV.isSome prV_row (by omega)) rfl) ?_
   refine G.r rfl (.vcell (j := i) (o := 1) (v := .slice ((rs.getD i noPaR).wA) ((rs.getD i noPaR).wN) ((rs.getD i noPaR).wC)) na32 rfl (hV.le L4) prV_row (getS rs noPaR (by omega)) rfl) ?_
   refine G.r rfl (.len underlying32 rfl) ?_
   refine G.nil ?_
   refine E.free3 ⟨by rfl, fun iU => (bif Nat.beq iU 1 then (fun v w' => v = .int .u64 (((base (ts.getD i 0) : Nat) : Int))) else (bif Nat.beq iU 5 then (fun v w' => ∃ g5_5, v = .slice (some ⟨g5_5, 0, none⟩) 1 1 /\ OVec w' w5.heap.size 5 byteV 1 (some ⟨g5_5, 0, none⟩) 1 1 ([BitVec.ofNat 8 i])) else (bif Nat.beq iU 6 then (fun v w' => ∃ g5_5 g5_6, v = .slice (some ⟨g5_6, 0, none⟩) 2 2 /\ OVec w' w5.heap.size 5 byteV 1 (some ⟨g5_5, 0, none⟩) 1 1 ([BitVec.ofNat 8 i]) /\ Blk w' g5_6 26 #[.slice (some ⟨g0_0, 0, none⟩) 32 32, .slice (some ⟨g5_5, 0, none⟩) 1 1]) else (bif Nat.beq iU 7 then (fun v w' => v = .agg ((tag nSplit [seed, [BitVec.ofNat 8 i]]).map u8v).toArray) else (bif Nat.beq iU 14 then (fun v w' => ∃ gp5_14 Ab5_14 cb5_14, v = .tuple #[.agg (plV (⟨some ⟨gp5_14, 0, none⟩, (rs.getD i noPaR).wN, (rs.getD i noPaR).wN, Ab5_14, (rs.getD i noPaR).wN - 1, cb5_14⟩ : PlR)).toArray, .bool true] /\ PlnAt w' w5.heap.size (⟨some ⟨gp5_14, 0, none⟩, (rs.getD i noPaR).wN, (rs.getD i noPaR).wN, Ab5_14, (rs.getD i noPaR).wN - 1, cb5_14⟩ : PlR) (planT (ts.getD i 0) (tag nSplit [seed, [BitVec.ofNat 8 i]]) (rs.getD i noPaR).wN)) else (bif Nat.beq iU 15 then (fun v w' => ∃ gp5_14 Ab5_14 cb5_14, v = .tuple #[.agg (plV (⟨some ⟨gp5_14, 0, none⟩, (rs.getD i noPaR).wN, (rs.getD i noPaR).wN, Ab5_14, (rs.getD i noPaR).wN - 1, cb5_14⟩ : PlR)).toArray, .bool true] /\ PlnAt w' w5.heap.size (⟨some ⟨gp5_14, 0, none⟩, (rs.getD i noPaR).wN, (rs.getD i noPaR).wN, Ab5_14, (rs.getD i noPaR).wN - 1, cb5_14⟩ : PlR) (planT (ts.getD i 0) (tag nSplit [seed, [BitVec.ofNat 8 i]]) (rs.getD i noPaR).wN)) else (bif Nat.beq iU 16 then (fun v w' => ∃ gp5_14 Ab5_14 cb5_14, v = .agg (plV (⟨some ⟨gp5_14, 0, none⟩, (rs.getD i noPaR).wN, (rs.getD i noPaR).wN, Ab5_14, (rs.getD i noPaR).wN - 1, cb5_14⟩ : PlR)).toArray /\ PlnAt w' w5.heap.size (⟨some ⟨gp5_14, 0, none⟩, (rs.getD i noPaR).wN, (rs.getD i noPaR).wN, Ab5_14, (rs.getD i noPaR).wN - 1, cb5_14⟩ : PlR) (planT (ts.getD i 0) (tag nSplit [seed, [BitVec.ofNat 8 i]]) (rs.getD i noPaR).wN)) else (bif Nat.beq iU 17 then (fun v w' => v = .bool true) else (bif Nat.beq iU 18 then (fun v w' => ∃ g5_18, v = .pointer (some ⟨g5_18, 0, none⟩) /\ Blk w' g5_18 41 (plV noPlR).toArray) else (fun _ _ => True)))))))))), ?_, ?_, ?_⟩
   ·intro iU hi v w1 w2 hv hle
    simp only [List.mem_cons, List.not_mem_nil, or_false] at hi
    rcases hi with rfl | rfl | rfl | rfl | rfl | rfl | rfl | rfl | rfl
    ·exact hv
    ·obtain ⟨g5_5, hvv, k5_5_0⟩ := hv; exact ⟨g5_5, hvv, k5_5_0.le hle⟩
    ·obtain ⟨g5_5, g5_6, hvv, k5_5_0, k5_6_0⟩ := hv; exact ⟨g5_5, g5_6, hvv, k5_5_0.le hle, k5_6_0.le hle⟩
    ·exact hv
    ·obtain ⟨gp5_14, Ab5_14, cb5_14, hvv, k5_14_0⟩ := hv; exact ⟨gp5_14, Ab5_14, cb5_14, hvv, k5_14_0.le hle⟩
    ·obtain ⟨gp5_14, Ab5_14, cb5_14, hvv, k5_14_0⟩ := hv; exact ⟨gp5_14, Ab5_14, cb5_14, hvv, k5_14_0.le hle⟩
    ·obtain ⟨gp5_14, Ab5_14, cb5_14, hvv, k5_14_0⟩ := hv; exact ⟨gp5_14, Ab5_14, cb5_14, hvv, k5_14_0.le hle⟩
    ·exact hv
    obtain ⟨g5_18, hvv, k5_18_0⟩ := hv; exact ⟨g5_18, hvv, k5_18_0.le hle⟩
   ·intro iU hi
    simp only [List.mem_cons, List.not_mem_nil, or_false] at hi
    rcases hi with rfl | rfl | rfl | rfl | rfl | rfl | rfl | rfl | rfl
    ·refine .inl ⟨rfl, Step.of0 rfl rfl ?_⟩
     intro w1 hle
     refine Ef.call go20 rfl rfl (base_ok (ts.getD i 0) w1) ?_
     rintro _ w2 ⟨rfl, h2⟩
     refine ⟨_, rfl, ?_⟩
     exact ⟨h2, rfl, fun k hk => hk.elim⟩
    ·refine .inl ⟨rfl, Step.of0 rfl rfl ?_⟩
     intro w1 hle
     refine Ef.buildSliceV (len := 1) [_] underlying26 el5 rfl (by simp [Value.cells, u8v]) rfl (by decide) (by decide) ?_
     intro g5_5 w2 hg b5_5 h2
     have b5_5 : Blk w2 g5_5 5 (([BitVec.ofNat 8 i]).map byteV).flatten.toArray := b5_5
     have o5_5 : OVec w2 w1.heap.size 5 byteV 1 (some ⟨g5_5, 0, none⟩) 1 1 ([BitVec.ofNat 8 i]) := b5_5.ovec hg byteV_row rfl rfl (by decide)
     exact ⟨h2, ⟨_, rfl, (o5_5.mono hle.size)⟩, fun k hk => o5_5.row hk⟩
    ·refine .inl ⟨rfl, Step.of1 (j := 5) rfl rfl rfl ?_⟩
     intro v5 w1 hle hv5
     obtain ⟨g5_5, rfl, k5_5_0⟩ := hv5
     refine Ef.buildSliceN [_, _] underlying157 el26 rfl (by intro v hv; simp at hv; rcases hv with rfl | rfl <;> rfl) rfl (by decide) (by decide) ?_
     intro g5_6 w2 hg b5_6 h2
     have b5_6 : Blk w2 g5_6 26 #[.slice (some ⟨g0_0, 0, none⟩) 32 32, .slice (some ⟨g5_5, 0, none⟩) 1 1] := b5_6
     have f11 := (k5_5_0.le h2)
     exact ⟨h2, ⟨_, _, rfl, f11, b5_6⟩, fun k hk => (rowOf_lit hk) ▸ ⟨hg, b5_6.lt⟩⟩
    ·refine .inl ⟨rfl, Step.of1 (j := 6) rfl rfl rfl ?_⟩
     intro v6 w1 hle hv6
     obtain ⟨g5_5, g5_6, rfl, k5_5_0, k5_6_0⟩ := hv6
     have f13 := (f0_0.le (d5.trans hle))
     refine Ef.call go21 rfl rfl (tag_ok _ nSplit w1 (ps := [seed, [BitVec.ofNat 8 i]]) rfl (k5_6_0.sl (s := 1) (n := 2) rfl) (.cons (f13.sb hse) (.cons (byte_sb k5_5_0.vec) (.nil _))) (by rw [tagLen2, hse]; show 24 + 5 + 32 + 1 <= _; decide)) ?_
     rintro _ w2 ⟨rfl, h2⟩
     refine ⟨_, rfl, ?_⟩
     exact ⟨h2, rfl, fun k hk => hk.elim⟩
    ·refine .inl ⟨rfl, Step.of2 (j := 1) (k := 7) rfl rfl rfl rfl ?_⟩
     intro v1 v7 w1 hle hv1 hv7
     have hv1 : v1 = .int .u64 (((base (ts.getD i 0) : Nat) : Int)) := hv1
     subst hv1
     have hv7 : v7 = .agg ((tag nSplit [seed, [BitVec.ofNat 8 i]]).map u8v).toArray := hv7
     subst hv7
     refine Ef.call go19 rfl rfl (pnew_ok (base (ts.getD i 0)) (base_lt _) (right_base _) qc4_4.1 (tag nSplit [seed, [BitVec.ofNat 8 i]]) (tag_length _ _) (rs.getD i noPaR).wN qc4_4.2.1 qc4_4.2.2 w1) ?_
     rintro _ w2 ⟨gp5_14, Ab5_14, cb5_14, rfl, hgp5_14, bp5_14, ob5_14, h2⟩
     refine ⟨_, rfl, ?_⟩
     have pq5_14 : PlnAt w2 w1.heap.size (⟨some ⟨gp5_14, 0, none⟩, (rs.getD i noPaR).wN, (rs.getD i noPaR).wN, Ab5_14, (rs.getD i noPaR).wN - 1, cb5_14⟩ : PlR) (planT (ts.getD i 0) (tag nSplit [seed, [BitVec.ofNat 8 i]]) (rs.getD i noPaR).wN) := ⟨bp5_14.ovec hgp5_14 pv1_row (flat_sing (g1 := pv) _).symm (planT_len _ _ qc4_4.2.1).1 (show (rs.getD i noPaR).wN <= maxLen by have := qc4_4.2.2; unfold maxLen; omega), Own.ovec (g1 := pv) ob5_14⟩
     exact ⟨h2, ⟨_, _, _, rfl, (pq5_14.mono hle.size)⟩, fun k hk => hk.elim⟩
    ·refine Step3.pure1 (j := 14) rfl rfl rfl rfl ?_
     intro v14 w1 hle hv14
     obtain ⟨gp5_14, Ab5_14, cb5_14, rfl, k5_14_0⟩ := hv14
     exact ⟨.tuple #[.agg (plV (⟨some ⟨gp5_14, 0, none⟩, (rs.getD i noPaR).wN, (rs.getD i noPaR).wN, Ab5_14, (rs.getD i noPaR).wN - 1, cb5_14⟩ : PlR)).toArray, .bool true], .move rfl, ⟨_, _, _, rfl, k5_14_0⟩, fun k hk => hk.elim⟩
    ·refine Step3.pure1 (j := 15) rfl rfl rfl rfl ?_
     intro v15 w1 hle hv15
     obtain ⟨gp5_14, Ab5_14, cb5_14, rfl, k5_14_0⟩ := hv15
     exact ⟨.agg (plV (⟨some ⟨gp5_14, 0, none⟩, (rs.getD i noPaR).wN, (rs.getD i noPaR).wN, Ab5_14, (rs.getD i noPaR).wN - 1, cb5_14⟩ : PlR)).toArray, .extract (v := .agg (plV (⟨some ⟨gp5_14, 0, none⟩, (rs.getD i noPaR).wN, (rs.getD i noPaR).wN, Ab5_14, (rs.getD i noPaR).wN - 1, cb5_14⟩ : PlR)).toArray) rfl rfl, ⟨_, _, _, rfl, k5_14_0⟩, fun k hk => hk.elim⟩
    ·refine Step3.pure1 (j := 15) rfl rfl rfl rfl ?_
     intro v15 w1 hle hv15
     obtain ⟨gp5_14, Ab5_14, cb5_14, rfl, k5_14_0⟩ := hv15
     exact ⟨.bool true, .extract (v := .bool true) rfl rfl, rfl, fun k hk => hk.elim⟩
    refine .inl ⟨rfl, Step.of0 rfl rfl ?_⟩
    intro w1 hle
    refine Ef.allocA z41 ?_
    intro g5_18 w2 hg b5_18 h2
    exact ⟨h2, ⟨_, rfl, b5_18⟩, fun k hk => (show g5_18 = k from hk) ▸ ⟨hg, b5_18.lt⟩⟩
   intro f_5 W_5 h_5 hphi_5 hfeet_5 hap_5
   have e1_5 : f_5 1 = .int .u64 (((base (ts.getD i 0) : Nat) : Int)) := hphi_5 1 (by decide)
   obtain ⟨g5_5, e5_5, kz5_5_0⟩ := hphi_5 5 (by decide)
   obtain ⟨g5_5, g5_6, e6_5, k5_5_0, k5_6_0⟩ := hphi_5 6 (by decide)
   have e7_5 : f_5 7 = .agg ((tag nSplit [seed, [BitVec.ofNat 8 i]]).map u8v).toArray := hphi_5 7 (by decide)
   obtain ⟨gp5_14, Ab5_14, cb5_14, e14_5, kz5_14_0⟩ := hphi_5 14 (by decide)
   obtain ⟨gp5_14, Ab5_14, cb5_14, e15_5, kz5_14_0⟩ := hphi_5 15 (by decide)
   obtain ⟨gp5_14, Ab5_14, cb5_14, e16_5, k5_14_0⟩ := hphi_5 16 (by decide)
   have e17_5 : f_5 17 = .bool true := hphi_5 17 (by decide)
   obtain ⟨g5_18, e18_5, k5_18_0⟩ := hphi_5 18 (by decide)
   have hgzg5_18 : w5.heap.size <= g5_18 := (hfeet_5 18 (by decide) g5_18 (by rw [e18_5]; rfl)).1
   show G _ _ _ _ _ ((24, f_5 1) :: (28, f_5 5) :: (29, f_5 6) :: (30, f_5 7) :: (37, f_5 14) :: (22, f_5 15) :: (38, f_5 16) :: (39, f_5 17) :: (10, f_5 18) :: _) _
   rw [e1_5, e5_5, e6_5, e7_5, e14_5, e15_5, e16_5, e17_5, e18_5]
   have L22 := L4.trans h_5
   refine G.ef0 rfl rfl rfl rfl ?_
   refine Ef.storeAll sz41 (by rfl) rfl rfl k5_18_0 (by simp only [List.size_toArray, plV_row.len]) (plV_row.one (⟨some ⟨gp5_14, 0, none⟩, (rs.getD i noPaR).wN, (rs.getD i noPaR).wN, Ab5_14, (rs.getD i noPaR).wN - 1, cb5_14⟩ : PlR)) ?_
   intro w5_19 b5_19 h5_19
   refine noT (by kernel_rfl) ?_
   have b5_19 : Blk w5_19 g5_18 41 (plV (⟨some ⟨gp5_14, 0, none⟩, (rs.getD i noPaR).wN, (rs.getD i noPaR).wN, Ab5_14, (rs.getD i noPaR).wN - 1, cb5_14⟩ : PlR)).toArray := b5_19
   have L23 := L22.tb h5_19 L4 hgzg5_18
   refine G.run 1 rfl (G.nil (E.thenN (WC.seq (WC.sr (W.run 2 rfl (W.nx (WC.condF rfl (WC.sn (WC.region (W.run 1 rfl ?_))))))))))
   refine W.r (.loadAll ag41 (by rfl) rfl b5_19) ?_
   refine W.ef rfl rfl rfl ?_
   refine Ef.buildSliceV (len := 1) [_] underlying37 el41 rfl (by simp [Value.cells, plV_row.len]) rfl (by decide) (by decide) ?_
   intro g8_2 w8_2 hg8_2 b8_2 h8_2
   have L24 := L23.trans h8_2
   have b8_2 : Blk w8_2 g8_2 41 (([(⟨some ⟨gp5_14, 0, none⟩, (rs.getD i noPaR).wN, (rs.getD i noPaR).wN, Ab5_14, (rs.getD i noPaR).wN - 1, cb5_14⟩ : PlR)]).map plV).flatten.toArray := b8_2
   have o8_2 : OVec w8_2 w5_19.heap.size 41 plV 2 (some ⟨g8_2, 0, none⟩) 1 1 ([(⟨some ⟨gp5_14, 0, none⟩, (rs.getD i noPaR).wN, (rs.getD i noPaR).wN, Ab5_14, (rs.getD i noPaR).wN - 1, cb5_14⟩ : PlR)]) := b8_2.ovec hg8_2 plV_row rfl rfl (by decide)
   have f25 := (((f0_1.le (d5.trans h_5)).ch h5_19 (fun q hq => by cases hq; exact (fun he => by have := (f0_1.row he).2; have := d5.size; omega))).le h8_2)
   refine W.ef rfl rfl rfl ?_
   refine Ef.vpush (a := (⟨some ⟨gp5_14, 0, none⟩, (rs.getD i noPaR).wN, (rs.getD i noPaR).wN, Ab5_14, (rs.getD i noPaR).wN - 1, cb5_14⟩ : PlR)) underlying37 el41 underlying37 plV_row rfl f25 rfl b8_2 (by omega) (by unfold maxLen; omega) (by have := lb0_5; have := d5.size; have := h_5.size; have := h5_19.size; have := h8_2.size; omega) ?_
   intro A8_3 c8_3 w8_3 o8_3 h8_3 at8_3
   have L26 := L24.then_ h8_3 (fun q hq => Nat.le_trans L2.size (f25.row hq).1)
   refine W.run 1 rfl ?_
   have f27 := ((((f0_2.le (d5.trans h_5)).chB h5_19 k5_18_0 (by decide) (by decide)).le h8_2).chO h8_3 f25 (by decide) (by decide))
   have f28 := (((k5_14_0.chB h5_19 k5_18_0 (by decide) (by decide)).le h8_2).chO h8_3 f25 (by decide) (by decide))
   have zpu := f27.push (f28.mono (by have := lb0_5; have := d5.size; omega))
   refine W.nil (E.blkN (E.thenN (WC.region ?_)))
   refine W.a (.add rfl rfl (by omega)) ?_
   refine W.run 1 rfl (W.nil ?_)
   have f29 := ((((f0_0.le (d5.trans h_5)).ch h5_19 (fun h => (show g5_18 ≠ g0_0 from by have := f0_0.lt; have := d5.size; omega) (Option.some.inj h))).le h8_2).ch h8_3 (fun he => by have := (f25.row he).1; have := f3.lt; omega))
   have f30 := ((((f0_3.le (d5.trans h_5)).ch h5_19 (fun q hq => by cases hq; exact (fun he => by have := (f0_3.row he).2; have := d5.size; omega))).le h8_2).ch h8_3 ((Apart.symm (fun q h1 h2 => by have := (ot2_3.row h1).2; have := (f25.row h2).1; omega))))
   refine E.again (i + 1, A8_3, c8_3, (qo ++ [(⟨some ⟨gp5_14, 0, none⟩, (rs.getD i noPaR).wN, (rs.getD i noPaR).wN, Ab5_14, (rs.getD i noPaR).wN - 1, cb5_14⟩ : PlR)])) (.cons rfl (.cons rfl (.cons rfl (.cons rfl (.cons rfl (.cons rfl (.nil _))))))) ?_ ?_
   ·exact ⟨by omega, fun j hj => (Nat.lt_succ_iff_lt_or_eq.1 hj).elim (hall j) (fun hh => by subst hh; assumption), L26, by have := zl0; have := d5.size; have := h_5.size; have := h5_19.size; have := h8_2.size; have := h8_3.size; omega, f29, o8_3, (zpu.cast (by rw [planK_succ, hpa]; rfl)), f30⟩
   first | omega | (simp only []; omega)
  refine W.run 1 rfl (W.nx (WC.seq ?_))
  refine WC.drawM [0, 2, 3, 4, 8, 9, 10, 11, 12, 13] [1, 5, 6, 7, 14, 15, 16, 17, 18] [19, 20] (fun i => bif Nat.beq i 6 then [5] else bif Nat.beq i 7 then [6] else bif Nat.beq i 14 then [1, 7] else bif Nat.beq i 15 then [14] else bif Nat.beq i 16 then [15] else bif Nat.beq i 17 then [15] else []) mixed (by kernel_rfl) ?_
  intro w5 d5
  have L31 := Ll0.trans d5
  refine G.run 1 rfl ?_
  refine G.a rfl (.cutArr underlying30 sz5 rfl) ?_
  refine G.run 1 rfl ?_
  refine G.r rfl (.toU8 i (isS underlying3) underlying5 rfl rfl) ?_
  refine G.run 2 rfl ?_
  refine G.a rfl (.idxS (i) underlying31 sz34 rfl rfl (hV.isSome prV_row (by omega)) (rfl) (by omega)) ?_
  refine G.a rfl (.vfield fa34_1 (hV.isSome prV_row (by omega)) rfl) ?_
  refine G.r rfl (.vcell (j := i) (o := 1) (v := .slice ((rs.getD i noPaR).wA) ((rs.getD i noPaR).wN) ((rs.getD i noPaR).wC)) na32 rfl (hV.le L31) prV_row (getS rs noPaR (by omega)) rfl) ?_
  refine G.r rfl (.len underlying32 rfl) ?_
  refine G.nil ?_
  refine E.free3 ⟨by rfl, fun iU => (bif Nat.beq iU 1 then (fun v w' => v = .int .u64 (((base (ts.getD i 0) : Nat) : Int))) else (bif Nat.beq iU 5 then (fun v w' => ∃ g5_5, v = .slice (some ⟨g5_5, 0, none⟩) 1 1 /\ OVec w' w5.heap.size 5 byteV 1 (some ⟨g5_5, 0, none⟩) 1 1 ([BitVec.ofNat 8 i])) else (bif Nat.beq iU 6 then (fun v w' => ∃ g5_5 g5_6, v = .slice (some ⟨g5_6, 0, none⟩) 2 2 /\ OVec w' w5.heap.size 5 byteV 1 (some ⟨g5_5, 0, none⟩) 1 1 ([BitVec.ofNat 8 i]) /\ Blk w' g5_6 26 #[.slice (some ⟨g0_0, 0, none⟩) 32 32, .slice (some ⟨g5_5, 0, none⟩) 1 1]) else (bif Nat.beq iU 7 then (fun v w' => v = .agg ((tag nSplit [seed, [BitVec.ofNat 8 i]]).map u8v).toArray) else (bif Nat.beq iU 14 then (fun v w' => v = .tuple #[.agg (plV noPlR).toArray, .bool false]) else (bif Nat.beq iU 15 then (fun v w' => v = .tuple #[.agg (plV noPlR).toArray, .bool false]) else (bif Nat.beq iU 16 then (fun v w' => v = .agg (plV noPlR).toArray) else (bif Nat.beq iU 17 then (fun v w' => v = .bool false) else (bif Nat.beq iU 18 then (fun v w' => ∃ g5_18, v = .pointer (some ⟨g5_18, 0, none⟩) /\ Blk w' g5_18 41 (plV noPlR).toArray) else (fun _ _ => True)))))))))), ?_, ?_, ?_⟩
  ·intro iU hi v w1 w2 hv hle
   simp only [List.mem_cons, List.not_mem_nil, or_false] at hi
   rcases hi with rfl | rfl | rfl | rfl | rfl | rfl | rfl | rfl | rfl
   ·exact hv
   ·obtain ⟨g5_5, hvv, k5_5_0⟩ := hv; exact ⟨g5_5, hvv, k5_5_0.le hle⟩
   ·obtain ⟨g5_5, g5_6, hvv, k5_5_0, k5_6_0⟩ := hv; exact ⟨g5_5, g5_6, hvv, k5_5_0.le hle, k5_6_0.le hle⟩
   ·exact hv
   ·exact hv
   ·exact hv
   ·exact hv
   ·exact hv
   obtain ⟨g5_18, hvv, k5_18_0⟩ := hv; exact ⟨g5_18, hvv, k5_18_0.le hle⟩
  ·intro iU hi
   simp only [List.mem_cons, List.not_mem_nil, or_false] at hi
   rcases hi with rfl | rfl | rfl | rfl | rfl | rfl | rfl | rfl | rfl
   ·refine .inl ⟨rfl, Step.of0 rfl rfl ?_⟩
    intro w1 hle
    refine Ef.call go20 rfl rfl (base_ok (ts.getD i 0) w1) ?_
    rintro _ w2 ⟨rfl, h2⟩
    refine ⟨_, rfl, ?_⟩
    exact ⟨h2, rfl, fun k hk => hk.elim⟩
   ·refine .inl ⟨rfl, Step.of0 rfl rfl ?_⟩
    intro w1 hle
    refine Ef.buildSliceV (len := 1) [_] underlying26 el5 rfl (by simp [Value.cells, u8v]) rfl (by decide) (by decide) ?_
    intro g5_5 w2 hg b5_5 h2
    have b5_5 : Blk w2 g5_5 5 (([BitVec.ofNat 8 i]).map byteV).flatten.toArray := b5_5
    have o5_5 : OVec w2 w1.heap.size 5 byteV 1 (some ⟨g5_5, 0, none⟩) 1 1 ([BitVec.ofNat 8 i]) := b5_5.ovec hg byteV_row rfl rfl (by decide)
    exact ⟨h2, ⟨_, rfl, (o5_5.mono hle.size)⟩, fun k hk => o5_5.row hk⟩
   ·refine .inl ⟨rfl, Step.of1 (j := 5) rfl rfl rfl ?_⟩
    intro v5 w1 hle hv5
    obtain ⟨g5_5, rfl, k5_5_0⟩ := hv5
    refine Ef.buildSliceN [_, _] underlying157 el26 rfl (by intro v hv; simp at hv; rcases hv with rfl | rfl <;> rfl) rfl (by decide) (by decide) ?_
    intro g5_6 w2 hg b5_6 h2
    have b5_6 : Blk w2 g5_6 26 #[.slice (some ⟨g0_0, 0, none⟩) 32 32, .slice (some ⟨g5_5, 0, none⟩) 1 1] := b5_6
    have f38 := (k5_5_0.le h2)
    exact ⟨h2, ⟨_, _, rfl, f38, b5_6⟩, fun k hk => (rowOf_lit hk) ▸ ⟨hg, b5_6.lt⟩⟩
   ·refine .inl ⟨rfl, Step.of1 (j := 6) rfl rfl rfl ?_⟩
    intro v6 w1 hle hv6
    obtain ⟨g5_5, g5_6, rfl, k5_5_0, k5_6_0⟩ := hv6
    have f40 := (f0_0.le (d5.trans hle))
    refine Ef.call go21 rfl rfl (tag_ok _ nSplit w1 (ps := [seed, [BitVec.ofNat 8 i]]) rfl (k5_6_0.sl (s := 1) (n := 2) rfl) (.cons (f40.sb hse) (.cons (byte_sb k5_5_0.vec) (.nil _))) (by rw [tagLen2, hse]; show 24 + 5 + 32 + 1 <= _; decide)) ?_
    rintro _ w2 ⟨rfl, h2⟩
    refine ⟨_, rfl, ?_⟩
    exact ⟨h2, rfl, fun k hk => hk.elim⟩
   ·refine .inl ⟨rfl, Step.of2 (j := 1) (k := 7) rfl rfl rfl rfl ?_⟩
    intro v1 v7 w1 hle hv1 hv7
    have hv1 : v1 = .int .u64 (((base (ts.getD i 0) : Nat) : Int)) := hv1
    subst hv1
    have hv7 : v7 = .agg ((tag nSplit [seed, [BitVec.ofNat 8 i]]).map u8v).toArray := hv7
    subst hv7
    refine Ef.call go19 rfl rfl (pnewF_ok (base (ts.getD i 0)) (base_lt _) (tag nSplit [seed, [BitVec.ofNat 8 i]]) (rs.getD i noPaR).wN (fun h => qc4_4 h.2) w1) ?_
    rintro _ w2 ⟨rfl, h2⟩
    refine ⟨_, rfl, ?_⟩
    exact ⟨h2, rfl, fun k hk => hk.elim⟩
   ·refine Step3.pure1 (j := 14) rfl rfl rfl rfl ?_
    intro v14 w1 hle hv14
    have hv14 : v14 = .tuple #[.agg (plV noPlR).toArray, .bool false] := hv14
    subst hv14
    exact ⟨.tuple #[.agg (plV noPlR).toArray, .bool false], .move rfl, rfl, fun k hk => hk.elim⟩
   ·refine Step3.pure1 (j := 15) rfl rfl rfl rfl ?_
    intro v15 w1 hle hv15
    have hv15 : v15 = .tuple #[.agg (plV noPlR).toArray, .bool false] := hv15
    subst hv15
    exact ⟨.agg (plV noPlR).toArray, .extract (v := .agg (plV noPlR).toArray) rfl rfl, rfl, fun k hk => hk.elim⟩
   ·refine Step3.pure1 (j := 15) rfl rfl rfl rfl ?_
    intro v15 w1 hle hv15
    have hv15 : v15 = .tuple #[.agg (plV noPlR).toArray, .bool false] := hv15
    subst hv15
    exact ⟨.bool false, .extract (v := .bool false) rfl rfl, rfl, fun k hk => hk.elim⟩
   refine .inl ⟨rfl, Step.of0 rfl rfl ?_⟩
   intro w1 hle
   refine Ef.allocA z41 ?_
   intro g5_18 w2 hg b5_18 h2
   exact ⟨h2, ⟨_, rfl, b5_18⟩, fun k hk => (show g5_18 = k from hk) ▸ ⟨hg, b5_18.lt⟩⟩
  intro f_5 W_5 h_5 hphi_5 hfeet_5 hap_5
  have e1_5 : f_5 1 = .int .u64 (((base (ts.getD i 0) : Nat) : Int)) := hphi_5 1 (by decide)
  obtain ⟨g5_5, e5_5, kz5_5_0⟩ := hphi_5 5 (by decide)
  obtain ⟨g5_5, g5_6, e6_5, k5_5_0, k5_6_0⟩ := hphi_5 6 (by decide)
  have e7_5 : f_5 7 = .agg ((tag nSplit [seed, [BitVec.ofNat 8 i]]).map u8v).toArray := hphi_5 7 (by decide)
  have e14_5 : f_5 14 = .tuple #[.agg (plV noPlR).toArray, .bool false] := hphi_5 14 (by decide)
  have e15_5 : f_5 15 = .tuple #[.agg (plV noPlR).toArray, .bool false] := hphi_5 15 (by decide)
  have e16_5 : f_5 16 = .agg (plV noPlR).toArray := hphi_5 16 (by decide)
  have e17_5 : f_5 17 = .bool false := hphi_5 17 (by decide)
  obtain ⟨g5_18, e18_5, k5_18_0⟩ := hphi_5 18 (by decide)
  have hgzg5_18 : w5.heap.size <= g5_18 := (hfeet_5 18 (by decide) g5_18 (by rw [e18_5]; rfl)).1
  show G _ _ _ _ _ ((24, f_5 1) :: (28, f_5 5) :: (29, f_5 6) :: (30, f_5 7) :: (37, f_5 14) :: (22, f_5 15) :: (38, f_5 16) :: (39, f_5 17) :: (10, f_5 18) :: _) _
  rw [e1_5, e5_5, e6_5, e7_5, e14_5, e15_5, e16_5, e17_5, e18_5]
  have L49 := L31.trans h_5
  refine G.ef0 rfl rfl rfl rfl ?_
  refine Ef.storeAll sz41 (by rfl) rfl rfl k5_18_0 (by simp only [List.size_toArray, plV_row.len]) (plV_row.one noPlR) ?_
  intro w5_19_1 b5_19_1 h5_19_1
  refine noT (by kernel_rfl) ?_
  have b5_19_1 : Blk w5_19_1 g5_18 41 (plV noPlR).toArray := b5_19_1
  have L50 := L49.tb h5_19_1 L31 hgzg5_18
  refine G.run 1 rfl (G.nil (E.thenN (WC.seq (WC.sr (W.run 2 rfl (W.nx (WC.condT rfl (WC.sr (W.run 1 rfl (W.nx (WC.ret (E.thenR (E.blkR (E.thenR (E.thenR (E.blkR (E.thenR ?_)))))))))))))))))
  refine E.retG1 rfl rfl ?_
  rw [plansL_no (fun h => absurd (hmay.1 h i (by omega)) (by assumption))]
  exact ⟨none, 0, [], rfl, OVec.nil _ _ _ _ _ _, PlnsAt.nil _ _, L50⟩
 refine WC.condN rfl (decide_eq_false c0) ?_
 refine WC.exit (E.thenX (E.thenX (E.blkH (E.thenN (WC.sr (W.run 2 rfl (W.nx (WC.ret ?_))))))))
 refine E.retG1 rfl rfl ?_
 have hie : (partsL s ((((rs.map (·.wN))).length : Nat) : Int)).length = i := (by rw [hnl, <- hets]; omega)
 rw [plansL_yes (hmay.2 (fun j hj => hall j (by omega))), hie, planK_len]
 exact ⟨_, _, _, rfl, (f0_1.mono L2.size), (f0_2.mono L2.size), Ll0⟩
end Go.Proofs.YtocheaahlpiajaaGreatDoor

