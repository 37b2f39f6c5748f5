/- SplitOne: for every input the law answers true and leaves its arguments as they were. -/
import Derived.Test.YtocheaahlpiajaaGreatDoorSplitOneP
set_option linter.unusedVariables false
set_option linter.unusedSimpArgs false
namespace Go.Proofs.YtocheaahlpiajaaGreatDoor
open Tryz
open Go Go.Sx Go.Num Go.Gsp Go.Nsp Go.Msp Go.Rtp
set_option maxRecDepth 20000
set_option maxHeartbeats 4000000
theorem send_ok {w : World} {base bs gp ng cg b1 b2 b3 b4 b5 b6 : Nat} {F : Nat -> Prop} {s : TrS} {Ag : Option Addr} {g : List Gsp.Edge} {fr to x : Int} (share : Int) (hE : SendE w F gp Ag ng cg g fr to x b1 b2 b3 b4 b5 b6) (hP : MPool w base gp F s.m) (hO : OddAt w bs b6 (s.odds, F)) (hl : LenF s.odds 5000) (hk : okF s.odds) (hbs : bs <= w.heap.size) :
    Calls prog 86 #[.int .i64 share, .pointer (some ⟨b1, 0, none⟩), .pointer (some ⟨b2, 0, none⟩), .pointer (some ⟨b3, 0, none⟩), .pointer (some ⟨b4, 0, none⟩), .pointer (some ⟨b5, 0, none⟩), .pointer (some ⟨b6, 0, none⟩)] w fun r w' => ChP w w' (fun k => F k \/ k = b6) /\ (((bestR g s.m fr to share x).2.2 ≠ 0 /\ r = .returned (.tuple #[.agg (prV noPaR).toArray, .bool false])) \/ ((bestR g s.m fr to share x).2.2 = 0 /\ ∃ r1, r = .returned (.tuple #[.agg (prV r1).toArray, .bool true]) /\ PaAt w' w.heap.size r1 ⟨share, (bestR g s.m fr to share x).1, (costG (bestR g s.m fr to share x).1 share x).1, (costG (bestR g s.m fr to share x).1 share x).2.1⟩ /\ MPool w' base gp F (stepT g fr to x s share).m /\ OddAt w' bs b6 ((stepT g fr to x s share).odds, F))) := by
  obtain ⟨An, cn, Ad, cd, h1, h2, h3, h4, h5, h6, h7⟩ := hO
  exact send_step (out := s.out) share w hE hP h1 h2 h3 h4 h5 h6 h7 hl hk hbs
theorem send_yes {w : World} {base bs gp ng cg b1 b2 b3 b4 b5 b6 : Nat} {F : Nat -> Prop} {s : TrS} {Ag : Option Addr} {g : List Gsp.Edge} {fr to x : Int} (share : Int) (hE : SendE w F gp Ag ng cg g fr to x b1 b2 b3 b4 b5 b6) (hP : MPool w base gp F s.m) (hO : OddAt w bs b6 (s.odds, F)) (hl : LenF s.odds 5000) (hk : okF s.odds) (hbs : bs <= w.heap.size) (h : (bestR g s.m fr to share x).2.2 = 0) :
    Calls prog 86 #[.int .i64 share, .pointer (some ⟨b1, 0, none⟩), .pointer (some ⟨b2, 0, none⟩), .pointer (some ⟨b3, 0, none⟩), .pointer (some ⟨b4, 0, none⟩), .pointer (some ⟨b5, 0, none⟩), .pointer (some ⟨b6, 0, none⟩)] w fun r w' => ∃ r1, r = .returned (.tuple #[.agg (prV r1).toArray, .bool true]) /\ PaAt w' w.heap.size r1 ⟨share, (bestR g s.m fr to share x).1, (costG (bestR g s.m fr to share x).1 share x).1, (costG (bestR g s.m fr to share x).1 share x).2.1⟩ /\ MPool w' base gp F (stepT g fr to x s share).m /\ OddAt w' bs b6 ((stepT g fr to x s share).odds, F) /\ ChP w w' (fun k => F k \/ k = b6) := by
  refine Calls.mono (send_ok share hE hP hO hl hk hbs) ?_
  rintro r w' ⟨hc, ⟨k1, _⟩ | ⟨_, r1, k2, k3, k4, k5⟩⟩
  · exact absurd h k1
  · exact ⟨r1, k2, k3, k4, k5, hc⟩
theorem send_no {w : World} {base bs gp ng cg b1 b2 b3 b4 b5 b6 : Nat} {F : Nat -> Prop} {s : TrS} {Ag : Option Addr} {g : List Gsp.Edge} {fr to x : Int} (share : Int) (hE : SendE w F gp Ag ng cg g fr to x b1 b2 b3 b4 b5 b6) (hP : MPool w base gp F s.m) (hO : OddAt w bs b6 (s.odds, F)) (hl : LenF s.odds 5000) (hk : okF s.odds) (hbs : bs <= w.heap.size) (h : ¬ (bestR g s.m fr to share x).2.2 = 0) :
    Calls prog 86 #[.int .i64 share, .pointer (some ⟨b1, 0, none⟩), .pointer (some ⟨b2, 0, none⟩), .pointer (some ⟨b3, 0, none⟩), .pointer (some ⟨b4, 0, none⟩), .pointer (some ⟨b5, 0, none⟩), .pointer (some ⟨b6, 0, none⟩)] w fun r w' => r = .returned (.tuple #[.agg (prV noPaR).toArray, .bool false]) /\ ChP w w' (fun k => F k \/ k = b6) := by
  refine Calls.mono (send_ok share hE hP hO hl hk hbs) ?_
  rintro r w' ⟨hc, ⟨_, k1⟩ | ⟨k1, _⟩⟩
  · exact ⟨k1, hc⟩
  · exact absurd k1 h
theorem sharesL_le (a n : Int) : (sharesL a n).length <= 8 := by
  unfold sharesL
  split
  · exact Nat.zero_le _
  · rw [List.length_map, List.length_range]; omega
def totP : List Prt -> Int
  | [] => 0
  | p :: ps => p.sent.getD 0 0 + totP ps
theorem totP_next {ps : List Prt} {k : Nat} (h : k < ps.length) : totP (ps.take (k + 1)) = totP (ps.take k) + (ps.getD k noPrt).sent.getD 0 0 := by
  have ha : ∀ l : List Prt, ∀ p, totP (l ++ [p]) = totP l + p.sent.getD 0 0 := fun l p => by
    induction l with
    | nil => show p.sent.getD 0 0 + 0 = 0 + p.sent.getD 0 0; omega
    | cons y l ih => show y.sent.getD 0 0 + totP (l ++ [p]) = y.sent.getD 0 0 + totP l + p.sent.getD 0 0; rw [ih]; omega
  rw [List.take_add_one]
  simp only [List.getD, h, List.getElem?_eq_getElem, Option.toList, Option.getD]
  exact ha _ _
theorem totP_zero {ps : List Prt} {k : Nat} (h : k < ps.length) (h0 : (ps.getD k noPrt).sent.length = 0) : totP (ps.take k) = totP (ps.take (k + 1)) := by
  rw [totP_next h, List.length_eq_zero_iff.1 h0]
  show _ = _ + (0 : Int)
  omega
theorem tryG_arg {g : List Gsp.Edge} {m : MF} {fr to a x n : Int} (h1 : 1 <= n) (h8 : n <= 8) (h : (tryG g m fr to a x n).2.2 = 1) : (bestR g m fr to a x).2.2 = 1 := by
  unfold tryG at h
  split at h
  · omega
  · split at h
    · cases h
    · cases h
def TotOk (ps : List Prt) : Prop := ps.length <= 8 /\ ∀ p ∈ ps, ∀ s ∈ p.sent, 0 <= s /\ s <= 1125899906842624
theorem totP_ok {ps : List Prt} (h : TotOk ps) : ∀ k : Nat, 0 <= totP (ps.take k) /\ totP (ps.take k) <= k * 1125899906842624
  | 0 => by simp [totP]
  | k + 1 => by
    have ih := totP_ok h k
    rcases Nat.lt_or_ge k ps.length with q | q
    · rw [totP_next q]
      have hm : ps.getD k noPrt ∈ ps := getD_mem (z := noPrt) q
      have : 0 <= (ps.getD k noPrt).sent.getD 0 0 /\ (ps.getD k noPrt).sent.getD 0 0 <= 1125899906842624 := by
        cases hs : (ps.getD k noPrt).sent with
        | nil => simp
        | cons y l => exact h.2 _ hm y (by rw [hs]; exact List.mem_cons_self ..)
      omega
    · rw [List.take_of_length_le (by omega)] at ih ⊢
      omega
theorem sptry_ok {base gp : Nat} {F : Nat -> Prop} {m : MF} (fr to a x n : Int) {A : Option Addr} {n0 c : Nat} {g : List Gsp.Edge} (w : World) (hP : MPool w base gp F m) (hV : Vec w edgeV 9 A n0 g) (hn : n0 <= 1000000) (ha : a <= 9223372036854775807) : Calls prog 28 #[.slice A n0 c, .pointer (some ⟨gp, 0, none⟩), .int .i64 (fr), .int .i64 (to), .int .i64 (a), .int .i64 (x), .int .i64 (n)] w fun r w' => ∃ A c rs An cn Ad cd, r = .returned (.tuple #[.slice A (tryG g m fr to a x n).1.length c, .agg #[.slice An (digs (tryG g m fr to a x n).2.1.n).length cn, .slice Ad (digs (tryG g m fr to a x n).2.1.d).length cd], .int .i64 (tryG g m fr to a x n).2.2]) /\ OVec w' w.heap.size 34 prV 4 A (tryG g m fr to a x n).1.length c rs /\ PasAt w' w.heap.size rs (tryG g m fr to a x n).1 /\ OVec w' w.heap.size 273 dv 1 An (digs (tryG g m fr to a x n).2.1.n).length cn (digs (tryG g m fr to a x n).2.1.n) /\ OVec w' w.heap.size 273 dv 1 Ad (digs (tryG g m fr to a x n).2.1.d).length cd (digs (tryG g m fr to a x n).2.1.d) /\ ((tryG g m fr to a x n).1 = [] -> A = none) /\ Le w w' := by
 have hl := hV.1
 have hgm := hP.good
 refine enter func28 rfl rfl ?_
 have L0 := Le.refl w
 refine WC.sr (W.ef rfl rfl rfl ?_)
 refine Ef.box rfl ?_
 intro g0_0 w0_0 hg0_0 b0_0 h0_0
 have L1 := L0.trans h0_0
 have b0_0 : Blk w0_0 g0_0 32 #[.slice A n0 c] := b0_0
 refine W.ef rfl rfl rfl ?_
 refine Ef.box rfl ?_
 intro g0_1 w0_1 hg0_1 b0_1 h0_1
 have L2 := L1.trans h0_1
 have b0_1 : Blk w0_1 g0_1 55 #[.pointer (some ⟨gp, 0, none⟩)] := b0_1
 refine W.ef rfl rfl rfl ?_
 refine Ef.box rfl ?_
 intro g0_2 w0_2 hg0_2 b0_2 h0_2
 have L3 := L2.trans h0_2
 have b0_2 : Blk w0_2 g0_2 3 #[.int .i64 (fr)] := b0_2
 refine W.ef rfl rfl rfl ?_
 refine Ef.box rfl ?_
 intro g0_3 w0_3 hg0_3 b0_3 h0_3
 have L4 := L3.trans h0_3
 have b0_3 : Blk w0_3 g0_3 3 #[.int .i64 (to)] := b0_3
 refine W.ef rfl rfl rfl ?_
 refine Ef.box rfl ?_
 intro g0_4 w0_4 hg0_4 b0_4 h0_4
 have L5 := L4.trans h0_4
 have b0_4 : Blk w0_4 g0_4 3 #[.int .i64 (x)] := b0_4
 refine W.run 1 rfl (W.ef rfl rfl rfl ?_)
 refine Ef.allocA z61 ?_
 intro g0_6 w0_6 hg0_6 b0_6 h0_6
 have L6 := L5.trans h0_6
 have b0_6 : Blk w0_6 g0_6 61 #[.slice none 0 0, .slice none 0 0] := b0_6
 refine W.run 1 rfl (W.nx (WC.seq (WC.sr ?_)))
 have f7 := (b0_0.le (h0_1.trans (h0_2.trans (h0_3.trans (h0_4.trans h0_6)))))
 refine W.r (.loadB (v := .slice A n0 c) na32 rfl f7 rfl) ?_
 have f8 := (b0_1.le (h0_2.trans (h0_3.trans (h0_4.trans h0_6))))
 refine W.r (.loadB (v := .pointer (some ⟨gp, 0, none⟩)) na55 rfl f8 rfl) ?_
 have f9 := (b0_2.le (h0_3.trans (h0_4.trans h0_6)))
 refine W.r (.loadB (v := .int .i64 (fr)) na3 rfl f9 rfl) ?_
 have f10 := (b0_3.le (h0_4.trans h0_6))
 refine W.r (.loadB (v := .int .i64 (to)) na3 rfl f10 rfl) ?_
 refine W.run 1 rfl ?_
 have f11 := (b0_4.le h0_6)
 refine W.r (.loadB (v := .int .i64 (x)) na3 rfl f11 rfl) ?_
 have f12 := (hP.le (h0_0.trans (h0_1.trans (h0_2.trans (h0_3.trans (h0_4.trans h0_6))))))
 obtain ⟨b0, heb0⟩ : ∃ z, z = bestR g m fr to a x := ⟨_, rfl⟩
 have hlb0 := bestR_len (g := g) (fr := fr) (to := to) (a := a) (x := x) hgm
 rw [<- heb0] at hlb0
 refine W.cl go46 rfl rfl ((by have k := rbest_ok (c := c) fr to a x w0_6 f12 (hV.le L6) (by omega); rw [<- heb0] at k; exact k)) ?_
 rintro _ w1_6 ⟨Aw1_6, cw1_6, An1_6, cn1_6, Ad1_6, cd1_6, rfl, ow1_6, on1_6, od1_6, h1_6⟩
 have L13 := L6.trans h1_6
 refine W.run 2 rfl ?_
 refine W.a (.extract (v := .agg #[.slice An1_6 ((digs b0.2.1.n).length) cn1_6, .slice Ad1_6 ((digs b0.2.1.d).length) cd1_6]) rfl rfl) ?_
 refine W.run 1 rfl (W.ef rfl rfl rfl ?_)
 refine Ef.allocA z61 ?_
 intro g1_11 w1_11 hg1_11 b1_11 h1_11
 have L14 := L13.trans h1_11
 have b1_11 : Blk w1_11 g1_11 61 #[.slice none 0 0, .slice none 0 0] := b1_11
 refine W.run 1 rfl ?_
 refine W.sA sz61 rfl rfl b1_11 ?_
 intro w1_13 b1_13 h1_13
 have L15 := L14.tb h1_13 L13 hg1_11
 refine W.run 1 rfl (W.nx (WC.sr (W.run 2 rfl ?_)))
 by_cases q2_2 : n < 1
 ·refine W.dt q2_2 rfl rfl (W.run 7 rfl (W.nx (WC.condT rfl (WC.sr ?_))))
  refine W.a (.buildP [.slice none 0 0, .slice none 0 0] pl61 z61 rfl rfl) ?_
  refine W.run 1 rfl ?_
  have f16 := ((b0_6.le (h1_6.trans h1_11)).ch h1_13 (fun h => (show g1_11 ≠ g0_6 from by have := b0_6.lt; have := h1_6.size; omega) (Option.some.inj h)))
  refine W.sA sz61 rfl rfl f16 ?_
  intro w3_2 b3_2 h3_2
  have b3_2 : Blk w3_2 g0_6 61 #[.slice none 0 0, .slice none 0 0] := b3_2
  have L17 := L15.tb h3_2 L5 hg0_6
  refine W.run 1 rfl (W.nx (WC.ret (E.thenR ?_)))
  refine E.retG3 rfl rfl (resA rfl b3_2 ag61 (by rfl)) rfl ?_
  rw [tryG_bad (by rw [<- heb0]; omega)]
  exact ⟨none, 0, [], none, 0, none, 0, by simp only [digs_zero]; rfl, OVec.nil _ _ _ _ _ _, PasAt.nil _ _, by simp only [digs_zero]; exact OVec.nil _ _ _ _ _ _, by simp only [digs_zero]; exact OVec.nil _ _ _ _ _ _, fun _ => rfl, L17⟩
 refine W.df q2_2 rfl rfl (W.run 3 rfl ?_)
 by_cases q2_6 : 8 < n
 ·refine W.dt q2_6 rfl rfl (W.run 3 rfl (W.nx (WC.condT rfl (WC.sr ?_))))
  refine W.a (.buildP [.slice none 0 0, .slice none 0 0] pl61 z61 rfl rfl) ?_
  refine W.run 1 rfl ?_
  have f18 := ((b0_6.le (h1_6.trans h1_11)).ch h1_13 (fun h => (show g1_11 ≠ g0_6 from by have := b0_6.lt; have := h1_6.size; omega) (Option.some.inj h)))
  refine W.sA sz61 rfl rfl f18 ?_
  intro w3_2_1 b3_2_1 h3_2_1
  have b3_2_1 : Blk w3_2_1 g0_6 61 #[.slice none 0 0, .slice none 0 0] := b3_2_1
  have L19 := L15.tb h3_2_1 L5 hg0_6
  refine W.run 1 rfl (W.nx (WC.ret (E.thenR ?_)))
  refine E.retG3 rfl rfl (resA rfl b3_2_1 ag61 (by rfl)) rfl ?_
  rw [tryG_bad (by rw [<- heb0]; omega)]
  exact ⟨none, 0, [], none, 0, none, 0, by simp only [digs_zero]; rfl, OVec.nil _ _ _ _ _ _, PasAt.nil _ _, by simp only [digs_zero]; exact OVec.nil _ _ _ _ _ _, by simp only [digs_zero]; exact OVec.nil _ _ _ _ _ _, fun _ => rfl, L19⟩
 refine W.df q2_6 rfl rfl (W.run 3 rfl (W.nx ?_))
 by_cases c0 : b0.2.2 = 1
 ·refine WC.condY rfl (decide_eq_true c0) ?_
  refine WC.sr ?_
  refine W.a (.buildP [.slice none 0 0, .slice none 0 0] pl61 z61 rfl rfl) ?_
  refine W.run 1 rfl ?_
  have f20 := ((b0_6.le (h1_6.trans h1_11)).ch h1_13 (fun h => (show g1_11 ≠ g0_6 from by have := b0_6.lt; have := h1_6.size; omega) (Option.some.inj h)))
  refine W.sA sz61 rfl rfl f20 ?_
  intro w3_2_2 b3_2_2 h3_2_2
  have b3_2_2 : Blk w3_2_2 g0_6 61 #[.slice none 0 0, .slice none 0 0] := b3_2_2
  have L21 := L15.tb h3_2_2 L5 hg0_6
  refine W.run 1 rfl (W.nx (WC.ret (E.thenR ?_)))
  refine E.retG3 rfl rfl (resA rfl b3_2_2 ag61 (by rfl)) rfl ?_
  rw [tryG_bad (by rw [<- heb0]; omega)]
  exact ⟨none, 0, [], none, 0, none, 0, by simp only [digs_zero]; rfl, OVec.nil _ _ _ _ _ _, PasAt.nil _ _, by simp only [digs_zero]; exact OVec.nil _ _ _ _ _ _, by simp only [digs_zero]; exact OVec.nil _ _ _ _ _ _, fun _ => rfl, L21⟩
 refine WC.condN rfl (decide_eq_false c0) ?_
 have hn1 : ¬ (n < 1 \/ 8 < n \/ (bestR g m fr to a x).2.2 = 1) := by rw [<- heb0]; omega
 refine WC.sn (WC.sr (W.run 2 rfl ?_))
 refine W.cl go14 rfl rfl (shares_ok a n w1_13 (by omega)) ?_
 rintro _ w4_2 ⟨As4_2, cs4_2, rfl, os4_2, hn4_2, h4_2⟩
 have L22 := L15.trans h4_2
 refine W.run 1 rfl (W.nx (WC.seq (WC.sr (W.run 1 rfl ?_))))
 refine W.a (.isNil underlying23 rfl) ?_
 refine W.nx ?_
 by_cases c1 : As4_2.isNone = true
 ·refine WC.condY rfl (c1) ?_
  refine WC.sr ?_
  refine W.a (.buildP [.slice none 0 0, .slice none 0 0] pl61 z61 rfl rfl) ?_
  refine W.run 1 rfl ?_
  have f23 := (((b0_6.le (h1_6.trans h1_11)).ch h1_13 (fun h => (show g1_11 ≠ g0_6 from by have := b0_6.lt; have := h1_6.size; omega) (Option.some.inj h))).le h4_2)
  refine W.sA sz61 rfl rfl f23 ?_
  intro w6_2 b6_2 h6_2
  have b6_2 : Blk w6_2 g0_6 61 #[.slice none 0 0, .slice none 0 0] := b6_2
  have L24 := L22.tb h6_2 L5 hg0_6
  refine W.run 1 rfl (W.nx (WC.ret (E.thenR ?_)))
  refine E.retG3 rfl rfl (resA rfl b6_2 ag61 (by rfl)) rfl ?_
  rw [tryG_none hn1 (.inl (of_decide_eq_true (hn4_2.symm.trans (by assumption))))]
  exact ⟨none, 0, [], none, 0, none, 0, by simp only [digs_zero]; rfl, OVec.nil _ _ _ _ _ _, PasAt.nil _ _, by simp only [digs_zero]; exact OVec.nil _ _ _ _ _ _, by simp only [digs_zero]; exact OVec.nil _ _ _ _ _ _, fun _ => rfl, L24⟩
 refine WC.condN rfl ((Bool.eq_false_iff.2 c1)) ?_
 have hsn : sharesL a n ≠ [] := fun hh => absurd (hn4_2.trans (decide_eq_true hh)) (by assumption)
 have hs8 := sharesL_le a n
 refine WC.sn (WC.sr ?_)
 have f25 := (((f8.le (h1_6.trans h1_11)).ch h1_13 (fun h => (show g1_11 ≠ g0_1 from by have := f8.lt; have := h1_6.size; omega) (Option.some.inj h))).le h4_2)
 refine W.r (.loadB (v := .pointer (some ⟨gp, 0, none⟩)) na55 rfl f25 rfl) ?_
 have f26 := (((f12.le (h1_6.trans h1_11)).ch h1_13 (fun q hqq hF => by cases hqq; have := f12.lt hF; have := h1_6.size; have := hg1_11; omega)).le h4_2)
 refine W.cl go85 rfl rfl (copy_mind f26) ?_
 rintro _ w7_1 ⟨gp7_1, F7_1, rfl, p7_1, h7_1⟩
 have L27 := L22.trans h7_1
 have f28 := (f25.le h7_1)
 refine W.ef0 rfl rfl ?_
 refine Ef.store sz55 rfl rfl f28 (by first | decide | (simp; done)) (rfl) ?_
 intro w7_2 b7_2 h7_2
 have b7_2 : Blk w7_2 g0_1 55 #[.pointer (some ⟨gp7_1, 0, none⟩)] := b7_2
 have L29 := L27.tb h7_2 L1 hg0_1
 refine W.nx (WC.sr ?_)
 refine W.cl go39 rfl rfl (fof_ok 1 1 w7_2 (by omega) (by omega) (by omega)) ?_
 rintro _ w8_0 ⟨An8_0, cn8_0, Ad8_0, cd8_0, rfl, on8_0, od8_0, h8_0⟩
 have L30 := L29.trans h8_0
 refine W.run 1 rfl ?_
 refine W.a (.extract (v := .agg #[.slice An8_0 ((digs ((lowF 1 1).n)).length) cn8_0, .slice Ad8_0 ((digs ((lowF 1 1).d)).length) cd8_0]) rfl rfl) ?_
 refine W.run 1 rfl (W.ef rfl rfl rfl ?_)
 refine Ef.allocA z61 ?_
 intro g8_4 w8_4 hg8_4 b8_4 h8_4
 have L31 := L30.trans h8_4
 have b8_4 : Blk w8_4 g8_4 61 #[.slice none 0 0, .slice none 0 0] := b8_4
 refine W.sA sz61 rfl rfl b8_4 ?_
 intro w8_5 b8_5 h8_5
 have b8_5 : Blk w8_5 g8_4 61 #[.slice An8_0 ((digs ((lowF 1 1).n)).length) cn8_0, .slice Ad8_0 ((digs ((lowF 1 1).d)).length) cd8_0] := b8_5
 have L32 := L31.tb h8_5 L30 hg8_4
 refine W.run 1 rfl (W.nx (WC.sr ?_))
 have f33 := ((on8_0.le h8_4).ch h8_5 (fun q hq => by cases hq; exact (fun he => by have := (on8_0.row he).2; omega)))
 have f34 := ((od8_0.le h8_4).ch h8_5 (fun q hq => by cases hq; exact (fun he => by have := (od8_0.row he).2; omega)))
 have hgo : ¬ F7_1 g8_4 := (fun hF => by have := p7_1.lt hF; have := h7_2.size; have := h8_0.size; have := hg8_4; omega)
 have h11 : (⟨(lowF 1 1).n, (lowF 1 1).d⟩ : Fr) = ⟨1, 1⟩ := by decide
 have zo0 : OddAt w8_5 w7_2.heap.size g8_4 ((⟨(lowF 1 1).n, (lowF 1 1).d⟩ : Fr), F7_1) := ⟨_, _, _, _, b8_5, f33, f34, (fun g hg hF => by have := p7_1.lt hF; have := h7_2.size; have := (f33.row hg).1; omega), (fun g hg hF => by have := p7_1.lt hF; have := h7_2.size; have := (f34.row hg).1; omega), (fun he => by have := (on8_0.row he).2; omega), (fun he => by have := (od8_0.row he).2; omega)⟩
 rw [h11] at zo0
 refine W.a (.makeFunc rfl) ?_
 refine W.run 1 rfl (W.nx (WC.sr (W.run 1 rfl (W.nx (WC.seq (WC.sr (W.run 1 rfl ?_)))))))
 refine W.r (.len underlying23 rfl) ?_
 refine W.run 1 rfl (W.nx (WC.block ?_))
 have f35 := (((p7_1.ch h7_2 (fun q hqq hF => by cases hqq; have := p7_1.old hF; have := f25.lt; omega)).le (h8_0.trans h8_4)).ch h8_5 (fun q hqq hF => by cases hqq; have := p7_1.lt hF; have := h7_2.size; have := h8_0.size; have := hg8_4; omega))
 have f36 := ((((((b0_6.le (h1_6.trans h1_11)).ch h1_13 (fun h => (show g1_11 ≠ g0_6 from by have := b0_6.lt; have := h1_6.size; omega) (Option.some.inj h))).le (h4_2.trans h7_1)).ch h7_2 (fun h => (show g0_1 ≠ g0_6 from by have := b0_1.lt; have := h0_2.size; have := h0_3.size; have := h0_4.size; omega) (Option.some.inj h))).le (h8_0.trans h8_4)).ch h8_5 (fun h => (show g8_4 ≠ g0_6 from by have := b0_6.lt; have := h1_6.size; have := h1_11.size; have := h1_13.size; have := h4_2.size; have := h7_1.size; have := h7_2.size; have := h8_0.size; omega) (Option.some.inj h)))
 have f37 := ((((((f7.le (h1_6.trans h1_11)).ch h1_13 (fun h => (show g1_11 ≠ g0_0 from by have := f7.lt; have := h1_6.size; omega) (Option.some.inj h))).le (h4_2.trans h7_1)).ch h7_2 (fun h => (show g0_1 ≠ g0_0 from by have := b0_0.lt; omega) (Option.some.inj h))).le (h8_0.trans h8_4)).ch h8_5 (fun h => (show g8_4 ≠ g0_0 from by have := f7.lt; have := h1_6.size; have := h1_11.size; have := h1_13.size; have := h4_2.size; have := h7_1.size; have := h7_2.size; have := h8_0.size; omega) (Option.some.inj h)))
 have f38 := ((b7_2.le (h8_0.trans h8_4)).ch h8_5 (fun h => (show g8_4 ≠ g0_1 from by have := b7_2.lt; have := h8_0.size; omega) (Option.some.inj h)))
 have f39 := ((((((f9.le (h1_6.trans h1_11)).ch h1_13 (fun h => (show g1_11 ≠ g0_2 from by have := f9.lt; have := h1_6.size; omega) (Option.some.inj h))).le (h4_2.trans h7_1)).ch h7_2 (fun h => (show g0_1 ≠ g0_2 from by have := b0_1.lt; omega) (Option.some.inj h))).le (h8_0.trans h8_4)).ch h8_5 (fun h => (show g8_4 ≠ g0_2 from by have := f9.lt; have := h1_6.size; have := h1_11.size; have := h1_13.size; have := h4_2.size; have := h7_1.size; have := h7_2.size; have := h8_0.size; omega) (Option.some.inj h)))
 have f40 := ((((((f10.le (h1_6.trans h1_11)).ch h1_13 (fun h => (show g1_11 ≠ g0_3 from by have := f10.lt; have := h1_6.size; omega) (Option.some.inj h))).le (h4_2.trans h7_1)).ch h7_2 (fun h => (show g0_1 ≠ g0_3 from by have := b0_1.lt; have := h0_2.size; omega) (Option.some.inj h))).le (h8_0.trans h8_4)).ch h8_5 (fun h => (show g8_4 ≠ g0_3 from by have := f10.lt; have := h1_6.size; have := h1_11.size; have := h1_13.size; have := h4_2.size; have := h7_1.size; have := h7_2.size; have := h8_0.size; omega) (Option.some.inj h)))
 have f41 := ((((((f11.le (h1_6.trans h1_11)).ch h1_13 (fun h => (show g1_11 ≠ g0_4 from by have := f11.lt; have := h1_6.size; omega) (Option.some.inj h))).le (h4_2.trans h7_1)).ch h7_2 (fun h => (show g0_1 ≠ g0_4 from by have := b0_1.lt; have := h0_2.size; have := h0_3.size; omega) (Option.some.inj h))).le (h8_0.trans h8_4)).ch h8_5 (fun h => (show g8_4 ≠ g0_4 from by have := f11.lt; have := h1_6.size; have := h1_11.size; have := h1_13.size; have := h4_2.size; have := h7_1.size; have := h7_2.size; have := h8_0.size; omega) (Option.some.inj h)))
 have f42 := ((((os4_2.le h7_1).ch h7_2 (fun q hq => by cases hq; exact (fun he => by have := (os4_2.row he).1; have := f8.lt; have := h1_6.size; have := h1_11.size; have := h1_13.size; omega))).le (h8_0.trans h8_4)).ch h8_5 (fun q hq => by cases hq; exact (fun he => by have := (os4_2.row he).2; have := h7_1.size; have := h7_2.size; have := h8_0.size; omega)))
 refine WC.loop (ι := Nat × TrS × ((Option Addr)) × Nat × ((List PaR))) (fun ⟨i, s, Ao, co, ro⟩ => [(15, .pointer (some ⟨g0_6, 0, none⟩)), (21, .pointer (some ⟨g8_4, 0, none⟩)), (23, .func (.func 86) #[] #[.pointer (some ⟨g0_0, 0, none⟩), .pointer (some ⟨g0_1, 0, none⟩), .pointer (some ⟨g0_2, 0, none⟩), .pointer (some ⟨g0_3, 0, none⟩), .pointer (some ⟨g0_4, 0, none⟩), .pointer (some ⟨g8_4, 0, none⟩)]), (24, .slice Ao s.out.length co), (64, .slice As4_2 ((sharesL a n).length) cs4_2), (65, .int .i64 ((((sharesL a n).length : Nat) : Int))), (66, .int .i64 (((i : Nat) : Int)))]) (fun ⟨i, s, Ao, co, ro⟩ wl0 => (i <= (sharesL a n).length) /\ (((sharesL a n).take i).foldl (tryS g fr to x) (some ⟨[], ⟨1, 1⟩, m⟩) = some s) /\ (LenF s.odds (1 + 100 * i)) /\ (okF s.odds) /\ Le w wl0 /\ w8_5.heap.size <= wl0.heap.size /\ Blk wl0 g0_6 61 #[.slice none 0 0, .slice none 0 0] /\ OddAt wl0 w7_2.heap.size g8_4 (s.odds, F7_1) /\ Blk wl0 g0_0 32 #[.slice A n0 c] /\ Blk wl0 g0_1 55 #[.pointer (some ⟨gp7_1, 0, none⟩)] /\ Blk wl0 g0_2 3 #[.int .i64 (fr)] /\ Blk wl0 g0_3 3 #[.int .i64 (to)] /\ Blk wl0 g0_4 3 #[.int .i64 (x)] /\ OVec wl0 w8_5.heap.size 34 prV 4 Ao s.out.length co ro /\ PasAt wl0 w8_5.heap.size ro s.out /\ OVec wl0 w1_13.heap.size 3 iv 1 As4_2 ((sharesL a n).length) cs4_2 (sharesL a n) /\ MPool wl0 w4_2.heap.size gp7_1 F7_1 s.m) (fun ⟨i, s, Ao, co, ro⟩ => (sharesL a n).length - i) (0, (⟨[], ⟨1, 1⟩, m⟩ : TrS), none, 0, ([])) ?_ ?_ ?_
 ·exact .cons rfl (.cons rfl (.cons rfl (.cons rfl (.cons rfl (.cons rfl (.cons rfl (.nil _)))))))
 ·exact ⟨Nat.zero_le _, rfl, (show LenF ⟨1, 1⟩ 1 from ⟨digs_len_one (by decide), digs_len_one (by decide)⟩), (show okF ⟨1, 1⟩ by unfold okF; decide), L32, Nat.le_refl _, f36, zo0, f37, f38, f39, f40, f41, (OVec.nil w8_5 w8_5.heap.size 34 prV 4 none), (PasAt.nil w8_5 w8_5.heap.size), f42, f35⟩
 rintro ⟨i, s, Ao, co, ro⟩ wl0 ⟨hi, hs, hlo, hok, Ll0, zl0, f0_0, f0_1, f0_2, f0_3, f0_4, f0_5, f0_6, f0_7, f0_8, f0_9, f0_10⟩
 have lb0_18 : w7_2.heap.size <= wl0.heap.size := by have := h8_0.size; have := h8_4.size; have := h8_5.size; omega
 have lb0_19 : w8_5.heap.size <= wl0.heap.size := by omega
 have lb0_20 : w8_5.heap.size <= wl0.heap.size := by omega
 have lb0_13 : w1_13.heap.size <= wl0.heap.size := by have := h4_2.size; have := h7_1.size; have := h7_2.size; have := h8_0.size; have := h8_4.size; have := h8_5.size; omega
 have hcn : s.out.length = min i (sharesL a n).length := by have := try_cnt hs; simpa using this
 refine WC.sr (W.run 1 rfl (W.nx (WC.seq ?_)))
 by_cases c2 : ((i : Nat) : Int) < (((sharesL a n).length : Nat) : Int)
 ·refine WC.condY rfl (decide_eq_true c2) ?_
  refine WC.sn (WC.seq (WC.block (WC.sr ?_)))
  refine W.a (.idxS (i) underlying23 sz3 rfl rfl (os4_2.vec.isSome iv_row (by omega)) (rfl) (by omega)) ?_
  refine W.r (.vone (v := .int .i64 (((sharesL a n).getD i 0))) na3 rfl f0_9.vec iv_row (getS (sharesL a n) 0 (by first | omega | (simp only [List.length_cons, List.length_nil]; omega))) rfl) ?_
  refine W.run 1 rfl (W.nx (WC.sr (W.run 2 rfl ?_)))
  by_cases qc14_2 : (bestR g s.m fr to ((sharesL a n).getD i 0) x).2.2 = 0
  ·have zE14_2 : SendE wl0 F7_1 gp7_1 A n0 c g fr to x g0_0 g0_1 g0_2 g0_3 g0_4 g8_4 := ⟨f0_2, f0_3, f0_4, f0_5, f0_6, (hV.le Ll0), (fun h => h.elim (fun hF => ((fun hF => by have := f0_10.old hF; have := f7.lt; have := h1_6.size; have := h1_11.size; have := h1_13.size; have := h4_2.size; omega)) hF) (fun he => (show g0_0 ≠ g8_4 from by have := f7.lt; have := h1_6.size; have := h1_11.size; have := h1_13.size; have := h4_2.size; have := h7_1.size; have := h7_2.size; have := h8_0.size; omega) he)), (fun h => h.elim (fun hF => ((fun hF => by have := f0_10.old hF; have := f25.lt; omega)) hF) (fun he => (show g0_1 ≠ g8_4 from by have := b7_2.lt; have := h8_0.size; omega) he)), (fun h => h.elim (fun hF => ((fun hF => by have := f0_10.old hF; have := f9.lt; have := h1_6.size; have := h1_11.size; have := h1_13.size; have := h4_2.size; omega)) hF) (fun he => (show g0_2 ≠ g8_4 from by have := f9.lt; have := h1_6.size; have := h1_11.size; have := h1_13.size; have := h4_2.size; have := h7_1.size; have := h7_2.size; have := h8_0.size; omega) he)), (fun h => h.elim (fun hF => ((fun hF => by have := f0_10.old hF; have := f10.lt; have := h1_6.size; have := h1_11.size; have := h1_13.size; have := h4_2.size; omega)) hF) (fun he => (show g0_3 ≠ g8_4 from by have := f10.lt; have := h1_6.size; have := h1_11.size; have := h1_13.size; have := h4_2.size; have := h7_1.size; have := h7_2.size; have := h8_0.size; omega) he)), (fun h => h.elim (fun hF => ((fun hF => by have := f0_10.old hF; have := f11.lt; have := h1_6.size; have := h1_11.size; have := h1_13.size; have := h4_2.size; omega)) hF) (fun he => (show g0_4 ≠ g8_4 from by have := f11.lt; have := h1_6.size; have := h1_11.size; have := h1_13.size; have := h4_2.size; have := h7_1.size; have := h7_2.size; have := h8_0.size; omega) he)), (show ¬ F7_1 g8_4 from hgo), (fun q h1 h2 _ he => by have := hV.blk_lt edgeV_row h2 h1; rcases he with hF | hF; (have := f0_10.old hF; have := L22.size; omega); (subst hF; have := L30.size; have := hg8_4; omega)), hn⟩
   refine W.ef rfl rfl rfl ?_
   refine Ef.callC go86 rfl rfl rfl (send_yes ((sharesL a n).getD i 0) zE14_2 f0_10 f0_1 (hlo.up (by omega)) hok (by have := lb0_18; omega) qc14_2) ?_
   rintro _ w14_2 ⟨r114_2, rfl, pr14_2, P14_2, O14_2, h14_2⟩
   refine ⟨_, rfl, ?_⟩
   have L43 := Ll0.chP_then h14_2 (fun i hi => Or.elim hi (fun hi => Nat.le_trans L22.size (f0_10.old hi)) (fun hi => (by subst hi; exact Nat.le_trans L30.size hg8_4)))
   refine W.run 1 rfl ?_
   refine W.a (.extract (v := .agg (prV r114_2).toArray) rfl rfl) ?_
   refine W.run 1 rfl (W.ef rfl rfl rfl ?_)
   refine Ef.allocA z34 ?_
   intro g14_6 w14_6 hg14_6 b14_6 h14_6
   have L44 := L43.trans h14_6
   have b14_6 : Blk w14_6 g14_6 34 (prV noPaR).toArray := b14_6
   refine W.ef0 rfl rfl ?_
   refine Ef.storeAll sz34 (by rfl) rfl rfl b14_6 (by simp only [List.size_toArray, prV_row.len]) (prV_row.one r114_2) ?_
   intro w14_7 b14_7 h14_7
   have b14_7 : Blk w14_7 g14_6 34 (prV r114_2).toArray := b14_7
   have L45 := L44.tb h14_7 L43 hg14_6
   refine W.run 1 rfl (W.nx (WC.seq (WC.sr (W.run 2 rfl (W.nx (WC.condF rfl (WC.sn (WC.region (W.run 1 rfl ?_)))))))))
   refine W.r (.loadAll ag34 (by rfl) rfl b14_7) ?_
   refine W.ef rfl rfl rfl ?_
   refine Ef.buildSliceV (len := 1) [_] underlying31 el34 rfl (by simp [Value.cells, prV_row.len]) rfl (by decide) (by decide) ?_
   intro g17_2 w17_2 hg17_2 b17_2 h17_2
   have L46 := L45.trans h17_2
   have b17_2 : Blk w17_2 g17_2 34 (([r114_2]).map prV).flatten.toArray := b17_2
   have o17_2 : OVec w17_2 w14_7.heap.size 34 prV 4 (some ⟨g17_2, 0, none⟩) 1 1 ([r114_2]) := b17_2.ovec hg17_2 prV_row rfl rfl (by decide)
   have f47 := ((((f0_7.chP h14_2 (fun q hqq hF => Or.elim hF (fun hF => ((fun g hg hF => by have := f35.lt hF;  have := (f0_7.row hg).1; omega) q hqq hF)) (fun hF => (by subst hF; exact (fun he => by have := (f0_7.row he).1; have := zo0.lt; omega) hqq)))).le h14_6).ch h14_7 (fun q hq => by cases hq; exact (fun he => by have := (f0_7.row he).2; have := h14_2.size; omega))).le h17_2)
   refine W.ef rfl rfl rfl ?_
   refine Ef.vpush (a := r114_2) underlying31 el34 underlying31 prV_row rfl f47 rfl b17_2 (by omega) (by unfold maxLen; omega) (by have := lb0_20; have := h14_2.size; have := h14_6.size; have := h14_7.size; have := h17_2.size; omega) ?_
   intro A17_3 c17_3 w17_3 o17_3 h17_3 at17_3
   have L48 := L46.then_ h17_3 (fun q hq => Nat.le_trans L32.size (f47.row hq).1)
   refine W.run 1 rfl ?_
   have f49 := (((((f0_8.chP h14_2 (fun i hF => Or.elim hF (fun hF => (by have := f35.lt hF;  omega)) (fun hF => (by subst hF; have := zo0.lt; omega)))).le h14_6).chB h14_7 b14_6 (by decide) (by decide)).le h17_2).chO h17_3 f47 (by decide) (by decide))
   have f50 := ((((pr14_2.le h14_6).chB h14_7 b14_6 (by decide) (by decide)).le h17_2).chO h17_3 f47 (by decide) (by decide))
   have zpu := f49.push (f50.mono (by have := lb0_20; omega))
   refine W.nil (E.blkN (E.thenN (WC.region ?_)))
   refine W.a (.add rfl rfl (by omega)) ?_
   refine W.run 1 rfl (W.nil ?_)
   have f51 := (((((f0_0.chP h14_2 (fun hF => Or.elim hF (fun hF => ((fun hF => by have := f0_10.old hF; have := b0_6.lt; have := h1_6.size; have := h1_11.size; have := h1_13.size; have := h4_2.size; omega) hF)) (fun hF => (show g0_6 ≠ g8_4 from by have := b0_6.lt; have := h1_6.size; have := h1_11.size; have := h1_13.size; have := h4_2.size; have := h7_1.size; have := h7_2.size; have := h8_0.size; omega) hF))).le h14_6).ch h14_7 (fun h => (show g14_6 ≠ g0_6 from by have := f0_0.lt; have := h14_2.size; omega) (Option.some.inj h))).le h17_2).ch h17_3 (fun he => by have := (f47.row he).1; have := f36.lt; omega))
   have f52 := ((((O14_2.le h14_6).chB h14_7 b14_6 (by decide) (by decide)).le h17_2).chO h17_3 f47 (by decide) (by decide))
   have f53 := (((((f0_2.chP h14_2 (fun hF => Or.elim hF (fun hF => ((fun hF => by have := f0_10.old hF; have := f7.lt; have := h1_6.size; have := h1_11.size; have := h1_13.size; have := h4_2.size; omega) hF)) (fun hF => (show g0_0 ≠ g8_4 from by have := f7.lt; have := h1_6.size; have := h1_11.size; have := h1_13.size; have := h4_2.size; have := h7_1.size; have := h7_2.size; have := h8_0.size; omega) hF))).le h14_6).ch h14_7 (fun h => (show g14_6 ≠ g0_0 from by have := f0_2.lt; have := h14_2.size; omega) (Option.some.inj h))).le h17_2).ch h17_3 (fun he => by have := (f47.row he).1; have := f37.lt; omega))
   have f54 := (((((f0_3.chP h14_2 (fun hF => Or.elim hF (fun hF => ((fun hF => by have := f0_10.old hF; have := f25.lt; omega) hF)) (fun hF => (show g0_1 ≠ g8_4 from by have := b7_2.lt; have := h8_0.size; omega) hF))).le h14_6).ch h14_7 (fun h => (show g14_6 ≠ g0_1 from by have := f0_3.lt; have := h14_2.size; omega) (Option.some.inj h))).le h17_2).ch h17_3 (fun he => by have := (f47.row he).1; have := f38.lt; omega))
   have f55 := (((((f0_4.chP h14_2 (fun hF => Or.elim hF (fun hF => ((fun hF => by have := f0_10.old hF; have := f9.lt; have := h1_6.size; have := h1_11.size; have := h1_13.size; have := h4_2.size; omega) hF)) (fun hF => (show g0_2 ≠ g8_4 from by have := f9.lt; have := h1_6.size; have := h1_11.size; have := h1_13.size; have := h4_2.size; have := h7_1.size; have := h7_2.size; have := h8_0.size; omega) hF))).le h14_6).ch h14_7 (fun h => (show g14_6 ≠ g0_2 from by have := f0_4.lt; have := h14_2.size; omega) (Option.some.inj h))).le h17_2).ch h17_3 (fun he => by have := (f47.row he).1; have := f39.lt; omega))
   have f56 := (((((f0_5.chP h14_2 (fun hF => Or.elim hF (fun hF => ((fun hF => by have := f0_10.old hF; have := f10.lt; have := h1_6.size; have := h1_11.size; have := h1_13.size; have := h4_2.size; omega) hF)) (fun hF => (show g0_3 ≠ g8_4 from by have := f10.lt; have := h1_6.size; have := h1_11.size; have := h1_13.size; have := h4_2.size; have := h7_1.size; have := h7_2.size; have := h8_0.size; omega) hF))).le h14_6).ch h14_7 (fun h => (show g14_6 ≠ g0_3 from by have := f0_5.lt; have := h14_2.size; omega) (Option.some.inj h))).le h17_2).ch h17_3 (fun he => by have := (f47.row he).1; have := f40.lt; omega))
   have f57 := (((((f0_6.chP h14_2 (fun hF => Or.elim hF (fun hF => ((fun hF => by have := f0_10.old hF; have := f11.lt; have := h1_6.size; have := h1_11.size; have := h1_13.size; have := h4_2.size; omega) hF)) (fun hF => (show g0_4 ≠ g8_4 from by have := f11.lt; have := h1_6.size; have := h1_11.size; have := h1_13.size; have := h4_2.size; have := h7_1.size; have := h7_2.size; have := h8_0.size; omega) hF))).le h14_6).ch h14_7 (fun h => (show g14_6 ≠ g0_4 from by have := f0_6.lt; have := h14_2.size; omega) (Option.some.inj h))).le h17_2).ch h17_3 (fun he => by have := (f47.row he).1; have := f41.lt; omega))
   have f58 := (((((f0_9.chP h14_2 (fun q hqq hF => Or.elim hF (fun hF => ((fun g hg hF => by have := f0_10.old hF;  have := (os4_2.row hg).2; omega) q hqq hF)) (fun hF => (by subst hF; exact (fun he => by have := (os4_2.row he).2; have := h7_1.size; have := h7_2.size; have := h8_0.size; omega) hqq)))).le h14_6).ch h14_7 (fun q hq => by cases hq; exact (fun he => by have := (f0_9.row he).2; have := h14_2.size; omega))).le h17_2).ch h17_3 ((Apart.symm (fun q h1 h2 => by have := (f42.row h1).2; have := (f47.row h2).1; omega))))
   have f59 := ((((P14_2.le h14_6).ch h14_7 (fun q hqq hF => by cases hqq; have := P14_2.lt hF;  have := hg14_6; omega)).le h17_2).ch h17_3 (fun q hqq hF => by have := (f47.row hqq).1; have := f35.lt hF;  omega))
   refine E.again (i + 1, (stepT g fr to x s ((sharesL a n).getD i 0)), A17_3, c17_3, (ro ++ [r114_2])) (.cons rfl (.cons rfl (.cons rfl (.cons' rfl (slice_eq (by simp [stepT])) (.cons rfl (.cons rfl (.cons rfl (.nil _)))))))) ?_ ?_
   ·exact ⟨by omega, (by rw [try_next (by omega) hs]; exact tryS_yes (by assumption)), ((hlo.mul ((bestR_len (g := g) (fr := fr) (to := to) (a := ((sharesL a n).getD i 0)) (x := x) (f0_10.good)).2)).up (by omega)), okF_mul hok (best_unit f0_10.good (by assumption)).1, L48, by have := zl0; have := h14_2.size; have := h14_6.size; have := h14_7.size; have := h17_2.size; have := h17_3.size; omega, f51, f52, f53, f54, f55, f56, f57, (o17_3.cast (by simp [stepT]) rfl), zpu, f58, f59⟩
   first | omega | (simp only []; omega)
  have zE14_2_1 : SendE wl0 F7_1 gp7_1 A n0 c g fr to x g0_0 g0_1 g0_2 g0_3 g0_4 g8_4 := ⟨f0_2, f0_3, f0_4, f0_5, f0_6, (hV.le Ll0), (fun h => h.elim (fun hF => ((fun hF => by have := f0_10.old hF; have := f7.lt; have := h1_6.size; have := h1_11.size; have := h1_13.size; have := h4_2.size; omega)) hF) (fun he => (show g0_0 ≠ g8_4 from by have := f7.lt; have := h1_6.size; have := h1_11.size; have := h1_13.size; have := h4_2.size; have := h7_1.size; have := h7_2.size; have := h8_0.size; omega) he)), (fun h => h.elim (fun hF => ((fun hF => by have := f0_10.old hF; have := f25.lt; omega)) hF) (fun he => (show g0_1 ≠ g8_4 from by have := b7_2.lt; have := h8_0.size; omega) he)), (fun h => h.elim (fun hF => ((fun hF => by have := f0_10.old hF; have := f9.lt; have := h1_6.size; have := h1_11.size; have := h1_13.size; have := h4_2.size; omega)) hF) (fun he => (show g0_2 ≠ g8_4 from by have := f9.lt; have := h1_6.size; have := h1_11.size; have := h1_13.size; have := h4_2.size; have := h7_1.size; have := h7_2.size; have := h8_0.size; omega) he)), (fun h => h.elim (fun hF => ((fun hF => by have := f0_10.old hF; have := f10.lt; have := h1_6.size; have := h1_11.size; have := h1_13.size; have := h4_2.size; omega)) hF) (fun he => (show g0_3 ≠ g8_4 from by have := f10.lt; have := h1_6.size; have := h1_11.size; have := h1_13.size; have := h4_2.size; have := h7_1.size; have := h7_2.size; have := h8_0.size; omega) he)), (fun h => h.elim (fun hF => ((fun hF => by have := f0_10.old hF; have := f11.lt; have := h1_6.size; have := h1_11.size; have := h1_13.size; have := h4_2.size; omega)) hF) (fun he => (show g0_4 ≠ g8_4 from by have := f11.lt; have := h1_6.size; have := h1_11.size; have := h1_13.size; have := h4_2.size; have := h7_1.size; have := h7_2.size; have := h8_0.size; omega) he)), (show ¬ F7_1 g8_4 from hgo), (fun q h1 h2 _ he => by have := hV.blk_lt edgeV_row h2 h1; rcases he with hF | hF; (have := f0_10.old hF; have := L22.size; omega); (subst hF; have := L30.size; have := hg8_4; omega)), hn⟩
  refine W.ef rfl rfl rfl ?_
  refine Ef.callC go86 rfl rfl rfl (send_no ((sharesL a n).getD i 0) zE14_2_1 f0_10 f0_1 (hlo.up (by omega)) hok (by have := lb0_18; omega) qc14_2) ?_
  rintro _ w14_2_1 ⟨rfl, h14_2_1⟩
  refine ⟨_, rfl, ?_⟩
  have L60 := Ll0.chP_then h14_2_1 (fun i hi => Or.elim hi (fun hi => Nat.le_trans L22.size (f0_10.old hi)) (fun hi => (by subst hi; exact Nat.le_trans L30.size hg8_4)))
  refine W.run 1 rfl ?_
  refine W.a (.extract (v := .agg (prV noPaR).toArray) rfl rfl) ?_
  refine W.run 1 rfl (W.ef rfl rfl rfl ?_)
  refine Ef.allocA z34 ?_
  intro g14_6_1 w14_6_1 hg14_6_1 b14_6_1 h14_6_1
  have L61 := L60.trans h14_6_1
  have b14_6_1 : Blk w14_6_1 g14_6_1 34 (prV noPaR).toArray := b14_6_1
  refine W.ef0 rfl rfl ?_
  refine Ef.storeAll sz34 (by rfl) rfl rfl b14_6_1 (by simp only [List.size_toArray, prV_row.len]) (prV_row.one noPaR) ?_
  intro w14_7_1 b14_7_1 h14_7_1
  have b14_7_1 : Blk w14_7_1 g14_6_1 34 (prV noPaR).toArray := b14_7_1
  have L62 := L61.tb h14_7_1 L60 hg14_6_1
  refine W.run 1 rfl (W.nx (WC.seq (WC.sr (W.run 2 rfl (W.nx (WC.condT rfl (WC.sr ?_)))))))
  refine W.a (.buildP [.slice none 0 0, .slice none 0 0] pl61 z61 rfl rfl) ?_
  refine W.run 1 rfl ?_
  have f63 := (((f0_0.chP h14_2_1 (fun hF => Or.elim hF (fun hF => ((fun hF => by have := f0_10.old hF; have := b0_6.lt; have := h1_6.size; have := h1_11.size; have := h1_13.size; have := h4_2.size; omega) hF)) (fun hF => (show g0_6 ≠ g8_4 from by have := b0_6.lt; have := h1_6.size; have := h1_11.size; have := h1_13.size; have := h4_2.size; have := h7_1.size; have := h7_2.size; have := h8_0.size; omega) hF))).le h14_6_1).ch h14_7_1 (fun h => (show g14_6_1 ≠ g0_6 from by have := f0_0.lt; have := h14_2_1.size; omega) (Option.some.inj h)))
  refine W.sA sz61 rfl rfl f63 ?_
  intro w16_2 b16_2 h16_2
  have b16_2 : Blk w16_2 g0_6 61 #[.slice none 0 0, .slice none 0 0] := b16_2
  have L64 := L62.tb h16_2 L5 hg0_6
  refine W.run 1 rfl (W.nx (WC.ret (E.thenR (E.blkR (E.thenR (E.thenR (E.blkR (E.thenR ?_))))))))
  refine E.retG3 rfl rfl (resA rfl b16_2 ag61 (by rfl)) rfl ?_
  rw [tryG_none hn1 (.inr (try_rest (k := i + 1) (by rw [try_next (by omega) hs]; exact tryS_no (by assumption))))]
  exact ⟨none, 0, [], none, 0, none, 0, by simp only [digs_zero]; rfl, OVec.nil _ _ _ _ _ _, PasAt.nil _ _, by simp only [digs_zero]; exact OVec.nil _ _ _ _ _ _, by simp only [digs_zero]; exact OVec.nil _ _ _ _ _ _, fun _ => rfl, L64⟩
 refine WC.condN rfl (decide_eq_false c2) ?_
 refine WC.exit (E.thenX (E.thenX (E.blkH (E.thenN (WC.seq ?_)))))
 refine WC.draw [0, 1, 2, 3, 4] mixed (by kernel_rfl) ?_
 intro w19 d19
 have L65 := Ll0.trans d19
 refine G.run 1 rfl ?_
 have f66 := (f0_1.le d19)
 obtain ⟨Anz, cnz, Adz, cdz, hbz, hnz, hdz, _⟩ := f66
 refine G.r rfl (.loadAll ag61 (by rfl) rfl hbz) ?_
 refine G.run 1 rfl ?_
 have f67 := (f0_0.le d19)
 refine G.ef0 rfl rfl rfl rfl ?_
 refine Ef.storeAll sz61 (by rfl) rfl rfl f67 (by rfl) (by simp [Value.oneCell']) ?_
 intro w19_3 b19_3 h19_3
 refine noT (by kernel_rfl) ?_
 have b19_3 : Blk w19_3 g0_6 61 #[.slice Anz ((digs s.odds.n).length) cnz, .slice Adz ((digs s.odds.d).length) cdz] := b19_3
 have L68 := L65.tb h19_3 L5 hg0_6
 refine G.run 1 rfl (G.nil (E.thenN (WC.ret ?_)))
 have f69 := ((f0_8.le d19).chB h19_3 f67 (by decide) (by decide))
 have f70 := ((f0_7.le d19).ch h19_3 (fun q hq => by cases hq; exact (fun he => by have := (f0_7.row he).1; have := f36.lt; omega)))
 have f71 := (hnz.ch h19_3 (fun q hq => by cases hq; exact (fun he => by have := (hnz.row he).1; have := b0_6.lt; have := h1_6.size; have := h1_11.size; have := h1_13.size; have := h4_2.size; have := h7_1.size; have := h7_2.size; omega)))
 have f72 := (hdz.ch h19_3 (fun q hq => by cases hq; exact (fun he => by have := (hdz.row he).1; have := b0_6.lt; have := h1_6.size; have := h1_11.size; have := h1_13.size; have := h4_2.size; have := h7_1.size; have := h7_2.size; omega)))
 refine E.retG3 rfl rfl (resA rfl b19_3 ag61 (by rfl)) rfl ?_
 have hil : i = (sharesL a n).length := (by omega)
 have htl : (sharesL a n).take i = sharesL a n := (by rw [hil, List.take_length])
 rw [htl] at hs
 have hcnt := try_cnt hs
 rw [tryG_some hn1 hsn hs]
 exact ⟨_, _, _, _, _, _, _, rfl, (f70.mono L32.size), (f69.mono L32.size), (f71.mono L29.size), (f72.mono L29.size), (fun h => by have h' : s.out = [] := h; rw [h'] at hcnt; have := List.length_pos_iff.2 hsn; simp at hcnt; omega), L68⟩

theorem spbest_ok {base gp : Nat} {F : Nat -> Prop} {m : MF} (fr to a x n : Int) {A : Option Addr} {n0 c : Nat} {g : List Gsp.Edge} (w : World) (hP : MPool w base gp F m) (hV : Vec w edgeV 9 A n0 g) (hn : n0 <= 1000000) (ha : a <= 9223372036854775807) : Calls prog 30 #[.slice A n0 c, .pointer (some ⟨gp, 0, none⟩), .int .i64 (fr), .int .i64 (to), .int .i64 (a), .int .i64 (x), .int .i64 (n)] w fun r w' => ∃ A c rs An cn Ad cd, r = .returned (.tuple #[.slice A (splitG g m fr to a x n).1.length c, .agg #[.slice An (digs (splitG g m fr to a x n).2.1.n).length cn, .slice Ad (digs (splitG g m fr to a x n).2.1.d).length cd], .int .i64 (splitG g m fr to a x n).2.2]) /\ OVec w' w.heap.size 34 prV 4 A (splitG g m fr to a x n).1.length c rs /\ PasAt w' w.heap.size rs (splitG g m fr to a x n).1 /\ OVec w' w.heap.size 273 dv 1 An (digs (splitG g m fr to a x n).2.1.n).length cn (digs (splitG g m fr to a x n).2.1.n) /\ OVec w' w.heap.size 273 dv 1 Ad (digs (splitG g m fr to a x n).2.1.d).length cd (digs (splitG g m fr to a x n).2.1.d) /\ ((splitG g m fr to a x n).1 = [] -> A = none) /\ Le w w' := by
 have hl := hV.1
 have hgm := hP.good
 refine enter func30 rfl rfl ?_
 have L0 := Le.refl w
 refine WC.sr (W.run 1 rfl (W.ef rfl rfl rfl ?_))
 refine Ef.allocA z61 ?_
 intro g0_1 w0_1 hg0_1 b0_1 h0_1
 have L1 := L0.trans h0_1
 have b0_1 : Blk w0_1 g0_1 61 #[.slice none 0 0, .slice none 0 0] := b0_1
 refine W.run 1 rfl (W.nx (WC.seq (WC.sr (W.run 2 rfl ?_))))
 by_cases q1_2 : n < 1
 ·refine W.dt q1_2 rfl rfl (W.run 3 rfl (W.nx (WC.condT rfl (WC.sr ?_))))
  refine W.a (.buildP [.slice none 0 0, .slice none 0 0] pl61 z61 rfl rfl) ?_
  refine W.run 1 rfl ?_
  refine W.sA sz61 rfl rfl b0_1 ?_
  intro w2_2 b2_2 h2_2
  have b2_2 : Blk w2_2 g0_1 61 #[.slice none 0 0, .slice none 0 0] := b2_2
  have L2 := L1.tb h2_2 L0 hg0_1
  refine W.run 1 rfl (W.nx (WC.ret (E.thenR ?_)))
  refine E.retG3 rfl rfl (resA rfl b2_2 ag61 (by rfl)) rfl ?_
  have hsg : splitG g m fr to a x n = ([], ⟨0, 0⟩, 1) := (by unfold splitG; rw [if_pos (by omega)])
  rw [hsg]
  exact ⟨none, 0, [], none, 0, none, 0, by simp only [digs_zero]; rfl, OVec.nil _ _ _ _ _ _, PasAt.nil _ _, by simp only [digs_zero]; exact OVec.nil _ _ _ _ _ _, by simp only [digs_zero]; exact OVec.nil _ _ _ _ _ _, fun _ => rfl, L2⟩
 refine W.df q1_2 rfl rfl (W.run 3 rfl (W.nx ?_))
 by_cases c0 : 8 < n
 ·refine WC.condY rfl (decide_eq_true c0) ?_
  refine WC.sr ?_
  refine W.a (.buildP [.slice none 0 0, .slice none 0 0] pl61 z61 rfl rfl) ?_
  refine W.run 1 rfl ?_
  refine W.sA sz61 rfl rfl b0_1 ?_
  intro w2_2_1 b2_2_1 h2_2_1
  have b2_2_1 : Blk w2_2_1 g0_1 61 #[.slice none 0 0, .slice none 0 0] := b2_2_1
  have L3 := L1.tb h2_2_1 L0 hg0_1
  refine W.run 1 rfl (W.nx (WC.ret (E.thenR ?_)))
  refine E.retG3 rfl rfl (resA rfl b2_2_1 ag61 (by rfl)) rfl ?_
  have hsg : splitG g m fr to a x n = ([], ⟨0, 0⟩, 1) := (by unfold splitG; rw [if_pos (by omega)])
  rw [hsg]
  exact ⟨none, 0, [], none, 0, none, 0, by simp only [digs_zero]; rfl, OVec.nil _ _ _ _ _ _, PasAt.nil _ _, by simp only [digs_zero]; exact OVec.nil _ _ _ _ _ _, by simp only [digs_zero]; exact OVec.nil _ _ _ _ _ _, fun _ => rfl, L3⟩
 refine WC.condN rfl (decide_eq_false c0) ?_
 refine WC.sn (WC.sr (W.run 1 rfl (W.nx (WC.sr (W.ef rfl rfl rfl ?_)))))
 refine Ef.allocA z61 ?_
 intro g4_0 w4_0 hg4_0 b4_0 h4_0
 have L4 := L1.trans h4_0
 have b4_0 : Blk w4_0 g4_0 61 #[.slice none 0 0, .slice none 0 0] := b4_0
 refine W.nx (WC.sr ?_)
 have bz0 : Blk w4_0 g4_0 61 #[.slice none (digs 0).length 0, .slice none (digs 0).length 0] := by rw [digs_zero]; exact b4_0
 have oz0 : OVec w4_0 w4_0.heap.size 273 dv 1 none (digs 0).length 0 (digs 0) := by rw [digs_zero]; exact OVec.nil _ _ _ _ _ _
 refine W.run 1 rfl (W.nx (WC.seq (WC.sr (W.run 2 rfl (W.nx (WC.block ?_))))))
 have f5 := (hP.le (h0_1.trans h4_0))
 have f6 := (b0_1.le h4_0)
 refine WC.loop (ι := Nat × ((List Prt × Fr × Int)) × ((Option Addr)) × Nat × ((List PaR)) × ((Option Addr)) × Nat × ((Option Addr)) × Nat) (fun ⟨i, b, Ab, cb, rb, Ax, cx, Ay, cy⟩ => [(0, .slice A n0 c), (1, .pointer (some ⟨gp, 0, none⟩)), (2, .int .i64 (fr)), (3, .int .i64 (to)), (4, .int .i64 (a)), (5, .int .i64 (x)), (15, .pointer (some ⟨g0_1, 0, none⟩)), (17, .slice Ab b.1.length cb), (18, .pointer (some ⟨g4_0, 0, none⟩)), (19, .int .i64 (b.2.2)), (31, .int .i64 (n)), (32, .int .i64 (((i : Nat) : Int)))]) (fun ⟨i, b, Ab, cb, rb, Ax, cx, Ay, cy⟩ wl0 => (i <= n.toNat) /\ (b = (List.range i).foldl (splS g m fr to a x) ([], ⟨0, 0⟩, 19)) /\ (b.1 = [] -> Ab = none) /\ (0 < i -> (bestR g m fr to a x).2.2 ≠ 1) /\ ((digs b.2.1.n).length <= 900 /\ (digs b.2.1.d).length <= 900) /\ Le w wl0 /\ w4_0.heap.size <= wl0.heap.size /\ MPool wl0 base gp F m /\ Blk wl0 g0_1 61 #[.slice none 0 0, .slice none 0 0] /\ OVec wl0 w4_0.heap.size 34 prV 4 Ab b.1.length cb rb /\ PasAt wl0 w4_0.heap.size rb b.1 /\ Blk wl0 g4_0 61 #[.slice Ax ((digs b.2.1.n).length) cx, .slice Ay ((digs b.2.1.d).length) cy] /\ OVec wl0 w4_0.heap.size 273 dv 1 Ax ((digs b.2.1.n).length) cx (digs b.2.1.n) /\ OVec wl0 w4_0.heap.size 273 dv 1 Ay ((digs b.2.1.d).length) cy (digs b.2.1.d)) (fun ⟨i, b, Ab, cb, rb, Ax, cx, Ay, cy⟩ => n.toNat - i) (0, (([], ⟨0, 0⟩, 19) : List Prt × Fr × Int), none, 0, ([]), none, 0, none, 0) ?_ ?_ ?_
 ·exact .cons rfl (.cons rfl (.cons rfl (.cons rfl (.cons rfl (.cons rfl (.cons rfl (.cons rfl (.cons rfl (.cons rfl (.cons rfl (.cons rfl (.nil _))))))))))))
 ·exact ⟨Nat.zero_le _, rfl, fun _ => rfl, fun h => absurd h (Nat.not_lt_zero _), by simp only [digs_zero]; exact ⟨Nat.zero_le _, Nat.zero_le _⟩, L4, Nat.le_refl _, f5, f6, (OVec.nil w4_0 w4_0.heap.size 34 prV 4 none), (PasAt.nil w4_0 w4_0.heap.size), bz0, oz0, oz0⟩
 rintro ⟨i, b, Ab, cb, rb, Ax, cx, Ay, cy⟩ wl0 ⟨hi, hb, hbe, hb1, hlb, Ll0, zl0, f0_0, f0_1, f0_2, f0_3, f0_4, f0_5, f0_6⟩
 have lb0_8 : w4_0.heap.size <= wl0.heap.size := by omega
 have lb0_9 : w4_0.heap.size <= wl0.heap.size := by omega
 have lb0_5 : w4_0.heap.size <= wl0.heap.size := by omega
 have lb0_6 : w4_0.heap.size <= wl0.heap.size := by omega
 refine WC.sr (W.run 1 rfl (W.nx (WC.seq ?_)))
 by_cases c1 : ((i : Nat) : Int) < n
 ·refine WC.condY rfl (decide_eq_true c1) ?_
  refine WC.sn (WC.seq (WC.block (WC.sr (W.run 2 rfl (W.nx (WC.sr (W.run 7 rfl ?_)))))))
  refine W.a (.add rfl rfl (by omega)) ?_
  obtain ⟨t1, het1⟩ : ∃ z, z = (tryG g m fr to a x (((i : Nat) : Int) + 1)) := ⟨_, rfl⟩
  have hlt1 := tryG_len (g := g) (m := m) (fr := fr) (to := to) (a := a) (x := x) (n := (((i : Nat) : Int) + 1)) hgm
  rw [<- het1] at hlt1; unfold LenF at hlt1
  refine W.cl go28 rfl rfl ((by have k := sptry_ok (c := c) fr to a x (((i : Nat) : Int) + 1) wl0 f0_0 (hV.le Ll0) (by omega) (by omega); rw [<- het1] at k; exact k)) ?_
  rintro _ w9_8 ⟨Ap9_8, cp9_8, rs9_8, An9_8, cn9_8, Ad9_8, cd9_8, rfl, op9_8, pa9_8, on9_8, od9_8, hz9_8, h9_8⟩
  have L7 := Ll0.trans h9_8
  have hr9_8 := pa9_8.1
  refine W.run 2 rfl ?_
  refine W.a (.extract (v := .agg #[.slice An9_8 ((digs t1.2.1.n).length) cn9_8, .slice Ad9_8 ((digs t1.2.1.d).length) cd9_8]) rfl rfl) ?_
  refine W.run 1 rfl (W.ef rfl rfl rfl ?_)
  refine Ef.allocA z61 ?_
  intro g9_13 w9_13 hg9_13 b9_13 h9_13
  have L8 := L7.trans h9_13
  have b9_13 : Blk w9_13 g9_13 61 #[.slice none 0 0, .slice none 0 0] := b9_13
  refine W.run 1 rfl ?_
  refine W.sA sz61 rfl rfl b9_13 ?_
  intro w9_15 b9_15 h9_15
  have b9_15 : Blk w9_15 g9_13 61 #[.slice An9_8 ((digs t1.2.1.n).length) cn9_8, .slice Ad9_8 ((digs t1.2.1.d).length) cd9_8] := b9_15
  have L9 := L8.tb h9_15 L7 hg9_13
  refine W.run 1 rfl (W.nx (WC.block (WC.sr ?_)))
  have f10 := ((f0_2.le (h9_8.trans h9_13)).ch h9_15 (fun q hq => by cases hq; exact (fun he => by have := (f0_2.row he).2; have := h9_8.size; omega)))
  have hbn : Ab.isNone = true -> b.1 = [] := fun h => Decidable.byContradiction fun hh => by have := f10.vec.isSome prV_row (List.length_pos_iff.2 hh); revert h this; cases Ab <;> simp
  refine W.run 3 rfl (W.nx ?_)
  by_cases c2 : t1.2.2 = 1
  ·refine WC.condY rfl (decide_eq_true c2) ?_
   refine WC.sr ?_
   refine W.a (.buildP [.slice none 0 0, .slice none 0 0] pl61 z61 rfl rfl) ?_
   refine W.run 2 rfl ?_
   have f11 := ((f0_1.le (h9_8.trans h9_13)).ch h9_15 (fun h => (show g9_13 ≠ g0_1 from by have := f0_1.lt; have := h9_8.size; omega) (Option.some.inj h)))
   refine W.sA sz61 rfl rfl f11 ?_
   intro w11_3 b11_3 h11_3
   have b11_3 : Blk w11_3 g0_1 61 #[.slice none 0 0, .slice none 0 0] := b11_3
   have L12 := L9.tb h11_3 L0 hg0_1
   refine W.run 1 rfl (W.nx (WC.ret (E.blkR (E.blkR (E.thenR (E.thenR (E.blkR (E.thenR ?_))))))))
   refine E.retG3 rfl rfl (resA rfl b11_3 ag61 (by rfl)) rfl ?_
   have hte : t1.2.2 = 1 := (by assumption)
   have hsg : splitG g m fr to a x n = ([], ⟨0, 0⟩, 1) := (by unfold splitG; rw [if_pos (.inr (.inr (tryG_arg (n := (i : Int) + 1) (by omega) (by omega) (by rw [<- het1]; exact hte))))])
   rw [hte, hsg]
   exact ⟨none, 0, [], none, 0, none, 0, by simp only [digs_zero]; rfl, OVec.nil _ _ _ _ _ _, PasAt.nil _ _, by simp only [digs_zero]; exact OVec.nil _ _ _ _ _ _, by simp only [digs_zero]; exact OVec.nil _ _ _ _ _ _, fun _ => rfl, L12⟩
  refine WC.condN rfl (decide_eq_false c2) ?_
  refine WC.sr (W.run 2 rfl ?_)
  by_cases q12_2 : t1.2.2 = 0
  ·refine W.dt q12_2 rfl rfl (W.run 1 rfl ?_)
   refine W.g (Any.rd (.isNil underlying31 rfl) _) ?_
   by_cases q12_5 : Ab.isNone = true
   ·refine W.g (Any.rd (.dec (.move rfl) (q12_5)) _) ?_
    refine W.run 4 rfl ?_
    refine W.g (Any.rd (.pickT rfl rfl rfl) _) ?_
    refine W.run 2 rfl (W.nx (WC.condT rfl ?_))
    refine WC.draw [0, 1, 2, 3, 4] mixed (by kernel_rfl) ?_
    intro w13 d13
    have L13 := L9.trans d13
    refine G.run 1 rfl ?_
    have f14 := (b9_15.le d13)
    refine G.r rfl (.loadAll ag61 (by rfl) rfl f14) ?_
    refine G.run 1 rfl ?_
    have f15 := (((f0_4.le (h9_8.trans h9_13)).ch h9_15 (fun h => (show g9_13 ≠ g4_0 from by have := f0_4.lt; have := h9_8.size; omega) (Option.some.inj h))).le d13)
    refine G.ef0 rfl rfl rfl rfl ?_
    refine Ef.storeAll sz61 (by rfl) rfl rfl f15 (by rfl) (by simp [Value.oneCell']) ?_
    intro w13_3 b13_3 h13_3
    refine noT (by kernel_rfl) ?_
    have b13_3 : Blk w13_3 g4_0 61 #[.slice An9_8 ((digs t1.2.1.n).length) cn9_8, .slice Ad9_8 ((digs t1.2.1.d).length) cd9_8] := b13_3
    have L16 := L13.tb h13_3 L1 hg4_0
    refine G.run 1 rfl (G.nil (E.blkN (E.blkN (E.thenN (WC.region ?_)))))
    refine W.a (.add rfl rfl (by omega)) ?_
    refine W.run 1 rfl (W.nil ?_)
    have f17 := ((((f0_0.le (h9_8.trans h9_13)).ch h9_15 (fun q hqq hF => by cases hqq; have := f0_0.lt hF; have := h9_8.size; have := hg9_13; omega)).le d13).ch h13_3 (fun q hqq hF => by cases hqq; have := hP.lt hF; have := h0_1.size; have := hg4_0; omega))
    have f18 := ((((f0_1.le (h9_8.trans h9_13)).ch h9_15 (fun h => (show g9_13 ≠ g0_1 from by have := f0_1.lt; have := h9_8.size; omega) (Option.some.inj h))).le d13).ch h13_3 (fun h => (show g4_0 ≠ g0_1 from by have := b0_1.lt; omega) (Option.some.inj h)))
    have f19 := ((((op9_8.le h9_13).ch h9_15 (fun q hq => by cases hq; exact (fun he => by have := (op9_8.row he).2; omega))).le d13).ch h13_3 (fun q hq => by cases hq; exact (fun he => by have := (op9_8.row he).1; have := f0_4.lt; omega)))
    have f20 := ((((pa9_8.le h9_13).chB h9_15 b9_13 (by decide) (by decide)).le d13).chB h13_3 f15 (by decide) (by decide))
    have f21 := ((((on9_8.le h9_13).ch h9_15 (fun q hq => by cases hq; exact (fun he => by have := (on9_8.row he).2; omega))).le d13).ch h13_3 (fun q hq => by cases hq; exact (fun he => by have := (on9_8.row he).1; have := f0_4.lt; omega)))
    have f22 := ((((od9_8.le h9_13).ch h9_15 (fun q hq => by cases hq; exact (fun he => by have := (od9_8.row he).2; omega))).le d13).ch h13_3 (fun q hq => by cases hq; exact (fun he => by have := (od9_8.row he).1; have := f0_4.lt; omega)))
    refine E.again (i + 1, t1, Ap9_8, cp9_8, rs9_8, An9_8, cn9_8, Ad9_8, cd9_8) (.cons rfl (.cons rfl (.cons rfl (.cons rfl (.cons rfl (.cons rfl (.cons rfl (.cons rfl (.cons rfl (.cons' rfl (int_eq (Eq.symm (by assumption : t1.2.2 = 0))) (.cons rfl (.cons rfl (.nil _))))))))))))) ?_ ?_
    ·exact ⟨by omega, (by rw [List.range_succ, List.foldl_append, <- hb]; show _ = splS g m fr to a x b i; unfold splS; rw [<- het1]; exact (if_pos ⟨by assumption, by first | exact .inl (hbn (by assumption)) | exact .inr (by assumption)⟩).symm), hz9_8, fun _ hh => absurd (by rw [het1, tryG_bad (.inr (.inr hh))]) (by assumption : ¬ t1.2.2 = 1), hlt1.1, L16, by have := zl0; have := h9_8.size; have := h9_13.size; have := h9_15.size; have := d13.size; have := h13_3.size; omega, f17, f18, (f19.mono (by omega)), (f20.mono (by omega)), b13_3, (f21.mono (by omega)), (f22.mono (by omega))⟩
    first | omega | (simp only []; omega)
   refine W.g (Any.rd (.dec (.move rfl) ((Bool.eq_false_iff.2 q12_5))) _) ?_
   refine W.g (.loadAll ag61 (by rfl) rfl b9_15) ?_
   have f23 := ((f0_4.le (h9_8.trans h9_13)).ch h9_15 (fun h => (show g9_13 ≠ g4_0 from by have := f0_4.lt; have := h9_8.size; omega) (Option.some.inj h)))
   refine W.g (.loadAll ag61 (by rfl) rfl f23) ?_
   have f24 := ((on9_8.le h9_13).ch h9_15 (fun q hq => by cases hq; exact (fun he => by have := (on9_8.row he).2; omega)))
   have f25 := ((od9_8.le h9_13).ch h9_15 (fun q hq => by cases hq; exact (fun he => by have := (od9_8.row he).2; omega)))
   have f26 := ((f0_5.le (h9_8.trans h9_13)).ch h9_15 (fun q hq => by cases hq; exact (fun he => by have := (f0_5.row he).2; have := h9_8.size; omega)))
   have f27 := ((f0_6.le (h9_8.trans h9_13)).ch h9_15 (fun q hq => by cases hq; exact (fun he => by have := (f0_6.row he).2; have := h9_8.size; omega)))
   refine W.efg rfl rfl rfl (rfl) rfl rfl ?_
   refine Ef.call go41 rfl rfl (fcmp_ok w9_15 f24.vec f25.vec (by omega) (by omega) f26.vec f27.vec (by omega) (by omega)) ?_
   rintro _ w12_8 ⟨rfl, h12_8⟩
   refine ⟨_, rfl, ?_⟩
   have L28 := L9.trans h12_8
   refine W.run 1 rfl ?_
   refine W.g (Any.rd (.pickF rfl rfl rfl) _) ?_
   refine W.run 2 rfl (W.nx ?_)
   by_cases c3 : 0 < (cmpF (takF (⟨t1.2.1.n, t1.2.1.d⟩ : Fr)) (takF (⟨b.2.1.n, b.2.1.d⟩ : Fr)))
   ·refine WC.condY rfl (decide_eq_true c3) ?_
    refine WC.draw [0, 1, 2, 3, 4] mixed (by kernel_rfl) ?_
    intro w13 d13
    have L29 := L28.trans d13
    refine G.run 1 rfl ?_
    have f30 := (b9_15.le (h12_8.trans d13))
    refine G.r rfl (.loadAll ag61 (by rfl) rfl f30) ?_
    refine G.run 1 rfl ?_
    have f31 := (f23.le (h12_8.trans d13))
    refine G.ef0 rfl rfl rfl rfl ?_
    refine Ef.storeAll sz61 (by rfl) rfl rfl f31 (by rfl) (by simp [Value.oneCell']) ?_
    intro w13_3_1 b13_3_1 h13_3_1
    refine noT (by kernel_rfl) ?_
    have b13_3_1 : Blk w13_3_1 g4_0 61 #[.slice An9_8 ((digs t1.2.1.n).length) cn9_8, .slice Ad9_8 ((digs t1.2.1.d).length) cd9_8] := b13_3_1
    have L32 := L29.tb h13_3_1 L1 hg4_0
    refine G.run 1 rfl (G.nil (E.blkN (E.blkN (E.thenN (WC.region ?_)))))
    refine W.a (.add rfl rfl (by omega)) ?_
    refine W.run 1 rfl (W.nil ?_)
    have f33 := ((((f0_0.le (h9_8.trans h9_13)).ch h9_15 (fun q hqq hF => by cases hqq; have := f0_0.lt hF; have := h9_8.size; have := hg9_13; omega)).le (h12_8.trans d13)).ch h13_3_1 (fun q hqq hF => by cases hqq; have := hP.lt hF; have := h0_1.size; have := hg4_0; omega))
    have f34 := ((((f0_1.le (h9_8.trans h9_13)).ch h9_15 (fun h => (show g9_13 ≠ g0_1 from by have := f0_1.lt; have := h9_8.size; omega) (Option.some.inj h))).le (h12_8.trans d13)).ch h13_3_1 (fun h => (show g4_0 ≠ g0_1 from by have := b0_1.lt; omega) (Option.some.inj h)))
    have f35 := ((((op9_8.le h9_13).ch h9_15 (fun q hq => by cases hq; exact (fun he => by have := (op9_8.row he).2; omega))).le (h12_8.trans d13)).ch h13_3_1 (fun q hq => by cases hq; exact (fun he => by have := (op9_8.row he).1; have := f0_4.lt; omega)))
    have f36 := ((((pa9_8.le h9_13).chB h9_15 b9_13 (by decide) (by decide)).le (h12_8.trans d13)).chB h13_3_1 f31 (by decide) (by decide))
    have f37 := ((f24.le (h12_8.trans d13)).ch h13_3_1 (fun q hq => by cases hq; exact (fun he => by have := (f24.row he).1; have := f0_4.lt; omega)))
    have f38 := ((f25.le (h12_8.trans d13)).ch h13_3_1 (fun q hq => by cases hq; exact (fun he => by have := (f25.row he).1; have := f0_4.lt; omega)))
    refine E.again (i + 1, t1, Ap9_8, cp9_8, rs9_8, An9_8, cn9_8, Ad9_8, cd9_8) (.cons rfl (.cons rfl (.cons rfl (.cons rfl (.cons rfl (.cons rfl (.cons rfl (.cons rfl (.cons rfl (.cons' rfl (int_eq (Eq.symm (by assumption : t1.2.2 = 0))) (.cons rfl (.cons rfl (.nil _))))))))))))) ?_ ?_
    ·exact ⟨by omega, (by rw [List.range_succ, List.foldl_append, <- hb]; show _ = splS g m fr to a x b i; unfold splS; rw [<- het1]; exact (if_pos ⟨by assumption, by first | exact .inl (hbn (by assumption)) | exact .inr (by assumption)⟩).symm), hz9_8, fun _ hh => absurd (by rw [het1, tryG_bad (.inr (.inr hh))]) (by assumption : ¬ t1.2.2 = 1), hlt1.1, L32, by have := zl0; have := h9_8.size; have := h9_13.size; have := h9_15.size; have := h12_8.size; have := d13.size; have := h13_3_1.size; omega, f33, f34, (f35.mono (by omega)), (f36.mono (by omega)), b13_3_1, (f37.mono (by omega)), (f38.mono (by omega))⟩
    first | omega | (simp only []; omega)
   refine WC.condN rfl (decide_eq_false c3) ?_
   refine WC.skip (E.blkN (E.blkN (E.thenN (WC.region ?_))))
   refine W.a (.add rfl rfl (by omega)) ?_
   refine W.run 1 rfl (W.nil ?_)
   have f39 := (((f0_0.le (h9_8.trans h9_13)).ch h9_15 (fun q hqq hF => by cases hqq; have := f0_0.lt hF; have := h9_8.size; have := hg9_13; omega)).le h12_8)
   have f40 := (((f0_1.le (h9_8.trans h9_13)).ch h9_15 (fun h => (show g9_13 ≠ g0_1 from by have := f0_1.lt; have := h9_8.size; omega) (Option.some.inj h))).le h12_8)
   have f41 := (f10.le h12_8)
   have f42 := (((f0_3.le (h9_8.trans h9_13)).chB h9_15 b9_13 (by decide) (by decide)).le h12_8)
   have f43 := (f23.le h12_8)
   have f44 := (f26.le h12_8)
   have f45 := (f27.le h12_8)
   refine E.again (i + 1, b, Ab, cb, rb, Ax, cx, Ay, cy) (.cons rfl (.cons rfl (.cons rfl (.cons rfl (.cons rfl (.cons rfl (.cons rfl (.cons rfl (.cons rfl (.cons rfl (.cons rfl (.cons rfl (.nil _))))))))))))) ?_ ?_
   ·exact ⟨by omega, (by rw [List.range_succ, List.foldl_append, <- hb]; show _ = splS g m fr to a x b i; unfold splS; rw [<- het1]; exact (if_neg (fun hh => by first | exact absurd hh.1 (by assumption) | exact hh.2.elim (fun h => absurd (by rw [hbe h]; rfl) (by assumption : ¬ Ab.isNone = true)) (fun h => absurd h (by assumption)))).symm), hbe, fun _ hh => absurd (by rw [het1, tryG_bad (.inr (.inr hh))]) (by assumption : ¬ t1.2.2 = 1), hlb, L28, by have := zl0; have := h9_8.size; have := h9_13.size; have := h9_15.size; have := h12_8.size; omega, f39, f40, f41, f42, f43, f44, f45⟩
   first | omega | (simp only []; omega)
  refine W.df q12_2 rfl rfl (W.run 3 rfl ?_)
  refine W.skipu rfl rfl rfl rfl rfl ?_
  refine W.skipu rfl rfl rfl rfl rfl ?_
  refine W.skipu rfl rfl rfl rfl rfl ?_
  refine W.skipu rfl rfl rfl rfl rfl ?_
  refine W.run 3 rfl (W.nx (WC.condF rfl (WC.skip (E.blkN (E.blkN (E.thenN (WC.region ?_)))))))
  refine W.a (.add rfl rfl (by omega)) ?_
  refine W.run 1 rfl (W.nil ?_)
  have f46 := ((f0_0.le (h9_8.trans h9_13)).ch h9_15 (fun q hqq hF => by cases hqq; have := f0_0.lt hF; have := h9_8.size; have := hg9_13; omega))
  have f47 := ((f0_1.le (h9_8.trans h9_13)).ch h9_15 (fun h => (show g9_13 ≠ g0_1 from by have := f0_1.lt; have := h9_8.size; omega) (Option.some.inj h)))
  have f48 := ((f0_3.le (h9_8.trans h9_13)).chB h9_15 b9_13 (by decide) (by decide))
  have f49 := ((f0_4.le (h9_8.trans h9_13)).ch h9_15 (fun h => (show g9_13 ≠ g4_0 from by have := f0_4.lt; have := h9_8.size; omega) (Option.some.inj h)))
  have f50 := ((f0_5.le (h9_8.trans h9_13)).ch h9_15 (fun q hq => by cases hq; exact (fun he => by have := (f0_5.row he).2; have := h9_8.size; omega)))
  have f51 := ((f0_6.le (h9_8.trans h9_13)).ch h9_15 (fun q hq => by cases hq; exact (fun he => by have := (f0_6.row he).2; have := h9_8.size; omega)))
  refine E.again (i + 1, b, Ab, cb, rb, Ax, cx, Ay, cy) (.cons rfl (.cons rfl (.cons rfl (.cons rfl (.cons rfl (.cons rfl (.cons rfl (.cons rfl (.cons rfl (.cons rfl (.cons rfl (.cons rfl (.nil _))))))))))))) ?_ ?_
  ·exact ⟨by omega, (by rw [List.range_succ, List.foldl_append, <- hb]; show _ = splS g m fr to a x b i; unfold splS; rw [<- het1]; exact (if_neg (fun hh => by first | exact absurd hh.1 (by assumption) | exact hh.2.elim (fun h => absurd (by rw [hbe h]; rfl) (by assumption : ¬ Ab.isNone = true)) (fun h => absurd h (by assumption)))).symm), hbe, fun _ hh => absurd (by rw [het1, tryG_bad (.inr (.inr hh))]) (by assumption : ¬ t1.2.2 = 1), hlb, L9, by have := zl0; have := h9_8.size; have := h9_13.size; have := h9_15.size; omega, f46, f47, f10, f48, f49, f50, f51⟩
  first | omega | (simp only []; omega)
 refine WC.condN rfl (decide_eq_false c1) ?_
 refine WC.exit (E.thenX (E.thenX (E.blkH (E.thenN (WC.seq ?_)))))
 refine WC.draw [0, 1, 2, 3, 4, 5] mixed (by kernel_rfl) ?_
 intro w15 d15
 have L52 := Ll0.trans d15
 refine G.run 1 rfl ?_
 have f53 := (f0_4.le d15)
 refine G.r rfl (.loadAll ag61 (by rfl) rfl f53) ?_
 refine G.run 2 rfl ?_
 have f54 := (f0_1.le d15)
 refine G.ef0 rfl rfl rfl rfl ?_
 refine Ef.storeAll sz61 (by rfl) rfl rfl f54 (by rfl) (by simp [Value.oneCell']) ?_
 intro w15_4 b15_4 h15_4
 refine noT (by kernel_rfl) ?_
 have b15_4 : Blk w15_4 g0_1 61 #[.slice Ax ((digs b.2.1.n).length) cx, .slice Ay ((digs b.2.1.d).length) cy] := b15_4
 have L55 := L52.tb h15_4 L0 hg0_1
 refine G.run 1 rfl (G.nil (E.thenN (WC.ret ?_)))
 have f56 := ((f0_3.le d15).chB h15_4 f54 (by decide) (by decide))
 have f57 := ((f0_2.le d15).ch h15_4 (fun q hq => by cases hq; exact (fun he => by have := (f0_2.row he).1; have := f6.lt; omega)))
 have f58 := ((f0_5.le d15).ch h15_4 (fun q hq => by cases hq; exact (fun he => by have := (f0_5.row he).1; have := f6.lt; omega)))
 have f59 := ((f0_6.le d15).ch h15_4 (fun q hq => by cases hq; exact (fun he => by have := (f0_6.row he).1; have := f6.lt; omega)))
 refine E.retG3 rfl rfl (resA rfl b15_4 ag61 (by rfl)) rfl ?_
 have hil : i = n.toNat := (by omega)
 have hsg : splitG g m fr to a x n = b := (by rw [hb, hil]; unfold splitG; rw [if_neg (fun hh => by have := hb1 (by omega); omega)])
 rw [hsg]
 exact ⟨_, _, _, _, _, _, _, rfl, (f57.mono L4.size), (f56.mono L4.size), (f58.mono L4.size), (f59.mono L4.size), hbe, L55⟩

theorem sptotal_ok {A : Option Addr} {n c bs : Nat} {rs : List PaR} {ps : List Prt} (w : World) (hV : Vec w prV 4 A n rs) (hp : PasAt w bs rs ps) (hn : n <= 1000000) (hok : TotOk ps) : Calls prog 42 #[.slice A n c] w fun r w' => r = .returned (.int .i64 (totP ps)) /\ Le w w' := by
 have hl := hV.1
 have hpl := hp.1
 refine enter func42 rfl rfl ?_
 have L0 := Le.refl w
 refine WC.sr (W.run 1 rfl (W.nx (WC.sr (W.run 1 rfl (W.nx (WC.seq (WC.sr (W.run 1 rfl ?_))))))))
 refine W.r (.len underlying31 rfl) ?_
 refine W.run 1 rfl (W.nx (WC.block ?_))
 refine WC.loop (ι := Nat) (fun k => [(3, .int .i64 (totP (ps.take k))), (6, .slice A n c), (7, .int .i64 (((n : Nat) : Int))), (8, .int .i64 (((k : Nat) : Int)))]) (fun k wl0 => (k <= n) /\ Le w wl0 /\ w.heap.size <= wl0.heap.size) (fun k => n - k) 0 ?_ ?_ ?_
 ·exact .cons rfl (.cons rfl (.cons rfl (.cons rfl (.nil _))))
 ·exact ⟨Nat.zero_le _, L0, Nat.le_refl _⟩
 rintro k wl0 ⟨hk, Ll0, zl0⟩
 refine WC.sr (W.run 1 rfl (W.nx (WC.seq ?_)))
 by_cases c0 : ((k : Nat) : Int) < ((n : Nat) : Int)
 ·refine WC.condY rfl (decide_eq_true c0) ?_
  refine WC.sn (WC.seq (WC.block (WC.sr ?_)))
  refine W.a (.idxS (k) underlying31 sz34 rfl rfl (hV.isSome prV_row (by omega)) (rfl) (by omega)) ?_
  refine W.r (.vload ag34 rfl (hV.le Ll0) prV_row (getS rs noPaR (by omega))) ?_
  refine W.ef rfl rfl rfl ?_
  refine Ef.allocA z34 ?_
  intro g4_2 w4_2 hg4_2 b4_2 h4_2
  have L1 := Ll0.trans h4_2
  have b4_2 : Blk w4_2 g4_2 34 (prV noPaR).toArray := b4_2
  refine W.ef0 rfl rfl ?_
  refine Ef.storeAll sz34 (by rfl) rfl rfl b4_2 (by simp only [List.size_toArray, prV_row.len]) (prV_row.one (rs.getD k noPaR)) ?_
  intro w4_3 b4_3 h4_3
  have b4_3 : Blk w4_3 g4_2 34 (prV (rs.getD k noPaR)).toArray := b4_3
  have L2 := L1.tb h4_3 Ll0 hg4_2
  refine W.nx (WC.sr ?_)
  have pk := (hp.le L2).2 k (by omega)
  have pka := pk.amt; have pkw := pk.way.1; have pks := pk.sent.1; have pkt := pk.till.1
  refine W.a (.field0 fa34_2 rfl) ?_
  refine W.r (.loadB (v := .slice ((rs.getD k noPaR).sA) ((rs.getD k noPaR).sN) ((rs.getD k noPaR).sC)) na23 rfl b4_3 rfl) ?_
  refine W.r (.len underlying23 rfl) ?_
  refine W.run 1 rfl (W.nx ?_)
  by_cases c1 : 0 < (((rs.getD k noPaR).sN : Nat) : Int)
  ·refine WC.condY rfl (decide_eq_true c1) ?_
   refine WC.region (W.run 1 rfl ?_)
   refine W.a (.field0 fa34_2 rfl) ?_
   refine W.r (.loadB (v := .slice ((rs.getD k noPaR).sA) ((rs.getD k noPaR).sN) ((rs.getD k noPaR).sC)) na23 rfl b4_3 rfl) ?_
   refine W.a (.idxS (0) underlying23 sz3 rfl rfl (pk.sent.vec.isSome iv_row (by omega)) (rfl) (by omega)) ?_
   refine W.r (.vone (v := .int .i64 ((((ps.getD k noPrt).sent).getD 0 0))) na3 rfl pk.sent.vec iv_row (getS ((ps.getD k noPrt).sent) 0 (by first | omega | (simp only [List.length_cons, List.length_nil]; omega))) rfl) ?_
   have tk := totP_ok hok k; have hp8 := hok.1
   have tk2 := totP_ok hok (k + 1)
   rw [totP_next (by omega)] at tk2
   refine W.a (.add rfl rfl (by omega)) ?_
   refine W.run 1 rfl (W.nil (E.blkN (E.thenN (WC.region ?_))))
   refine W.a (.add rfl rfl (by omega)) ?_
   refine W.run 1 rfl (W.nil ?_)
   refine E.again (k + 1) (.cons' rfl (int_eq (totP_next (by omega)).symm) (.cons rfl (.cons rfl (.cons rfl (.nil _))))) ?_ ?_
   ·exact ⟨by omega, L2, by have := zl0; have := h4_2.size; have := h4_3.size; omega⟩
   first | omega | (simp only []; omega)
  refine WC.condN rfl (decide_eq_false c1) ?_
  refine WC.skip (E.blkN (E.thenN (WC.region ?_)))
  refine W.a (.add rfl rfl (by omega)) ?_
  refine W.run 1 rfl (W.nil ?_)
  refine E.again (k + 1) (.cons' rfl (int_eq (totP_zero (by omega) (by omega))) (.cons rfl (.cons rfl (.cons rfl (.nil _))))) ?_ ?_
  ·exact ⟨by omega, L2, by have := zl0; have := h4_2.size; have := h4_3.size; omega⟩
  first | omega | (simp only []; omega)
 refine WC.condN rfl (decide_eq_false c0) ?_
 refine WC.exit (E.thenX (E.thenX (E.blkH (E.thenN (WC.sr (W.run 2 rfl (W.nx (WC.ret ?_))))))))
 refine E.retG1 rfl rfl ?_
 have hke : k = ps.length := (by omega)
 rw [hke, List.take_length]
 exact ⟨rfl, Ll0⟩
end Go.Proofs.YtocheaahlpiajaaGreatDoor

namespace Go.Proofs.YtocheaahlpiajaaGreatDoor
open Tryz
open Go Go.Sx Go.Hsp Go.Num Go.Osp Go.Gsp Go.Rtp
set_option maxRecDepth 20000
set_option maxHeartbeats 1000000
structure PlR where
  pA : Option Addr
  pN : Nat
  pC : Nat
  bA : Option Addr
  bN : Nat
  bC : Nat
def noPlR : PlR := ⟨none, 0, 0, none, 0, 0⟩
def plV (r : PlR) : List Value := [.slice r.pA r.pN r.pC, .slice r.bA r.bN r.bC]
theorem plV_row : RowF plV 2 := ⟨fun _ => rfl, fun x v hv => by simp [plV] at hv; rcases hv with rfl | rfl <;> rfl, by decide⟩
structure PlnAt (w : World) (bs : Nat) (r : PlR) (p : Pln) : Prop where
  pts : OVec w bs 43 pv1 1 r.pA r.pN r.pC p.pts
  bl : OVec w bs 28 pv1 1 r.bA r.bN r.bC p.bl
def PlnsAt (w : World) (bs : Nat) (rs : List PlR) (ps : List Pln) : Prop := rs.length = ps.length /\ ∀ i, i < ps.length -> PlnAt w bs (rs.getD i noPlR) (ps.getD i noPln)
section
variable {w w' : World} {bs bs' : Nat} {r : PlR} {p : Pln} {rs : List PlR} {ps : List Pln} {F : Nat -> Prop}
theorem PlnAt.le (h : PlnAt w bs r p) (k : Le w w') : PlnAt w' bs r p := ⟨h.1.le k, h.2.le k⟩
theorem PlnAt.mono (h : PlnAt w bs r p) (k : bs' <= bs) : PlnAt w bs' r p := ⟨h.1.mono k, h.2.mono k⟩
theorem PlnAt.chP (h : PlnAt w bs r p) (k : ChP w w' F) (hF : ∀ i, F i -> i < bs) : PlnAt w' bs r p :=
  ⟨h.1.chP k fun g hg hf => by have := (h.1.row hg).1; have := hF g hf; omega, h.2.chP k fun g hg hf => by have := (h.2.row hg).1; have := hF g hf; omega⟩
theorem PlnAt.chO {b e s n c : Nat} {α : Type} {f : α -> List Value} {A : Option Addr} {xs : List α} (h : PlnAt w bs r p) (k : Ch w w' (rowOf A c)) (o : OVec w b e f s A n c xs) (h1 : 43 ≠ e) (h2 : 28 ≠ e) : PlnAt w' bs r p := ⟨h.1.ch_ty k o h1, h.2.ch_ty k o h2⟩
theorem PlnAt.chB {g t : Nat} {cs : Array Value} (h : PlnAt w bs r p) (k : Ch w w' (some g)) (o : Blk w g t cs) (h1 : 43 ≠ t) (h2 : 28 ≠ t) : PlnAt w' bs r p := ⟨h.1.ch_blk k o h1, h.2.ch_blk k o h2⟩
theorem PlnsAt.nil (w : World) (bs : Nat) : PlnsAt w bs [] [] := ⟨rfl, fun i hi => absurd hi (Nat.not_lt_zero _)⟩
theorem PlnsAt.le (h : PlnsAt w bs rs ps) (k : Le w w') : PlnsAt w' bs rs ps := ⟨h.1, fun i hi => (h.2 i hi).le k⟩
theorem PlnsAt.mono (h : PlnsAt w bs rs ps) (k : bs' <= bs) : PlnsAt w bs' rs ps := ⟨h.1, fun i hi => (h.2 i hi).mono k⟩
theorem PlnsAt.chP (h : PlnsAt w bs rs ps) (k : ChP w w' F) (hF : ∀ i, F i -> i < bs) : PlnsAt w' bs rs ps := ⟨h.1, fun i hi => (h.2 i hi).chP k hF⟩
theorem PlnsAt.chO {b e s n c : Nat} {α : Type} {f : α -> List Value} {A : Option Addr} {xs : List α} (h : PlnsAt w bs rs ps) (k : Ch w w' (rowOf A c)) (o : OVec w b e f s A n c xs) (h1 : 43 ≠ e) (h2 : 28 ≠ e) : PlnsAt w' bs rs ps := ⟨h.1, fun i hi => (h.2 i hi).chO k o h1 h2⟩
theorem PlnsAt.chB {g t : Nat} {cs : Array Value} (h : PlnsAt w bs rs ps) (k : Ch w w' (some g)) (o : Blk w g t cs) (h1 : 43 ≠ t) (h2 : 28 ≠ t) : PlnsAt w' bs rs ps := ⟨h.1, fun i hi => (h.2 i hi).chB k o h1 h2⟩
theorem PlnsAt.push (h : PlnsAt w bs rs ps) (k : PlnAt w bs r p) : PlnsAt w bs (rs ++ [r]) (ps ++ [p]) := by
  refine ⟨by simp [h.1], fun i hi => ?_⟩
  simp only [List.length_append, List.length_cons, List.length_nil] at hi
  by_cases e : i < ps.length
  · rw [getD_app1 e, getD_app1 (by rw [h.1]; exact e)]
    exact h.2 i e
  · have : i = ps.length := by omega
    subst this
    rw [getD_app2, <- h.1, getD_app2]
    exact k
theorem ns_at (rs : List PaR) (i : Nat) : (rs.map (·.wN)).getD i 0 = (rs.getD i noPaR).wN := by
  rw [List.getD_eq_getElem?_getD, List.getD_eq_getElem?_getD, List.getElem?_map]
  cases rs[i]? <;> rfl
theorem PlnsAt.cast {ps' : List Pln} (h : PlnsAt w bs rs ps) (e : ps = ps') : PlnsAt w bs rs ps' := e ▸ h
end
theorem pdrawn8_ok (name : ByteArray) (hnm : byteCells name = nPart.map u8v) {A : Option Addr} {c : Nat} {xs : List Byte} (i : Nat) (w : World) (hS : Sb w A 8 xs) : Calls prog 74 #[.string name, .slice A 8 c, .int .i64 (i : Int)] w fun e w' => e = .returned (.int .u64 ((fromB (tag nPart [xs, [BitVec.ofNat 8 i]]) : Nat) : Int)) /\ Le w w' := by
 refine enter func74 rfl rfl ?_
 have L0 := Le.refl w
 refine WC.sr (W.run 1 rfl (W.nx (WC.sr (W.run 3 rfl ?_))))
 refine W.r (.toU8 i (isS underlying3) underlying5 rfl rfl) ?_
 refine W.ef rfl rfl rfl ?_
 refine Ef.buildSlice1 underlying26 el5 rfl rfl ?_
 intro g1_4 w1_4 hg1_4 b1_4 h1_4
 have L1_4 := L0.trans h1_4
 refine W.ef rfl rfl rfl ?_
 refine Ef.buildSliceN [_, _] underlying157 el26 rfl one2s rfl (by decide) (by decide) ?_
 intro g1_5 w1_5 hg1_5 b1_5 h1_5
 have L1_5 := L1_4.trans h1_5
 refine W.cl go21 rfl rfl (tag_ok _ nPart w1_5 (ps := [xs, [BitVec.ofNat 8 i]]) hnm (b1_5.sl (s := 1) (n := 2) rfl) (.cons (hS.le L1_5) (.cons (Blk.sb (xs := [BitVec.ofNat 8 i]) (b1_4.le h1_5) rfl) (.nil _))) (by rw [tagLen2, hS.len]; show 24 + 4 + 8 + 1 <= _; decide)) ?_
 rintro _ w1_6 ⟨rfl, h1_6⟩
 have L1_6 := L1_5.trans h1_6
 refine W.cl go169 rfl rfl (from_ok _ (tag_length _ _) w1_6) ?_
 rintro _ w1_7 ⟨rfl, h1_7⟩
 have L1_7 := L1_6.trans h1_7
 refine W.run 1 rfl (W.nx (WC.ret ?_))
 refine E.ret1 rfl rfl ?_
 exact ⟨rfl, L1_7⟩

theorem pnewF_ok (p : Nat) (hp : p < 18446744073709551616) (seed : List Byte) (n : Nat) (h : ¬ (right p = true /\ p ≠ 1 /\ 1 <= n /\ n <= 8)) (w : World) : Calls prog 19 #[.int .u64 (((p : Nat) : Int)), .agg (seed.map u8v).toArray, .int .i64 (((n : Nat) : Int))] w fun r w' => r = .returned (.tuple #[.agg #[.slice none 0 0, .slice none 0 0], .bool false]) /\ Le w w' := by
 refine enter func19 rfl rfl ?_
 have L0 := Le.refl w
 refine WC.sr (W.ef rfl rfl rfl ?_)
 refine Ef.boxA rfl ?_
 intro g0_0 w0_0 hg0_0 b0_0 h0_0
 have L1 := L0.trans h0_0
 refine W.ef rfl rfl rfl ?_
 refine Ef.allocA z41 ?_
 intro g0_1 w0_1 hg0_1 b0_1 h0_1
 have L2 := L1.trans h0_1
 have b0_1 : Blk w0_1 g0_1 41 (plV noPlR).toArray := b0_1
 refine W.run 1 rfl (W.nx (WC.seq (WC.sr (W.run 1 rfl ?_))))
 refine W.cl go75 rfl rfl (pright_ok p (by omega) w0_1) ?_
 rintro _ w1_1 ⟨rfl, h1_1⟩
 have L3 := L2.trans h1_1
 refine W.run 1 rfl ?_
 by_cases q1_3 : (right p) = true
 ·refine W.a (.dec (.move rfl) (congrArg not (q1_3))) ?_
  refine W.run 3 rfl ?_
  by_cases q1_7 : ((p : Nat) : Int) = 1
  ·refine W.dt q1_7 rfl rfl (W.run 7 rfl (W.nx (WC.condT rfl (WC.sr ?_))))
   refine W.a (.buildP (plV noPlR) pl41 z41 rfl rfl) ?_
   have f4 := (b0_1.le h1_1)
   refine W.ef0 rfl rfl ?_
   refine Ef.storeAll sz41 (by rfl) rfl rfl f4 (by simp only [List.size_toArray, plV_row.len]) (plV_row.one noPlR) ?_
   intro w2_1 b2_1 h2_1
   have b2_1 : Blk w2_1 g0_1 41 (plV noPlR).toArray := b2_1
   have L5 := L3.tb h2_1 L1 hg0_1
   refine W.run 1 rfl (W.nx (WC.ret (E.thenR ?_)))
   refine E.retG2 rfl (resA rfl b2_1 ag41 (by rfl)) rfl ?_
   exact ⟨rfl, L5⟩
  refine W.df q1_7 rfl rfl (W.run 3 rfl ?_)
  by_cases q1_11 : ((n : Nat) : Int) < 1
  ·refine W.dt q1_11 rfl rfl (W.run 3 rfl (W.nx (WC.condT rfl (WC.sr ?_))))
   refine W.a (.buildP (plV noPlR) pl41 z41 rfl rfl) ?_
   have f6 := (b0_1.le h1_1)
   refine W.ef0 rfl rfl ?_
   refine Ef.storeAll sz41 (by rfl) rfl rfl f6 (by simp only [List.size_toArray, plV_row.len]) (plV_row.one noPlR) ?_
   intro w2_1_1 b2_1_1 h2_1_1
   have b2_1_1 : Blk w2_1_1 g0_1 41 (plV noPlR).toArray := b2_1_1
   have L7 := L3.tb h2_1_1 L1 hg0_1
   refine W.run 1 rfl (W.nx (WC.ret (E.thenR ?_)))
   refine E.retG2 rfl (resA rfl b2_1_1 ag41 (by rfl)) rfl ?_
   exact ⟨rfl, L7⟩
  refine W.df q1_11 rfl rfl (W.run 3 rfl (W.nx ?_))
  by_cases c0 : 8 < ((n : Nat) : Int)
  ·refine WC.condY rfl (decide_eq_true c0) ?_
   refine WC.sr ?_
   refine W.a (.buildP (plV noPlR) pl41 z41 rfl rfl) ?_
   have f8 := (b0_1.le h1_1)
   refine W.ef0 rfl rfl ?_
   refine Ef.storeAll sz41 (by rfl) rfl rfl f8 (by simp only [List.size_toArray, plV_row.len]) (plV_row.one noPlR) ?_
   intro w2_1_2 b2_1_2 h2_1_2
   have b2_1_2 : Blk w2_1_2 g0_1 41 (plV noPlR).toArray := b2_1_2
   have L9 := L3.tb h2_1_2 L1 hg0_1
   refine W.run 1 rfl (W.nx (WC.ret (E.thenR ?_)))
   refine E.retG2 rfl (resA rfl b2_1_2 ag41 (by rfl)) rfl ?_
   exact ⟨rfl, L9⟩
  refine WC.condN rfl (decide_eq_false c0) ?_
  exact absurd ⟨by assumption, by omega, by omega, by omega⟩ h
 refine W.a (.dec (.move rfl) (congrArg not ((Bool.eq_false_iff.2 q1_3)))) ?_
 refine W.run 11 rfl (W.nx (WC.condT rfl (WC.sr ?_)))
 refine W.a (.buildP (plV noPlR) pl41 z41 rfl rfl) ?_
 have f10 := (b0_1.le h1_1)
 refine W.ef0 rfl rfl ?_
 refine Ef.storeAll sz41 (by rfl) rfl rfl f10 (by simp only [List.size_toArray, plV_row.len]) (plV_row.one noPlR) ?_
 intro w2_1_3 b2_1_3 h2_1_3
 have b2_1_3 : Blk w2_1_3 g0_1 41 (plV noPlR).toArray := b2_1_3
 have L11 := L3.tb h2_1_3 L1 hg0_1
 refine W.run 1 rfl (W.nx (WC.ret (E.thenR ?_)))
 refine E.retG2 rfl (resA rfl b2_1_3 ag41 (by rfl)) rfl ?_
 exact ⟨rfl, L11⟩

theorem parts_ok (s : Nat) (n : Int) (w : World) : Calls prog 15 #[.int .u64 (((s : Nat) : Int)), .int .i64 (n)] w fun r w' => ∃ A c, r = .returned (.slice A (partsL s n).length c) /\ OVec w' w.heap.size 28 pv1 1 A (partsL s n).length c (partsL s n) /\ Le w w' := by
 refine enter func15 rfl rfl ?_
 have L0 := Le.refl w
 refine WC.sr (W.run 1 rfl (W.nx (WC.seq (WC.sr (W.run 2 rfl ?_)))))
 by_cases q1_2 : n < 1
 ·refine W.dt q1_2 rfl rfl (W.run 3 rfl (W.nx (WC.condT rfl (WC.sr (W.run 1 rfl (W.nx (WC.ret (E.thenR ?_))))))))
  refine E.retG1 rfl rfl ?_
  rw [partsL_none (by omega)]
  exact ⟨none, 0, rfl, OVec.nil _ _ _ _ _ _, L0⟩
 refine W.df q1_2 rfl rfl (W.run 3 rfl (W.nx ?_))
 by_cases c0 : 8 < n
 ·refine WC.condY rfl (decide_eq_true c0) ?_
  refine WC.sr (W.run 1 rfl (W.nx (WC.ret (E.thenR ?_))))
  refine E.retG1 rfl rfl ?_
  rw [partsL_none (by omega)]
  exact ⟨none, 0, rfl, OVec.nil _ _ _ _ _ _, L0⟩
 refine WC.condN rfl (decide_eq_false c0) ?_
 refine WC.sn (WC.sr (W.ef rfl rfl rfl ?_))
 refine Ef.allocA z151 ?_
 intro g3_0 w3_0 hg3_0 b3_0 h3_0
 have L1 := L0.trans h3_0
 have b3_0 : Blk w3_0 g3_0 151 ((List.replicate 8 0#8).map u8v).toArray := b3_0.cast (rfl)
 refine W.nx (WC.seq (WC.sr (W.run 1 rfl (W.ef rfl rfl rfl ?_))))
 refine Ef.buildSliceV (len := 1) [_] underlying35 el28 rfl (by simp [Value.cells]) rfl (by decide) (by decide) ?_
 intro g4_1 w4_1 hg4_1 b4_1 h4_1
 have L2 := L1.trans h4_1
 have b4_1 : Blk w4_1 g4_1 28 (([s]).map pv1).flatten.toArray := b4_1
 have o4_1 : OVec w4_1 w3_0.heap.size 28 pv1 1 (some ⟨g4_1, 0, none⟩) 1 1 ([s]) := b4_1.ovec hg4_1 pv1_row rfl rfl (by decide)
 refine W.cl go73 rfl rfl (psum_ok w4_1 (Vec.sl (g1 := pv) o4_1.vec) (by omega)) ?_
 rintro _ w4_2 ⟨rfl, h4_2⟩
 have L3 := L2.trans h4_2
 refine W.run 2 rfl (W.nx (WC.block ?_))
 have f4 := (b3_0.le (h4_1.trans h4_2))
 refine WC.loop (ι := Nat × (List Byte)) (fun ⟨k, bs⟩ => [(0, .int .u64 (((s : Nat) : Int))), (1, .int .i64 (n)), (5, .pointer (some ⟨g3_0, 0, none⟩)), (6, .int .i64 (((k : Nat) : Int))), (7, .int .u64 (((sumS ([s]) : Nat) : Int)))]) (fun ⟨k, bs⟩ wl0 => (k <= 8) /\ (bs = be8To (sumS [s]) k ++ List.replicate (8 - k) 0#8) /\ Le w wl0 /\ w4_2.heap.size <= wl0.heap.size /\ Blk wl0 g3_0 151 (bs.map u8v).toArray) (fun ⟨k, bs⟩ => 8 - k) (0, (List.replicate 8 0#8)) ?_ ?_ ?_
 ·exact .cons rfl (.cons rfl (.cons rfl (.cons rfl (.cons rfl (.nil _)))))
 ·exact ⟨by omega, rfl, L3, Nat.le_refl _, f4⟩
 rintro ⟨k, bs⟩ wl0 ⟨hk, hbs, Ll0, zl0, f0_0⟩
 have hbl : (be8To (sumS [s]) k).length = k := by simp [be8To, be8_length]; omega
 have hb8 : bs.length = 8 := by rw [hbs, List.length_append, hbl, List.length_replicate]; omega
 refine WC.seq (WC.sr (W.run 2 rfl (W.nx ?_)))
 by_cases c1 : ((k : Nat) : Int) < 8
 ·refine WC.condY rfl (decide_eq_true c1) ?_
  refine WC.sn (WC.seq (WC.block (WC.region (W.run 3 rfl ?_))))
  refine W.a (.mul rfl rfl (by omega)) ?_
  refine W.a (.sub rfl rfl (by omega)) ?_
  refine W.a (.shrN (sumS [s]) (56 - 8 * k) rfl rfl rfl (by omega) (by show 56 - 8 * k <= 64; omega)) ?_
  refine W.r (.toU8 ((sumS [s]) >>> (56 - 8 * k)) (isS underlying27) underlying5 rfl rfl) ?_
  refine W.a (.idxA1 (k) underlying151 sz5 rfl rfl (rfl) (by omega)) ?_
  refine W.ef0 rfl rfl ?_
  refine Ef.store sz5 rfl rfl f0_0 (by simp only [List.size_toArray, List.length_map, List.length_set]; omega) rfl ?_
  intro w7_8 b7_8 h7_8
  have b7_8 : Blk w7_8 g3_0 151 ((bs.set k (BitVec.ofNat 8 ((sumS [s]) >>> (56 - 8 * k)))).map u8v).toArray := bset b7_8
  have L5 := Ll0.tb h7_8 L0 hg3_0
  refine W.nil (E.blkN (E.thenN (WC.region (W.run 1 rfl ?_))))
  refine W.a (.add rfl rfl (by omega)) ?_
  refine W.run 1 rfl (W.nil ?_)
  refine E.again (k + 1, (bs.set k (BitVec.ofNat 8 ((sumS [s]) >>> (56 - 8 * k))))) (.cons rfl (.cons rfl (.cons rfl (.cons rfl (.cons rfl (.nil _)))))) ?_ ?_
  ·exact ⟨by omega, (by rw [hbs, set_fill _ _ _ 8 k hbl (by omega), be8To_succ _ _ (by omega)]), L5, by have := zl0; have := h7_8.size; omega, b7_8⟩
  first | omega | (simp only []; omega)
 refine WC.condN rfl (decide_eq_false c1) ?_
 refine WC.exit (E.thenX (E.thenX (E.blkH (E.thenN (WC.sr ?_)))))
 have h8k : k = 8 := by omega
 have hfl : bs = be8 (addS 0 s) := by subst h8k; rw [hbs]; simp [be8To, be8_length]; rfl
 have bq8 : Blk wl0 g3_0 151 ((be8 (addS 0 s)).map u8v).toArray := by rw [<- hfl]; exact f0_0
 refine W.run 1 rfl (W.ef rfl rfl rfl ?_)
 refine Ef.vmake0 ((n).toNat) pv1 underlying35 el28 rfl rfl rfl (by omega) (by omega) (by unfold maxLen; omega) ?_
 intro g8_1 w8_1 hg8_1 o8_1 h8_1
 have L6 := Ll0.trans h8_1
 refine W.run 1 rfl (W.nx (WC.seq (WC.sr (W.run 1 rfl ?_))))
 refine W.a (.sub rfl rfl (by omega)) ?_
 refine W.run 1 rfl (W.nx (WC.block ?_))
 have f7 := (bq8.le h8_1)
 refine WC.loop (ι := Nat × ((Option Addr)) × Nat) (fun ⟨k2, Ao, co⟩ => [(0, .int .u64 (((s : Nat) : Int))), (5, .pointer (some ⟨g3_0, 0, none⟩)), (8, .slice Ao k2 co), (34, .int .i64 ((n - 1))), (35, .int .i64 (((k2 : Nat) : Int)))]) (fun ⟨k2, Ao, co⟩ wl1 => (k2 <= n.toNat - 1) /\ Le w wl1 /\ w8_1.heap.size <= wl1.heap.size /\ Blk wl1 g3_0 151 ((be8 (addS 0 s)).map u8v).toArray /\ OVec wl1 wl0.heap.size 28 pv1 1 Ao k2 co (partK s k2)) (fun ⟨k2, Ao, co⟩ => n.toNat - 1 - k2) (0, (some ⟨g8_1, 0, none⟩), ((n).toNat)) ?_ ?_ ?_
 ·exact .cons rfl (.cons rfl (.cons rfl (.cons rfl (.cons rfl (.nil _)))))
 ·exact ⟨Nat.zero_le _, L6, Nat.le_refl _, f7, o8_1⟩
 rintro ⟨k2, Ao, co⟩ wl1 ⟨hk2, Ll1, zl1, f1_0, f1_1⟩
 have lb1_3 : wl0.heap.size <= wl1.heap.size := by have := h8_1.size; omega
 refine WC.sr (W.run 1 rfl (W.nx (WC.seq ?_)))
 by_cases c2 : ((k2 : Nat) : Int) < (n - 1)
 ·refine WC.condY rfl (decide_eq_true c2) ?_
  refine WC.sn (WC.seq (WC.block (WC.sr (W.run 2 rfl (W.nx (WC.region (W.run 1 rfl ?_)))))))
  refine W.a (.cutArr underlying151 sz5 rfl) ?_
  refine W.run 1 rfl ?_
  refine W.cl go74 rfl rfl (pdrawn8_ok _ rfl k2 wl1 (f1_0.sb (be8_length _))) ?_
  rintro _ w12_3 ⟨rfl, h12_3⟩
  have L8 := Ll1.trans h12_3
  refine W.ef rfl rfl rfl ?_
  refine Ef.buildSliceV (len := 1) [_] underlying35 el28 rfl (by simp [Value.cells]) rfl (by decide) (by decide) ?_
  intro g12_4 w12_4 hg12_4 b12_4 h12_4
  have L9 := L8.trans h12_4
  have b12_4 : Blk w12_4 g12_4 28 (([partD (addS 0 s) k2]).map pv1).flatten.toArray := b12_4
  have o12_4 : OVec w12_4 w12_3.heap.size 28 pv1 1 (some ⟨g12_4, 0, none⟩) 1 1 ([partD (addS 0 s) k2]) := b12_4.ovec hg12_4 pv1_row rfl rfl (by decide)
  have f10 := (f1_1.le (h12_3.trans h12_4))
  refine W.ef rfl rfl rfl ?_
  refine Ef.vpush (a := (partD (addS 0 s) k2)) underlying35 el28 underlying35 pv1_row rfl f10 rfl b12_4 (by omega) (by unfold maxLen; omega) (by have := lb1_3; have := h12_3.size; have := h12_4.size; omega) ?_
  intro A12_5 c12_5 w12_5 o12_5 h12_5 at12_5
  have L11 := L9.then_ h12_5 (fun q hq => Nat.le_trans Ll0.size (f10.row hq).1)
  refine W.run 1 rfl (W.nil (E.blkN (E.thenN (WC.region ?_))))
  refine W.a (.add rfl rfl (by omega)) ?_
  refine W.run 1 rfl (W.nil ?_)
  have f12 := ((f1_0.le (h12_3.trans h12_4)).ch h12_5 (fun he => by have := (f10.row he).1; have := f0_0.lt; omega))
  refine E.again (k2 + 1, A12_5, c12_5) (.cons rfl (.cons rfl (.cons rfl (.cons rfl (.cons rfl (.nil _)))))) ?_ ?_
  ·exact ⟨by omega, L11, by have := zl1; have := h12_3.size; have := h12_4.size; have := h12_5.size; omega, f12, (o12_5.cast rfl (partK_succ _ _).symm)⟩
  first | omega | (simp only []; omega)
 refine WC.condN rfl (decide_eq_false c2) ?_
 refine WC.exit (E.thenX (E.thenX (E.blkH (E.thenN (WC.sr (W.run 3 rfl ?_))))))
 refine W.cl go73 rfl rfl (psum_ok wl1 (Vec.sl (g1 := pv) f1_1.vec) (by omega)) ?_
 rintro _ w14_3 ⟨rfl, h14_3⟩
 have L13 := Ll1.trans h14_3
 refine W.cl go60 rfl rfl (fsub_ok s (sumS (partK s k2)) w14_3) ?_
 rintro _ w14_4 ⟨rfl, h14_4⟩
 have L14 := L13.trans h14_4
 refine W.ef rfl rfl rfl ?_
 refine Ef.buildSliceV (len := 1) [_] underlying35 el28 rfl (by simp [Value.cells]) rfl (by decide) (by decide) ?_
 intro g14_5 w14_5 hg14_5 b14_5 h14_5
 have L15 := L14.trans h14_5
 have b14_5 : Blk w14_5 g14_5 28 (([addS s (negS (sumS (partK s k2)))]).map pv1).flatten.toArray := b14_5
 have o14_5 : OVec w14_5 w14_4.heap.size 28 pv1 1 (some ⟨g14_5, 0, none⟩) 1 1 ([addS s (negS (sumS (partK s k2)))]) := b14_5.ovec hg14_5 pv1_row rfl rfl (by decide)
 have f16 := (f1_1.le (h14_3.trans (h14_4.trans h14_5)))
 refine W.ef rfl rfl rfl ?_
 refine Ef.vpush (a := (addS s (negS (sumS (partK s k2))))) underlying35 el28 underlying35 pv1_row rfl f16 rfl b14_5 (by omega) (by unfold maxLen; omega) (by have := lb1_3; have := h14_3.size; have := h14_4.size; have := h14_5.size; omega) ?_
 intro A14_6 c14_6 w14_6 o14_6 h14_6 at14_6
 have L17 := L15.then_ h14_6 (fun q hq => Nat.le_trans Ll0.size (f16.row hq).1)
 refine W.run 1 rfl (W.nx (WC.ret ?_))
 refine E.retG1 rfl rfl ?_
 have hkn : k2 = n.toNat - 1 := (by omega)
 have hpl := partsL_len (s := s) (n := n) (by omega) (by omega)
 have hpe : partsL s n = partK s k2 ++ [addS s (negS (sumS (partK s k2)))] := (by rw [hkn]; exact if_neg (by omega))
 rw [hpe, List.length_append, partK_len]
 exact ⟨_, _, rfl, (o14_6.mono Ll0.size), L17⟩

theorem plans_ok (s : Nat) {seed : List Byte} (hse : seed.length = 32) {A : Option Addr} {n c : Nat} {rs : List PaR} (w : World) (hV : Vec w prV 4 A n rs) (hn : n <= 1000000) : Calls prog 16 #[.slice A n c, .int .u64 (((s : Nat) : Int)), .agg (seed.map u8v).toArray] w fun r w' => ∃ A' c' qs, r = .returned (.slice A' (plansL s seed (rs.map (·.wN))).length c') /\ OVec w' w.heap.size 41 plV 2 A' (plansL s seed (rs.map (·.wN))).length c' qs /\ PlnsAt w' w.heap.size qs (plansL s seed (rs.map (·.wN))) /\ Le w w' := by
 have hl := hV.1
 have hnl : (rs.map (·.wN)).length = n := by rw [List.length_map]; exact hl
 refine enter func16 rfl rfl ?_
 have L0 := Le.refl w
 refine WC.sr (W.ef rfl rfl rfl ?_)
 refine Ef.boxA rfl ?_
 intro g0_0 w0_0 hg0_0 b0_0 h0_0
 have L1 := L0.trans h0_0
 have b0_0 : Blk w0_0 g0_0 30 (seed.map u8v).toArray := b0_0
 refine W.run 1 rfl (W.nx (WC.sr (W.run 1 rfl (W.nx (WC.seq (WC.sr (W.run 2 rfl ?_)))))))
 refine W.r (.len underlying31 rfl) ?_
 obtain ⟨ts, hets⟩ : ∃ z, z = (partsL s ((n : Nat) : Int)) := ⟨_, rfl⟩
 refine W.cl go15 rfl rfl ((by have k := parts_ok s ((n : Nat) : Int) w0_0; rw [<- hets] at k; exact k)) ?_
 rintro _ w2_3 ⟨At2_3, ct2_3, rfl, ot2_3, h2_3⟩
 have L2 := L1.trans h2_3
 have hlt2_3 := partsL_le s ((n : Nat) : Int); have hql2_3 := partsL_lt s ((n : Nat) : Int)
 have htn : ts.length <= n := by rw [hets]; exact partsL_len_le s n
 have hpa : ∀ i, planAt s seed (rs.map (·.wN)) i = planT (ts.getD i 0) (seedD seed i) (rs.getD i noPaR).wN := fun i => by unfold planAt; rw [hnl, <- hets, ns_at]
 have hmay : PlansMay s (rs.map (·.wN)) ↔ ∀ i, i < ts.length -> PlnMay (ts.getD i 0) (rs.getD i noPaR).wN := by unfold PlansMay; simp only [hnl, <- hets, ns_at]
 refine W.r (.len underlying35 rfl) ?_
 refine W.run 1 rfl (W.nx (WC.block ?_))
 have f3 := (b0_0.le h2_3)
 refine WC.loop (ι := Nat × ((Option Addr)) × Nat × ((List PlR))) (fun ⟨i, Ao, co, qo⟩ => [(0, .slice A n c), (5, .pointer (some ⟨g0_0, 0, none⟩)), (7, .slice Ao i co), (15, .slice At2_3 ts.length ct2_3), (16, .int .i64 (((ts.length : Nat) : Int))), (17, .int .i64 (((i : Nat) : Int)))]) (fun ⟨i, Ao, co, qo⟩ wl0 => (i <= ts.length) /\ (∀ j, j < i -> PlnMay (ts.getD j 0) (rs.getD j noPaR).wN) /\ Le w wl0 /\ w2_3.heap.size <= wl0.heap.size /\ Blk wl0 g0_0 30 (seed.map u8v).toArray /\ OVec wl0 w2_3.heap.size 41 plV 2 Ao i co qo /\ PlnsAt wl0 w2_3.heap.size qo (planK s seed (rs.map (·.wN)) i) /\ OVec wl0 w0_0.heap.size 28 pv1 1 At2_3 ts.length ct2_3 ts) (fun ⟨i, Ao, co, qo⟩ => ts.length - i) (0, none, 0, ([])) ?_ ?_ ?_
 ·exact .cons rfl (.cons rfl (.cons rfl (.cons rfl (.cons rfl (.cons rfl (.nil _))))))
 ·exact ⟨Nat.zero_le _, fun j hj => absurd hj (Nat.not_lt_zero _), L2, Nat.le_refl _, f3, (OVec.nil w2_3 w2_3.heap.size 41 plV 2 none), (PlnsAt.nil w2_3 w2_3.heap.size), ot2_3⟩
 rintro ⟨i, Ao, co, qo⟩ wl0 ⟨hi, hall, Ll0, zl0, f0_0, f0_1, f0_2, f0_3⟩
 have lb0_4 : w2_3.heap.size <= wl0.heap.size := by omega
 have lb0_5 : w2_3.heap.size <= wl0.heap.size := by omega
 have lb0_3 : w0_0.heap.size <= wl0.heap.size := by have := h2_3.size; omega
 refine WC.sr (W.run 1 rfl (W.nx (WC.seq ?_)))
 by_cases c0 : ((i : Nat) : Int) < ((ts.length : Nat) : Int)
 ·refine WC.condY rfl (decide_eq_true c0) ?_
  refine WC.sn (WC.seq (WC.block (WC.sr (W.run 1 rfl ?_))))
  refine W.a (.idxS (i) underlying35 sz28 rfl rfl (ot2_3.vec.isSome pv1_row (by omega)) (rfl) (by omega)) ?_
  refine W.r (.vone (v := .int .u64 ((((ts.getD i 0) : Nat) : Int))) na28 rfl f0_3.vec pv1_row (getS ts 0 (by omega)) rfl) ?_
  refine W.run 1 rfl ?_
  by_cases qc4_4 : PlnMay (ts.getD i 0) (rs.getD i noPaR).wN
  ·refine W.run 1 rfl (W.nx (WC.seq ?_))
   refine WC.drawM [0, 2, 3, 4, 8, 9, 10, 11, 12, 13] [1, 5, 6, 7, 14, 15, 16, 17, 18] [19, 20] (fun i => bif Nat.beq i 6 then [5] else bif Nat.beq i 7 then [6] else bif Nat.beq i 14 then [1, 7] else bif Nat.beq i 15 then [14] else bif Nat.beq i 16 then [15] else bif Nat.beq i 17 then [15] else []) mixed (by kernel_rfl) ?_
   intro w5 d5
   have L4 := Ll0.trans d5
   refine G.run 1 rfl ?_
   refine G.a rfl (.cutArr underlying30 sz5 rfl) ?_
   refine G.run 1 rfl ?_
   refine G.r rfl (.toU8 i (isS underlying3) underlying5 rfl rfl) ?_
   refine G.run 2 rfl ?_
   refine G.a rfl (.idxS (i) underlying31 sz34 rfl rfl (hV.isSome prV_row (by omega)) (rfl) (by omega)) ?_
   refine G.a rfl (.vfield fa34_1 (hV.isSome prV_row (by omega)) rfl) ?_
   refine G.r rfl (.vcell (j := i) (o := 1) (v := .slice ((rs.getD i noPaR).wA) ((rs.getD i noPaR).wN) ((rs.getD i noPaR).wC)) na32 rfl (hV.le L4) prV_row (getS rs noPaR (by omega)) rfl) ?_
   refine G.r rfl (.len underlying32 rfl) ?_
   refine G.nil ?_
   refine E.free3 ⟨by rfl, fun iU => (bif Nat.beq iU 1 then (fun v w' => v = .int .u64 (((base (ts.getD i 0) : Nat) : Int))) else (bif Nat.beq iU 5 then (fun v w' => ∃ g5_5, v = .slice (some ⟨g5_5, 0, none⟩) 1 1 /\ OVec w' w5.heap.size 5 byteV 1 (some ⟨g5_5, 0, none⟩) 1 1 ([BitVec.ofNat 8 i])) else (bif Nat.beq iU 6 then (fun v w' => ∃ g5_5 g5_6, v = .slice (some ⟨g5_6, 0, none⟩) 2 2 /\ OVec w' w5.heap.size 5 byteV 1 (some ⟨g5_5, 0, none⟩) 1 1 ([BitVec.ofNat 8 i]) /\ Blk w' g5_6 26 #[.slice (some ⟨g0_0, 0, none⟩) 32 32, .slice (some ⟨g5_5, 0, none⟩) 1 1]) else (bif Nat.beq iU 7 then (fun v w' => v = .agg ((tag nSplit [seed, [BitVec.ofNat 8 i]]).map u8v).toArray) else (bif Nat.beq iU 14 then (fun v w' => ∃ gp5_14 Ab5_14 cb5_14, v = .tuple #[.agg (plV (⟨some ⟨gp5_14, 0, none⟩, (rs.getD i noPaR).wN, (rs.getD i noPaR).wN, Ab5_14, (rs.getD i noPaR).wN - 1, cb5_14⟩ : PlR)).toArray, .bool true] /\ PlnAt w' w5.heap.size (⟨some ⟨gp5_14, 0, none⟩, (rs.getD i noPaR).wN, (rs.getD i noPaR).wN, Ab5_14, (rs.getD i noPaR).wN - 1, cb5_14⟩ : PlR) (planT (ts.getD i 0) (tag nSplit [seed, [BitVec.ofNat 8 i]]) (rs.getD i noPaR).wN)) else (bif Nat.beq iU 15 then (fun v w' => ∃ gp5_14 Ab5_14 cb5_14, v = .tuple #[.agg (plV (⟨some ⟨gp5_14, 0, none⟩, (rs.getD i noPaR).wN, (rs.getD i noPaR).wN, Ab5_14, (rs.getD i noPaR).wN - 1, cb5_14⟩ : PlR)).toArray, .bool true] /\ PlnAt w' w5.heap.size (⟨some ⟨gp5_14, 0, none⟩, (rs.getD i noPaR).wN, (rs.getD i noPaR).wN, Ab5_14, (rs.getD i noPaR).wN - 1, cb5_14⟩ : PlR) (planT (ts.getD i 0) (tag nSplit [seed, [BitVec.ofNat 8 i]]) (rs.getD i noPaR).wN)) else (bif Nat.beq iU 16 then (fun v w' => ∃ gp5_14 Ab5_14 cb5_14, v = .agg (plV (⟨some ⟨gp5_14, 0, none⟩, (rs.getD i noPaR).wN, (rs.getD i noPaR).wN, Ab5_14, (rs.getD i noPaR).wN - 1, cb5_14⟩ : PlR)).toArray /\ PlnAt w' w5.heap.size (⟨some ⟨gp5_14, 0, none⟩, (rs.getD i noPaR).wN, (rs.getD i noPaR).wN, Ab5_14, (rs.getD i noPaR).wN - 1, cb5_14⟩ : PlR) (planT (ts.getD i 0) (tag nSplit [seed, [BitVec.ofNat 8 i]]) (rs.getD i noPaR).wN)) else (bif Nat.beq iU 17 then (fun v w' => v = .bool true) else (bif Nat.beq iU 18 then (fun v w' => ∃ g5_18, v = .pointer (some ⟨g5_18, 0, none⟩) /\ Blk w' g5_18 41 (plV noPlR).toArray) else (fun _ _ => True)))))))))), ?_, ?_, ?_⟩
   ·intro iU hi v w1 w2 hv hle
    simp only [List.mem_cons, List.not_mem_nil, or_false] at hi
    rcases hi with rfl | rfl | rfl | rfl | rfl | rfl | rfl | rfl | rfl
    ·exact hv
    ·obtain ⟨g5_5, hvv, k5_5_0⟩ := hv; exact ⟨g5_5, hvv, k5_5_0.le hle⟩
    ·obtain ⟨g5_5, g5_6, hvv, k5_5_0, k5_6_0⟩ := hv; exact ⟨g5_5, g5_6, hvv, k5_5_0.le hle, k5_6_0.le hle⟩
    ·exact hv
    ·obtain ⟨gp5_14, Ab5_14, cb5_14, hvv, k5_14_0⟩ := hv; exact ⟨gp5_14, Ab5_14, cb5_14, hvv, k5_14_0.le hle⟩
    ·obtain ⟨gp5_14, Ab5_14, cb5_14, hvv, k5_14_0⟩ := hv; exact ⟨gp5_14, Ab5_14, cb5_14, hvv, k5_14_0.le hle⟩
    ·obtain ⟨gp5_14, Ab5_14, cb5_14, hvv, k5_14_0⟩ := hv; exact ⟨gp5_14, Ab5_14, cb5_14, hvv, k5_14_0.le hle⟩
    ·exact hv
    obtain ⟨g5_18, hvv, k5_18_0⟩ := hv; exact ⟨g5_18, hvv, k5_18_0.le hle⟩
   ·intro iU hi
    simp only [List.mem_cons, List.not_mem_nil, or_false] at hi
    rcases hi with rfl | rfl | rfl | rfl | rfl | rfl | rfl | rfl | rfl
    ·refine .inl ⟨rfl, Step.of0 rfl rfl ?_⟩
     intro w1 hle
     refine Ef.call go20 rfl rfl (base_ok (ts.getD i 0) w1) ?_
     rintro _ w2 ⟨rfl, h2⟩
     refine ⟨_, rfl, ?_⟩
     exact ⟨h2, rfl, fun k hk => hk.elim⟩
    ·refine .inl ⟨rfl, Step.of0 rfl rfl ?_⟩
     intro w1 hle
     refine Ef.buildSliceV (len := 1) [_] underlying26 el5 rfl (by simp [Value.cells, u8v]) rfl (by decide) (by decide) ?_
     intro g5_5 w2 hg b5_5 h2
     have b5_5 : Blk w2 g5_5 5 (([BitVec.ofNat 8 i]).map byteV).flatten.toArray := b5_5
     have o5_5 : OVec w2 w1.heap.size 5 byteV 1 (some ⟨g5_5, 0, none⟩) 1 1 ([BitVec.ofNat 8 i]) := b5_5.ovec hg byteV_row rfl rfl (by decide)
     exact ⟨h2, ⟨_, rfl, (o5_5.mono hle.size)⟩, fun k hk => o5_5.row hk⟩
    ·refine .inl ⟨rfl, Step.of1 (j := 5) rfl rfl rfl ?_⟩
     intro v5 w1 hle hv5
     obtain ⟨g5_5, rfl, k5_5_0⟩ := hv5
     refine Ef.buildSliceN [_, _] underlying157 el26 rfl (by intro v hv; simp at hv; rcases hv with rfl | rfl <;> rfl) rfl (by decide) (by decide) ?_
     intro g5_6 w2 hg b5_6 h2
     have b5_6 : Blk w2 g5_6 26 #[.slice (some ⟨g0_0, 0, none⟩) 32 32, .slice (some ⟨g5_5, 0, none⟩) 1 1] := b5_6
     have f11 := (k5_5_0.le h2)
     exact ⟨h2, ⟨_, _, rfl, f11, b5_6⟩, fun k hk => (rowOf_lit hk) ▸ ⟨hg, b5_6.lt⟩⟩
    ·refine .inl ⟨rfl, Step.of1 (j := 6) rfl rfl rfl ?_⟩
     intro v6 w1 hle hv6
     obtain ⟨g5_5, g5_6, rfl, k5_5_0, k5_6_0⟩ := hv6
     have f13 := (f0_0.le (d5.trans hle))
     refine Ef.call go21 rfl rfl (tag_ok _ nSplit w1 (ps := [seed, [BitVec.ofNat 8 i]]) rfl (k5_6_0.sl (s := 1) (n := 2) rfl) (.cons (f13.sb hse) (.cons (byte_sb k5_5_0.vec) (.nil _))) (by rw [tagLen2, hse]; show 24 + 5 + 32 + 1 <= _; decide)) ?_
     rintro _ w2 ⟨rfl, h2⟩
     refine ⟨_, rfl, ?_⟩
     exact ⟨h2, rfl, fun k hk => hk.elim⟩
    ·refine .inl ⟨rfl, Step.of2 (j := 1) (k := 7) rfl rfl rfl rfl ?_⟩
     intro v1 v7 w1 hle hv1 hv7
     have hv1 : v1 = .int .u64 (((base (ts.getD i 0) : Nat) : Int)) := hv1
     subst hv1
     have hv7 : v7 = .agg ((tag nSplit [seed, [BitVec.ofNat 8 i]]).map u8v).toArray := hv7
     subst hv7
     refine Ef.call go19 rfl rfl (pnew_ok (base (ts.getD i 0)) (base_lt _) (right_base _) qc4_4.1 (tag nSplit [seed, [BitVec.ofNat 8 i]]) (tag_length _ _) (rs.getD i noPaR).wN qc4_4.2.1 qc4_4.2.2 w1) ?_
     rintro _ w2 ⟨gp5_14, Ab5_14, cb5_14, rfl, hgp5_14, bp5_14, ob5_14, h2⟩
     refine ⟨_, rfl, ?_⟩
     have pq5_14 : PlnAt w2 w1.heap.size (⟨some ⟨gp5_14, 0, none⟩, (rs.getD i noPaR).wN, (rs.getD i noPaR).wN, Ab5_14, (rs.getD i noPaR).wN - 1, cb5_14⟩ : PlR) (planT (ts.getD i 0) (tag nSplit [seed, [BitVec.ofNat 8 i]]) (rs.getD i noPaR).wN) := ⟨bp5_14.ovec hgp5_14 pv1_row (flat_sing (g1 := pv) _).symm (planT_len _ _ qc4_4.2.1).1 (show (rs.getD i noPaR).wN <= maxLen by have := qc4_4.2.2; unfold maxLen; omega), Own.ovec (g1 := pv) ob5_14⟩
     exact ⟨h2, ⟨_, _, _, rfl, (pq5_14.mono hle.size)⟩, fun k hk => hk.elim⟩
    ·refine Step3.pure1 (j := 14) rfl rfl rfl rfl ?_
     intro v14 w1 hle hv14
     obtain ⟨gp5_14, Ab5_14, cb5_14, rfl, k5_14_0⟩ := hv14
     exact ⟨.tuple #[.agg (plV (⟨some ⟨gp5_14, 0, none⟩, (rs.getD i noPaR).wN, (rs.getD i noPaR).wN, Ab5_14, (rs.getD i noPaR).wN - 1, cb5_14⟩ : PlR)).toArray, .bool true], .move rfl, ⟨_, _, _, rfl, k5_14_0⟩, fun k hk => hk.elim⟩
    ·refine Step3.pure1 (j := 15) rfl rfl rfl rfl ?_
     intro v15 w1 hle hv15
     obtain ⟨gp5_14, Ab5_14, cb5_14, rfl, k5_14_0⟩ := hv15
     exact ⟨.agg (plV (⟨some ⟨gp5_14, 0, none⟩, (rs.getD i noPaR).wN, (rs.getD i noPaR).wN, Ab5_14, (rs.getD i noPaR).wN - 1, cb5_14⟩ : PlR)).toArray, .extract (v := .agg (plV (⟨some ⟨gp5_14, 0, none⟩, (rs.getD i noPaR).wN, (rs.getD i noPaR).wN, Ab5_14, (rs.getD i noPaR).wN - 1, cb5_14⟩ : PlR)).toArray) rfl rfl, ⟨_, _, _, rfl, k5_14_0⟩, fun k hk => hk.elim⟩
    ·refine Step3.pure1 (j := 15) rfl rfl rfl rfl ?_
     intro v15 w1 hle hv15
     obtain ⟨gp5_14, Ab5_14, cb5_14, rfl, k5_14_0⟩ := hv15
     exact ⟨.bool true, .extract (v := .bool true) rfl rfl, rfl, fun k hk => hk.elim⟩
    refine .inl ⟨rfl, Step.of0 rfl rfl ?_⟩
    intro w1 hle
    refine Ef.allocA z41 ?_
    intro g5_18 w2 hg b5_18 h2
    exact ⟨h2, ⟨_, rfl, b5_18⟩, fun k hk => (show g5_18 = k from hk) ▸ ⟨hg, b5_18.lt⟩⟩
   intro f_5 W_5 h_5 hphi_5 hfeet_5 hap_5
   have e1_5 : f_5 1 = .int .u64 (((base (ts.getD i 0) : Nat) : Int)) := hphi_5 1 (by decide)
   obtain ⟨g5_5, e5_5, kz5_5_0⟩ := hphi_5 5 (by decide)
   obtain ⟨g5_5, g5_6, e6_5, k5_5_0, k5_6_0⟩ := hphi_5 6 (by decide)
   have e7_5 : f_5 7 = .agg ((tag nSplit [seed, [BitVec.ofNat 8 i]]).map u8v).toArray := hphi_5 7 (by decide)
   obtain ⟨gp5_14, Ab5_14, cb5_14, e14_5, kz5_14_0⟩ := hphi_5 14 (by decide)
   obtain ⟨gp5_14, Ab5_14, cb5_14, e15_5, kz5_14_0⟩ := hphi_5 15 (by decide)
   obtain ⟨gp5_14, Ab5_14, cb5_14, e16_5, k5_14_0⟩ := hphi_5 16 (by decide)
   have e17_5 : f_5 17 = .bool true := hphi_5 17 (by decide)
   obtain ⟨g5_18, e18_5, k5_18_0⟩ := hphi_5 18 (by decide)
   have hgzg5_18 : w5.heap.size <= g5_18 := (hfeet_5 18 (by decide) g5_18 (by rw [e18_5]; rfl)).1
   show G _ _ _ _ _ ((24, f_5 1) :: (28, f_5 5) :: (29, f_5 6) :: (30, f_5 7) :: (37, f_5 14) :: (22, f_5 15) :: (38, f_5 16) :: (39, f_5 17) :: (10, f_5 18) :: _) _
   rw [e1_5, e5_5, e6_5, e7_5, e14_5, e15_5, e16_5, e17_5, e18_5]
   have L22 := L4.trans h_5
   refine G.ef0 rfl rfl rfl rfl ?_
   refine Ef.storeAll sz41 (by rfl) rfl rfl k5_18_0 (by simp only [List.size_toArray, plV_row.len]) (plV_row.one (⟨some ⟨gp5_14, 0, none⟩, (rs.getD i noPaR).wN, (rs.getD i noPaR).wN, Ab5_14, (rs.getD i noPaR).wN - 1, cb5_14⟩ : PlR)) ?_
   intro w5_19 b5_19 h5_19
   refine noT (by kernel_rfl) ?_
   have b5_19 : Blk w5_19 g5_18 41 (plV (⟨some ⟨gp5_14, 0, none⟩, (rs.getD i noPaR).wN, (rs.getD i noPaR).wN, Ab5_14, (rs.getD i noPaR).wN - 1, cb5_14⟩ : PlR)).toArray := b5_19
   have L23 := L22.tb h5_19 L4 hgzg5_18
   refine G.run 1 rfl (G.nil (E.thenN (WC.seq (WC.sr (W.run 2 rfl (W.nx (WC.condF rfl (WC.sn (WC.region (W.run 1 rfl ?_))))))))))
   refine W.r (.loadAll ag41 (by rfl) rfl b5_19) ?_
   refine W.ef rfl rfl rfl ?_
   refine Ef.buildSliceV (len := 1) [_] underlying37 el41 rfl (by simp [Value.cells, plV_row.len]) rfl (by decide) (by decide) ?_
   intro g8_2 w8_2 hg8_2 b8_2 h8_2
   have L24 := L23.trans h8_2
   have b8_2 : Blk w8_2 g8_2 41 (([(⟨some ⟨gp5_14, 0, none⟩, (rs.getD i noPaR).wN, (rs.getD i noPaR).wN, Ab5_14, (rs.getD i noPaR).wN - 1, cb5_14⟩ : PlR)]).map plV).flatten.toArray := b8_2
   have o8_2 : OVec w8_2 w5_19.heap.size 41 plV 2 (some ⟨g8_2, 0, none⟩) 1 1 ([(⟨some ⟨gp5_14, 0, none⟩, (rs.getD i noPaR).wN, (rs.getD i noPaR).wN, Ab5_14, (rs.getD i noPaR).wN - 1, cb5_14⟩ : PlR)]) := b8_2.ovec hg8_2 plV_row rfl rfl (by decide)
   have f25 := (((f0_1.le (d5.trans h_5)).ch h5_19 (fun q hq => by cases hq; exact (fun he => by have := (f0_1.row he).2; have := d5.size; omega))).le h8_2)
   refine W.ef rfl rfl rfl ?_
   refine Ef.vpush (a := (⟨some ⟨gp5_14, 0, none⟩, (rs.getD i noPaR).wN, (rs.getD i noPaR).wN, Ab5_14, (rs.getD i noPaR).wN - 1, cb5_14⟩ : PlR)) underlying37 el41 underlying37 plV_row rfl f25 rfl b8_2 (by omega) (by unfold maxLen; omega) (by have := lb0_5; have := d5.size; have := h_5.size; have := h5_19.size; have := h8_2.size; omega) ?_
   intro A8_3 c8_3 w8_3 o8_3 h8_3 at8_3
   have L26 := L24.then_ h8_3 (fun q hq => Nat.le_trans L2.size (f25.row hq).1)
   refine W.run 1 rfl ?_
   have f27 := ((((f0_2.le (d5.trans h_5)).chB h5_19 k5_18_0 (by decide) (by decide)).le h8_2).chO h8_3 f25 (by decide) (by decide))
   have f28 := (((k5_14_0.chB h5_19 k5_18_0 (by decide) (by decide)).le h8_2).chO h8_3 f25 (by decide) (by decide))
   have zpu := f27.push (f28.mono (by have := lb0_5; have := d5.size; omega))
   refine W.nil (E.blkN (E.thenN (WC.region ?_)))
   refine W.a (.add rfl rfl (by omega)) ?_
   refine W.run 1 rfl (W.nil ?_)
   have f29 := ((((f0_0.le (d5.trans h_5)).ch h5_19 (fun h => (show g5_18 ≠ g0_0 from by have := f0_0.lt; have := d5.size; omega) (Option.some.inj h))).le h8_2).ch h8_3 (fun he => by have := (f25.row he).1; have := f3.lt; omega))
   have f30 := ((((f0_3.le (d5.trans h_5)).ch h5_19 (fun q hq => by cases hq; exact (fun he => by have := (f0_3.row he).2; have := d5.size; omega))).le h8_2).ch h8_3 ((Apart.symm (fun q h1 h2 => by have := (ot2_3.row h1).2; have := (f25.row h2).1; omega))))
   refine E.again (i + 1, A8_3, c8_3, (qo ++ [(⟨some ⟨gp5_14, 0, none⟩, (rs.getD i noPaR).wN, (rs.getD i noPaR).wN, Ab5_14, (rs.getD i noPaR).wN - 1, cb5_14⟩ : PlR)])) (.cons rfl (.cons rfl (.cons rfl (.cons rfl (.cons rfl (.cons rfl (.nil _))))))) ?_ ?_
   ·exact ⟨by omega, fun j hj => (Nat.lt_succ_iff_lt_or_eq.1 hj).elim (hall j) (fun hh => by subst hh; assumption), L26, by have := zl0; have := d5.size; have := h_5.size; have := h5_19.size; have := h8_2.size; have := h8_3.size; omega, f29, o8_3, (zpu.cast (by rw [planK_succ, hpa]; rfl)), f30⟩
   first | omega | (simp only []; omega)
  refine W.run 1 rfl (W.nx (WC.seq ?_))
  refine WC.drawM [0, 2, 3, 4, 8, 9, 10, 11, 12, 13] [1, 5, 6, 7, 14, 15, 16, 17, 18] [19, 20] (fun i => bif Nat.beq i 6 then [5] else bif Nat.beq i 7 then [6] else bif Nat.beq i 14 then [1, 7] else bif Nat.beq i 15 then [14] else bif Nat.beq i 16 then [15] else bif Nat.beq i 17 then [15] else []) mixed (by kernel_rfl) ?_
  intro w5 d5
  have L31 := Ll0.trans d5
  refine G.run 1 rfl ?_
  refine G.a rfl (.cutArr underlying30 sz5 rfl) ?_
  refine G.run 1 rfl ?_
  refine G.r rfl (.toU8 i (isS underlying3) underlying5 rfl rfl) ?_
  refine G.run 2 rfl ?_
  refine G.a rfl (.idxS (i) underlying31 sz34 rfl rfl (hV.isSome prV_row (by omega)) (rfl) (by omega)) ?_
  refine G.a rfl (.vfield fa34_1 (hV.isSome prV_row (by omega)) rfl) ?_
  refine G.r rfl (.vcell (j := i) (o := 1) (v := .slice ((rs.getD i noPaR).wA) ((rs.getD i noPaR).wN) ((rs.getD i noPaR).wC)) na32 rfl (hV.le L31) prV_row (getS rs noPaR (by omega)) rfl) ?_
  refine G.r rfl (.len underlying32 rfl) ?_
  refine G.nil ?_
  refine E.free3 ⟨by rfl, fun iU => (bif Nat.beq iU 1 then (fun v w' => v = .int .u64 (((base (ts.getD i 0) : Nat) : Int))) else (bif Nat.beq iU 5 then (fun v w' => ∃ g5_5, v = .slice (some ⟨g5_5, 0, none⟩) 1 1 /\ OVec w' w5.heap.size 5 byteV 1 (some ⟨g5_5, 0, none⟩) 1 1 ([BitVec.ofNat 8 i])) else (bif Nat.beq iU 6 then (fun v w' => ∃ g5_5 g5_6, v = .slice (some ⟨g5_6, 0, none⟩) 2 2 /\ OVec w' w5.heap.size 5 byteV 1 (some ⟨g5_5, 0, none⟩) 1 1 ([BitVec.ofNat 8 i]) /\ Blk w' g5_6 26 #[.slice (some ⟨g0_0, 0, none⟩) 32 32, .slice (some ⟨g5_5, 0, none⟩) 1 1]) else (bif Nat.beq iU 7 then (fun v w' => v = .agg ((tag nSplit [seed, [BitVec.ofNat 8 i]]).map u8v).toArray) else (bif Nat.beq iU 14 then (fun v w' => v = .tuple #[.agg (plV noPlR).toArray, .bool false]) else (bif Nat.beq iU 15 then (fun v w' => v = .tuple #[.agg (plV noPlR).toArray, .bool false]) else (bif Nat.beq iU 16 then (fun v w' => v = .agg (plV noPlR).toArray) else (bif Nat.beq iU 17 then (fun v w' => v = .bool false) else (bif Nat.beq iU 18 then (fun v w' => ∃ g5_18, v = .pointer (some ⟨g5_18, 0, none⟩) /\ Blk w' g5_18 41 (plV noPlR).toArray) else (fun _ _ => True)))))))))), ?_, ?_, ?_⟩
  ·intro iU hi v w1 w2 hv hle
   simp only [List.mem_cons, List.not_mem_nil, or_false] at hi
   rcases hi with rfl | rfl | rfl | rfl | rfl | rfl | rfl | rfl | rfl
   ·exact hv
   ·obtain ⟨g5_5, hvv, k5_5_0⟩ := hv; exact ⟨g5_5, hvv, k5_5_0.le hle⟩
   ·obtain ⟨g5_5, g5_6, hvv, k5_5_0, k5_6_0⟩ := hv; exact ⟨g5_5, g5_6, hvv, k5_5_0.le hle, k5_6_0.le hle⟩
   ·exact hv
   ·exact hv
   ·exact hv
   ·exact hv
   ·exact hv
   obtain ⟨g5_18, hvv, k5_18_0⟩ := hv; exact ⟨g5_18, hvv, k5_18_0.le hle⟩
  ·intro iU hi
   simp only [List.mem_cons, List.not_mem_nil, or_false] at hi
   rcases hi with rfl | rfl | rfl | rfl | rfl | rfl | rfl | rfl | rfl
   ·refine .inl ⟨rfl, Step.of0 rfl rfl ?_⟩
    intro w1 hle
    refine Ef.call go20 rfl rfl (base_ok (ts.getD i 0) w1) ?_
    rintro _ w2 ⟨rfl, h2⟩
    refine ⟨_, rfl, ?_⟩
    exact ⟨h2, rfl, fun k hk => hk.elim⟩
   ·refine .inl ⟨rfl, Step.of0 rfl rfl ?_⟩
    intro w1 hle
    refine Ef.buildSliceV (len := 1) [_] underlying26 el5 rfl (by simp [Value.cells, u8v]) rfl (by decide) (by decide) ?_
    intro g5_5 w2 hg b5_5 h2
    have b5_5 : Blk w2 g5_5 5 (([BitVec.ofNat 8 i]).map byteV).flatten.toArray := b5_5
    have o5_5 : OVec w2 w1.heap.size 5 byteV 1 (some ⟨g5_5, 0, none⟩) 1 1 ([BitVec.ofNat 8 i]) := b5_5.ovec hg byteV_row rfl rfl (by decide)
    exact ⟨h2, ⟨_, rfl, (o5_5.mono hle.size)⟩, fun k hk => o5_5.row hk⟩
   ·refine .inl ⟨rfl, Step.of1 (j := 5) rfl rfl rfl ?_⟩
    intro v5 w1 hle hv5
    obtain ⟨g5_5, rfl, k5_5_0⟩ := hv5
    refine Ef.buildSliceN [_, _] underlying157 el26 rfl (by intro v hv; simp at hv; rcases hv with rfl | rfl <;> rfl) rfl (by decide) (by decide) ?_
    intro g5_6 w2 hg b5_6 h2
    have b5_6 : Blk w2 g5_6 26 #[.slice (some ⟨g0_0, 0, none⟩) 32 32, .slice (some ⟨g5_5, 0, none⟩) 1 1] := b5_6
    have f38 := (k5_5_0.le h2)
    exact ⟨h2, ⟨_, _, rfl, f38, b5_6⟩, fun k hk => (rowOf_lit hk) ▸ ⟨hg, b5_6.lt⟩⟩
   ·refine .inl ⟨rfl, Step.of1 (j := 6) rfl rfl rfl ?_⟩
    intro v6 w1 hle hv6
    obtain ⟨g5_5, g5_6, rfl, k5_5_0, k5_6_0⟩ := hv6
    have f40 := (f0_0.le (d5.trans hle))
    refine Ef.call go21 rfl rfl (tag_ok _ nSplit w1 (ps := [seed, [BitVec.ofNat 8 i]]) rfl (k5_6_0.sl (s := 1) (n := 2) rfl) (.cons (f40.sb hse) (.cons (byte_sb k5_5_0.vec) (.nil _))) (by rw [tagLen2, hse]; show 24 + 5 + 32 + 1 <= _; decide)) ?_
    rintro _ w2 ⟨rfl, h2⟩
    refine ⟨_, rfl, ?_⟩
    exact ⟨h2, rfl, fun k hk => hk.elim⟩
   ·refine .inl ⟨rfl, Step.of2 (j := 1) (k := 7) rfl rfl rfl rfl ?_⟩
    intro v1 v7 w1 hle hv1 hv7
    have hv1 : v1 = .int .u64 (((base (ts.getD i 0) : Nat) : Int)) := hv1
    subst hv1
    have hv7 : v7 = .agg ((tag nSplit [seed, [BitVec.ofNat 8 i]]).map u8v).toArray := hv7
    subst hv7
    refine Ef.call go19 rfl rfl (pnewF_ok (base (ts.getD i 0)) (base_lt _) (tag nSplit [seed, [BitVec.ofNat 8 i]]) (rs.getD i noPaR).wN (fun h => qc4_4 h.2) w1) ?_
    rintro _ w2 ⟨rfl, h2⟩
    refine ⟨_, rfl, ?_⟩
    exact ⟨h2, rfl, fun k hk => hk.elim⟩
   ·refine Step3.pure1 (j := 14) rfl rfl rfl rfl ?_
    intro v14 w1 hle hv14
    have hv14 : v14 = .tuple #[.agg (plV noPlR).toArray, .bool false] := hv14
    subst hv14
    exact ⟨.tuple #[.agg (plV noPlR).toArray, .bool false], .move rfl, rfl, fun k hk => hk.elim⟩
   ·refine Step3.pure1 (j := 15) rfl rfl rfl rfl ?_
    intro v15 w1 hle hv15
    have hv15 : v15 = .tuple #[.agg (plV noPlR).toArray, .bool false] := hv15
    subst hv15
    exact ⟨.agg (plV noPlR).toArray, .extract (v := .agg (plV noPlR).toArray) rfl rfl, rfl, fun k hk => hk.elim⟩
   ·refine Step3.pure1 (j := 15) rfl rfl rfl rfl ?_
    intro v15 w1 hle hv15
    have hv15 : v15 = .tuple #[.agg (plV noPlR).toArray, .bool false] := hv15
    subst hv15
    exact ⟨.bool false, .extract (v := .bool false) rfl rfl, rfl, fun k hk => hk.elim⟩
   refine .inl ⟨rfl, Step.of0 rfl rfl ?_⟩
   intro w1 hle
   refine Ef.allocA z41 ?_
   intro g5_18 w2 hg b5_18 h2
   exact ⟨h2, ⟨_, rfl, b5_18⟩, fun k hk => (show g5_18 = k from hk) ▸ ⟨hg, b5_18.lt⟩⟩
  intro f_5 W_5 h_5 hphi_5 hfeet_5 hap_5
  have e1_5 : f_5 1 = .int .u64 (((base (ts.getD i 0) : Nat) : Int)) := hphi_5 1 (by decide)
  obtain ⟨g5_5, e5_5, kz5_5_0⟩ := hphi_5 5 (by decide)
  obtain ⟨g5_5, g5_6, e6_5, k5_5_0, k5_6_0⟩ := hphi_5 6 (by decide)
  have e7_5 : f_5 7 = .agg ((tag nSplit [seed, [BitVec.ofNat 8 i]]).map u8v).toArray := hphi_5 7 (by decide)
  have e14_5 : f_5 14 = .tuple #[.agg (plV noPlR).toArray, .bool false] := hphi_5 14 (by decide)
  have e15_5 : f_5 15 = .tuple #[.agg (plV noPlR).toArray, .bool false] := hphi_5 15 (by decide)
  have e16_5 : f_5 16 = .agg (plV noPlR).toArray := hphi_5 16 (by decide)
  have e17_5 : f_5 17 = .bool false := hphi_5 17 (by decide)
  obtain ⟨g5_18, e18_5, k5_18_0⟩ := hphi_5 18 (by decide)
  have hgzg5_18 : w5.heap.size <= g5_18 := (hfeet_5 18 (by decide) g5_18 (by rw [e18_5]; rfl)).1
  show G _ _ _ _ _ ((24, f_5 1) :: (28, f_5 5) :: (29, f_5 6) :: (30, f_5 7) :: (37, f_5 14) :: (22, f_5 15) :: (38, f_5 16) :: (39, f_5 17) :: (10, f_5 18) :: _) _
  rw [e1_5, e5_5, e6_5, e7_5, e14_5, e15_5, e16_5, e17_5, e18_5]
  have L49 := L31.trans h_5
  refine G.ef0 rfl rfl rfl rfl ?_
  refine Ef.storeAll sz41 (by rfl) rfl rfl k5_18_0 (by simp only [List.size_toArray, plV_row.len]) (plV_row.one noPlR) ?_
  intro w5_19_1 b5_19_1 h5_19_1
  refine noT (by kernel_rfl) ?_
  have b5_19_1 : Blk w5_19_1 g5_18 41 (plV noPlR).toArray := b5_19_1
  have L50 := L49.tb h5_19_1 L31 hgzg5_18
  refine G.run 1 rfl (G.nil (E.thenN (WC.seq (WC.sr (W.run 2 rfl (W.nx (WC.condT rfl (WC.sr (W.run 1 rfl (W.nx (WC.ret (E.thenR (E.blkR (E.thenR (E.thenR (E.blkR (E.thenR ?_)))))))))))))))))
  refine E.retG1 rfl rfl ?_
  rw [plansL_no (fun h => absurd (hmay.1 h i (by omega)) (by assumption))]
  exact ⟨none, 0, [], rfl, OVec.nil _ _ _ _ _ _, PlnsAt.nil _ _, L50⟩
 refine WC.condN rfl (decide_eq_false c0) ?_
 refine WC.exit (E.thenX (E.thenX (E.blkH (E.thenN (WC.sr (W.run 2 rfl (W.nx (WC.ret ?_))))))))
 refine E.retG1 rfl rfl ?_
 have hie : (partsL s ((((rs.map (·.wN))).length : Nat) : Int)).length = i := (by rw [hnl, <- hets]; omega)
 rw [plansL_yes (hmay.2 (fun j hj => hall j (by omega))), hie, planK_len]
 exact ⟨_, _, _, rfl, (f0_1.mono L2.size), (f0_2.mono L2.size), Ll0⟩
end Go.Proofs.YtocheaahlpiajaaGreatDoor

