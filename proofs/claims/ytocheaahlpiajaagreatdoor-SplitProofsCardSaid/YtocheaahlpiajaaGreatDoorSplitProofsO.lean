/- SplitProofs: for every input the law answers true and leaves its arguments as they were. -/
import Derived.Test.YtocheaahlpiajaaGreatDoorSplitProofsN
set_option linter.unusedVariables false
set_option linter.unusedSimpArgs false
namespace Go.Proofs.YtocheaahlpiajaaGreatDoor
open Tryz
open Go Go.Sx Go.Num Go.Gsp Go.Nsp Go.Msp
set_option maxRecDepth 20000
def GrownM (w : World) (F F' : Nat -> Prop) : Prop := ∀ k, F' k -> F k \/ w.heap.size <= k
def MPool (w : World) (base gp : Nat) (F : Nat -> Prop) (m : MF) : Prop := ∃ gm la ca, Blk w gp 188 #[.map (some gm)] /\ MapG w wyf ntf gm la ca /\ (fun k => getG k la) = m /\ GoodM m /\ gp ≠ gm /\ (∀ k, F k ↔ k = gp \/ k = gm) /\ base <= gp /\ base <= gm
section
variable {w w' : World} {base gp : Nat} {F : Nat -> Prop} {m : MF}
theorem MPool.chP {F' : Nat -> Prop} (h : MPool w base gp F m) (hc : ChP w w' F') (hne : ∀ k, F k -> ¬ F' k) : MPool w' base gp F m := by
  obtain ⟨gm, la, ca, h1, h2, h3, h4, h5, h6, h7, h8⟩ := h
  exact ⟨gm, la, ca, h1.chP hc (hne _ ((h6 _).2 (.inl rfl))), h2.chP hc (hne _ ((h6 _).2 (.inr rfl))), h3, h4, h5, h6, h7, h8⟩
theorem MPool.ch {r : Option Nat} (h : MPool w base gp F m) (hc : Ch w w' r) (hne : ∀ k, r = some k -> ¬ F k) : MPool w' base gp F m := h.chP (hc.chP (F := fun k => r = some k) (fun i hi => hi)) (fun k hk hr => hne k hr hk)
theorem MPool.le (h : MPool w base gp F m) (hl : Le w w') : MPool w' base gp F m := h.chP (hl.chP (fun _ => False)) (fun _ _ hf => hf)
theorem MPool.lt (h : MPool w base gp F m) {k : Nat} (hk : F k) : k < w.heap.size := by
  obtain ⟨gm, la, ca, h1, h2, h3, h4, h5, h6, h7, h8⟩ := h
  rcases (h6 k).1 hk with rfl | rfl
  · exact h1.lt
  · exact h2.lt
theorem MPool.good (h : MPool w base gp F m) : GoodM m := by
  obtain ⟨gm, la, ca, h1, h2, h3, h4, h5, h6, h7, h8⟩ := h
  exact h4
theorem MPool.old (h : MPool w base gp F m) {k : Nat} (hk : F k) : base <= k := by
  obtain ⟨gm, la, ca, h1, h2, h3, h4, h5, h6, h7, h8⟩ := h
  rcases (h6 k).1 hk with rfl | rfl
  · exact h7
  · exact h8
theorem MPool.size (h : MPool w base gp F m) : base <= w.heap.size := by
  obtain ⟨gm, la, ca, h1, h2, h3, h4, h5, h6, h7, h8⟩ := h
  have := h1.lt
  omega
theorem goodG {la : MMl} (h4 : GoodM (fun k => getG k la)) : ∀ k v, getG k la = some v -> okNt v := fun k v hv => h4 k v hv
def ActedM (w : World) (base gp : Nat) (F : Nat -> Prop) (m : MF) : Ending -> World -> Prop := fun e w' => e = .returned (.tuple #[]) /\ MPool w' base gp F m /\ GrownM w F F /\ ChP w w' F
theorem new_mind (w : World) : Calls prog 64 #[] w fun r w' => ∃ gp F, r = .returned (.pointer (some ⟨gp, 0, none⟩)) /\ MPool w' w.heap.size gp F (fun _ => none) /\ Le w w' := by
  refine Calls.mono (lnew_ok w) ?_
  rintro r w' ⟨gp, gm, hr, h1, h2, h3, h4, h5, h6⟩
  exact ⟨gp, fun k => k = gp \/ k = gm, hr, ⟨gm, [], 0, h1, h2, rfl, (fun _ _ h => by cases h), h5, fun _ => Iff.rfl, h3, h4⟩, h6⟩
theorem copy_mind (h : MPool w base gp F m) : Calls prog 85 #[.pointer (some ⟨gp, 0, none⟩)] w fun r w' => ∃ gp' F', r = .returned (.pointer (some ⟨gp', 0, none⟩)) /\ MPool w' w.heap.size gp' F' m /\ Le w w' := by
  obtain ⟨gm, la, ca, h1, h2, rfl, h4, h5, h6, h7, h8⟩ := h
  refine Calls.mono (lcopy_ok w h1 h2 (goodG h4)) ?_
  rintro r w' ⟨gp', gm', hr, k1, k2, k3, k4, k5, k6⟩
  exact ⟨gp', fun k => k = gp' \/ k = gm', hr, ⟨gm', la, ca, k1, k2, rfl, h4, k5, fun _ => Iff.rfl, k3, k4⟩, k6⟩
theorem bnd_mind (e : Gsp.Edge) (h : MPool w base gp F m) : Calls prog 72 #[.pointer (some ⟨gp, 0, none⟩), .agg (edgeV e).toArray] w fun r w' => r = .returned (.tuple #[.int .i64 (bndM m e).1, .int .i64 (bndM m e).2]) /\ Le w w' := by
  obtain ⟨gm, la, ca, h1, h2, rfl, h4, h5, h6, h7, h8⟩ := h
  exact lbnd_ok e w h1 h2 (goodG h4)
theorem odds_mind (e : Gsp.Edge) (a : Int) (h : MPool w base gp F m) : Calls prog 44 #[.pointer (some ⟨gp, 0, none⟩), .agg (edgeV e).toArray, .int .i64 a] w fun r w' => ∃ A1 c1 A2 c2, r = .returned (.tuple #[.agg #[.slice A1 (digs (oddsM m e a).n).length c1, .slice A2 (digs (oddsM m e a).d).length c2], .bool (goesM e a)]) /\ OVec w' w.heap.size 273 dv 1 A1 (digs (oddsM m e a).n).length c1 (digs (oddsM m e a).n) /\ OVec w' w.heap.size 273 dv 1 A2 (digs (oddsM m e a).d).length c2 (digs (oddsM m e a).d) /\ Le w w' := by
  obtain ⟨gm, la, ca, h1, h2, rfl, h4, h5, h6, h7, h8⟩ := h
  exact lodds_ok e a w h1 h2 (goodG h4)
theorem pass_mind (e : Gsp.Edge) (a : Int) (h : MPool w base gp F m) : Calls prog 81 #[.pointer (some ⟨gp, 0, none⟩), .agg (edgeV e).toArray, .int .i64 a] w (ActedM w base gp F (passM m e a)) := by
  obtain ⟨gm, la, ca, h1, h2, rfl, h4, h5, h6, h7, h8⟩ := h
  refine Calls.mono (lpass_ok e a w h1 h2 (goodG h4) h5) ?_
  rintro r w' ⟨hr, la', ca', k1, k2, k3⟩
  exact ⟨hr, ⟨gm, la', ca', h1.chP k3 h5, k1, funext k2, passM_good h4 e a, h5, h6, h7, h8⟩, fun k hk => .inl hk, k3.mono fun k hk _ => (h6 k).2 (.inr hk)⟩
end
end Go.Proofs.YtocheaahlpiajaaGreatDoor

namespace Go.Rtp
open Go.Gsp Go.Nsp Go.Msp Go.Proofs.YtocheaahlpiajaaGreatDoor
def accO (m : MF) (xs : List Gsp.Edge) (s : List Int) : Nat -> Fr
  | 0 => lowF 1 1
  | k + 1 => mulF (takF (accO m xs s k)) (takF (oddsM m (xs.getD k noEdge) (s.getD k 0)))
def oddsR (m : MF) (xs : List Gsp.Edge) (a x : Int) : Fr × Int × Int :=
  if (costG xs a x).2.2 = 0 then (accO m xs (costG xs a x).1 xs.length, (costG xs a x).1.getD 0 0, 0) else (⟨0, 0⟩, 0, (costG xs a x).2.2)
structure Fnd where
  way : List Gsp.Edge
  odds : Fr
  sent : Int
def noFnd : Fnd := ⟨[], ⟨0, 0⟩, 0⟩
def rowsC : List Gsp.Edge -> List Gsp.Edge -> Int
  | [], [] => 0
  | [], _ :: _ => -1
  | _ :: _, [] => 1
  | x :: xs, y :: ys => if cmpI x.c y.c ≠ 0 then cmpI x.c y.c else rowsC xs ys
def betterR (a b : Fnd) : Bool := decide (orL [cmpF (takF b.odds) (takF a.odds), cmpI a.sent b.sent, rowsC a.way b.way] < 0)
def cutR (way : List Gsp.Edge) (r : Fr × Int × Int) (b : Fnd) : Prop := way ≠ [] /\ (r.2.2 ≠ 0 \/ r.1.n = 0 \/ (b.way ≠ [] /\ cmpF (takF r.1) (takF b.odds) < 0))
instance (way : List Gsp.Edge) (r : Fr × Int × Int) (b : Fnd) : Decidable (cutR way r b) := by unfold cutR; infer_instance
def fndR (way : List Gsp.Edge) (r : Fr × Int × Int) : Fnd := ⟨way, r.1, r.2.1⟩
def skipR (way : List Gsp.Edge) (to : Int) (e : Gsp.Edge) : Bool := decide (e.f = to) || way.any (fun y => decide (y.f = e.f))
def inG (g : List Gsp.Edge) (at_ : Int) : List Gsp.Edge := g.filter fun e => decide (e.t = at_)
def stepR (rec_ : List Gsp.Edge -> Int -> Fnd -> Fnd) (way : List Gsp.Edge) (to : Int) (b : Fnd) (e : Gsp.Edge) : Fnd := if skipR way to e = true then b else rec_ (e :: way) e.f b
def lookR (g : List Gsp.Edge) (m : MF) (fr to a x : Int) : Nat -> List Gsp.Edge -> Int -> Fnd -> Fnd
  | 0, _, _, b => b
  | n + 1, way, at_, b =>
    if cutR way (oddsR m way a x) b then b
    else if at_ = fr then if b.way = [] \/ betterR (fndR way (oddsR m way a x)) b = true then fndR way (oddsR m way a x) else b
    else if way.length = 8 then b
    else (inG g at_).foldl (stepR (lookR g m fr to a x n) way to) b
def badR (g : List Gsp.Edge) (fr to a x : Int) : Bool := !rightG g || !inB fr 0 11 || !inB to 0 11 || decide (fr = to) || !inB a 1 1125899906842624 || !inB x 1 1048576
def bestR (g : List Gsp.Edge) (m : MF) (fr to a x : Int) : List Gsp.Edge × Fr × Int :=
  if badR g fr to a x = true then ([], ⟨0, 0⟩, 1)
  else if (lookR g m fr to a x 9 [] to noFnd).way = [] then ([], ⟨0, 0⟩, 19)
  else ((lookR g m fr to a x 9 [] to noFnd).way, (lookR g m fr to a x 9 [] to noFnd).odds, 0)
theorem accO_ok (m : MF) (xs : List Gsp.Edge) (s : List Int) : ∀ k, okF (accO m xs s k)
  | 0 => okF_low (by decide)
  | k + 1 => okF_low (Nat.mul_pos (takF_ok _).1 (takF_ok _).1)
theorem oddsM_len {m : MF} (hm : GoodM m) (e : Gsp.Edge) (a : Int) : (digs (oddsM m e a).n).length <= 2 /\ (digs (oddsM m e a).d).length <= 2 := by
  unfold oddsM
  split
  · rename_i h
    simp only [goesM, Bool.and_eq_true, decide_eq_true_eq] at h
    have hb := bndM_ok hm h.1.1
    have hr := mayM_T h.1.1
    have h1 : (oddN m e a).toNat < 18446744073709551616 := by unfold oddN; omega
    have h2 : (oddD m e).toNat < 18446744073709551616 := by unfold oddD; omega
    have l1 := lowF_le (oddN m e a).toNat (oddD m e).toNat
    exact ⟨Nat.le_trans (digs_len_mono l1.1) (digs_len_pow 2 h1), Nat.le_trans (digs_len_mono l1.2) (digs_len_pow 2 h2)⟩
  · simp only [digs_zero]
    exact ⟨Nat.zero_le _, Nat.zero_le _⟩
theorem accO_len {m : MF} (hm : GoodM m) (xs : List Gsp.Edge) (s : List Int) : ∀ k, (digs (accO m xs s k).n).length <= 4 * k + 1 /\ (digs (accO m xs s k).d).length <= 4 * k + 1
  | 0 => ⟨Nat.le_trans (digs_len_mono (lowF_le 1 1).1) (digs_len_one (by decide)), Nat.le_trans (digs_len_mono (lowF_le 1 1).2) (digs_len_one (by decide))⟩
  | k + 1 => by
    have h0 := accO_len hm xs s k
    have h1 := takF_len (oddsM m (xs.getD k noEdge) (s.getD k 0))
    have h2 := oddsM_len hm (xs.getD k noEdge) (s.getD k 0)
    have h3 := takF_id (accO_ok m xs s k)
    have h4 : accO m xs s (k + 1) = lowF ((accO m xs s k).n * (takF (oddsM m (xs.getD k noEdge) (s.getD k 0))).n) ((accO m xs s k).d * (takF (oddsM m (xs.getD k noEdge) (s.getD k 0))).d) := by show mulF _ _ = _; rw [h3]; rfl
    have h5 := digs_mul_len (accO m xs s k).n (takF (oddsM m (xs.getD k noEdge) (s.getD k 0))).n
    have h6 := digs_mul_len (accO m xs s k).d (takF (oddsM m (xs.getD k noEdge) (s.getD k 0))).d
    have h7 := lowF_le ((accO m xs s k).n * (takF (oddsM m (xs.getD k noEdge) (s.getD k 0))).n) ((accO m xs s k).d * (takF (oddsM m (xs.getD k noEdge) (s.getD k 0))).d)
    rw [h4]
    have h8 := digs_len_mono h7.1
    have h9 := digs_len_mono h7.2
    omega
theorem oddsR_len {m : MF} (hm : GoodM m) (xs : List Gsp.Edge) (a x : Int) : (digs (oddsR m xs a x).1.n).length <= 100 /\ (digs (oddsR m xs a x).1.d).length <= 100 := by
  unfold oddsR
  split
  · rename_i h
    have hw := (costG_inv h).1
    have := wayG_len hw
    have := accO_len hm xs (costG xs a x).1 xs.length
    simp only
    omega
  · simp only [digs_zero]
    exact ⟨Nat.zero_le _, Nat.zero_le _⟩
end Go.Rtp

namespace Go.Proofs.YtocheaahlpiajaaGreatDoor
open Tryz
open Go Go.Sx Go.Num Go.Gsp Go.Nsp Go.Msp Go.Rtp
set_option maxRecDepth 20000
theorem rodds_ok {base gp : Nat} {F : Nat -> Prop} {m : MF} (a x : Int) {A : Option Addr} {n c : Nat} {xs : List Gsp.Edge} (w : World) (hP : MPool w base gp F m) (hV : Vec w edgeV 9 A n xs) (hn : n <= 1000000) : Calls prog 116 #[.pointer (some ⟨gp, 0, none⟩), .slice A n c, .int .i64 (a), .int .i64 (x)] w fun r w' => ∃ A1 c1 A2 c2, r = .returned (.tuple #[.agg #[.slice A1 (digs (oddsR m xs a x).1.n).length c1, .slice A2 (digs (oddsR m xs a x).1.d).length c2], .int .i64 (oddsR m xs a x).2.1, .int .i64 (oddsR m xs a x).2.2]) /\ OVec w' w.heap.size 273 dv 1 A1 (digs (oddsR m xs a x).1.n).length c1 (digs (oddsR m xs a x).1.n) /\ OVec w' w.heap.size 273 dv 1 A2 (digs (oddsR m xs a x).1.d).length c2 (digs (oddsR m xs a x).1.d) /\ Le w w' := by
 have hl := hV.1
 have hgm := hP.good
 refine enter func116 rfl rfl ?_
 have L0 := Le.refl w
 refine WC.sr (W.ef rfl rfl rfl ?_)
 refine Ef.allocA z61 ?_
 intro g0_0 w0_0 hg0_0 b0_0 h0_0
 have L1 := L0.trans h0_0
 have b0_0 : Blk w0_0 g0_0 61 #[.slice none 0 0, .slice none 0 0] := b0_0
 refine W.run 2 rfl (W.nx (WC.sr (W.run 3 rfl ?_)))
 refine W.cl go38 rfl rfl (cost_ok a x w0_0 (hV.le L1) (by omega)) ?_
 rintro _ w1_3 ⟨Aa1_3, ca1_3, Ab1_3, cb1_3, rfl, oa1_3, ob1_3, h1_3⟩
 have L2 := L1.trans h1_3
 refine W.run 7 rfl (W.nx (WC.seq (WC.sr (W.run 2 rfl (W.nx ?_)))))
 by_cases c0 : ((costG xs a x).2.2) ≠ 0
 ·refine WC.condY rfl (decide_eq_true c0) ?_
  refine WC.sr ?_
  refine W.a (.buildP [.slice none 0 0, .slice none 0 0] pl61 z61 rfl rfl) ?_
  refine W.run 1 rfl ?_
  have f3 := (b0_0.le h1_3)
  refine W.sA sz61 rfl rfl f3 ?_
  intro w3_2 b3_2 h3_2
  have b3_2 : Blk w3_2 g0_0 61 #[.slice none 0 0, .slice none 0 0] := b3_2
  have L4 := L2.tb h3_2 L0 hg0_0
  refine W.run 2 rfl (W.nx (WC.ret (E.thenR ?_)))
  refine E.retG3 rfl (resA rfl b3_2 ag61 (by rfl)) rfl rfl ?_
  have hod : oddsR m xs a x = (⟨0, 0⟩, 0, (costG xs a x).2.2) := if_neg (by assumption)
  rw [hod]
  exact ⟨none, 0, none, 0, by simp only [digs_zero]; rfl, by simp only [digs_zero]; exact OVec.nil _ _ _ _ _ _, by simp only [digs_zero]; exact OVec.nil _ _ _ _ _ _, L4⟩
 refine WC.condN rfl (decide_eq_false c0) ?_
 have hcl := costG_lens (Decidable.not_not.1 (by assumption) : (costG xs a x).2.2 = 0)
 have hwl := wayG_len (costG_inv (Decidable.not_not.1 (by assumption) : (costG xs a x).2.2 = 0)).1
 refine WC.sn (WC.sr ?_)
 refine W.cl go39 rfl rfl (fof_ok 1 1 w1_3 (by omega) (by omega) (by omega)) ?_
 rintro _ w4_0 ⟨An4_0, cn4_0, Ad4_0, cd4_0, rfl, on4_0, od4_0, h4_0⟩
 have L5 := L2.trans h4_0
 refine W.run 1 rfl ?_
 refine W.a (.extract (v := .agg #[.slice An4_0 ((digs ((lowF 1 1).n)).length) cn4_0, .slice Ad4_0 ((digs ((lowF 1 1).d)).length) cd4_0]) rfl rfl) ?_
 refine W.run 1 rfl (W.ef rfl rfl rfl ?_)
 refine Ef.allocA z61 ?_
 intro g4_4 w4_4 hg4_4 b4_4 h4_4
 have L6 := L5.trans h4_4
 have b4_4 : Blk w4_4 g4_4 61 #[.slice none 0 0, .slice none 0 0] := b4_4
 refine W.sA sz61 rfl rfl b4_4 ?_
 intro w4_5 b4_5 h4_5
 have b4_5 : Blk w4_5 g4_4 61 #[.slice An4_0 ((digs ((lowF 1 1).n)).length) cn4_0, .slice Ad4_0 ((digs ((lowF 1 1).d)).length) cd4_0] := b4_5
 have L7 := L6.tb h4_5 L5 hg4_4
 refine W.run 1 rfl (W.nx (WC.seq (WC.sr (W.run 1 rfl ?_))))
 refine W.r (.len underlying32 rfl) ?_
 refine W.run 1 rfl (W.nx (WC.block ?_))
 have f8 := ((on4_0.le h4_4).ch h4_5 (fun q hq => by cases hq; exact (fun he => by have := (on4_0.row he).2; omega)))
 have f9 := ((od4_0.le h4_4).ch h4_5 (fun q hq => by cases hq; exact (fun he => by have := (od4_0.row he).2; omega)))
 have f10 := ((hP.le (h0_0.trans (h1_3.trans (h4_0.trans h4_4)))).ch h4_5 (fun q hqq hF => by cases hqq; have := hP.lt hF; have := h0_0.size; have := h1_3.size; have := h4_0.size; have := hg4_4; omega))
 have f11 := ((b0_0.le (h1_3.trans (h4_0.trans h4_4))).ch h4_5 (fun h => (show g4_4 ≠ g0_0 from by have := b0_0.lt; have := h1_3.size; have := h4_0.size; omega) (Option.some.inj h)))
 have f12 := ((oa1_3.le (h4_0.trans h4_4)).ch h4_5 (fun q hq => by cases hq; exact (fun he => by have := (oa1_3.row he).2; have := h4_0.size; omega)))
 refine WC.loop (ι := Nat × ((Option Addr)) × Nat × ((Option Addr)) × Nat) (fun ⟨k, Ax, cx, Ay, cy⟩ => [(0, .pointer (some ⟨gp, 0, none⟩)), (8, .pointer (some ⟨g0_0, 0, none⟩)), (11, .slice Aa1_3 ((costG xs a x).1.length) ca1_3), (14, .pointer (some ⟨g4_4, 0, none⟩)), (36, .slice A n c), (37, .int .i64 (((n : Nat) : Int))), (38, .int .i64 (((k : Nat) : Int)))]) (fun ⟨k, Ax, cx, Ay, cy⟩ wl0 => (k <= n) /\ Le w wl0 /\ w4_5.heap.size <= wl0.heap.size /\ MPool wl0 base gp F m /\ Blk wl0 g0_0 61 #[.slice none 0 0, .slice none 0 0] /\ OVec wl0 w0_0.heap.size 3 iv 1 Aa1_3 ((costG xs a x).1.length) ca1_3 ((costG xs a x).1) /\ Blk wl0 g4_4 61 #[.slice Ax ((digs (accO m xs (costG xs a x).1 k).n).length) cx, .slice Ay ((digs (accO m xs (costG xs a x).1 k).d).length) cy] /\ OVec wl0 w1_3.heap.size 273 dv 1 Ax ((digs (accO m xs (costG xs a x).1 k).n).length) cx (digs (accO m xs (costG xs a x).1 k).n) /\ OVec wl0 w1_3.heap.size 273 dv 1 Ay ((digs (accO m xs (costG xs a x).1 k).d).length) cy (digs (accO m xs (costG xs a x).1 k).d)) (fun ⟨k, Ax, cx, Ay, cy⟩ => n - k) (0, An4_0, cn4_0, Ad4_0, cd4_0) ?_ ?_ ?_
 ·exact .cons rfl (.cons rfl (.cons rfl (.cons rfl (.cons rfl (.cons rfl (.cons rfl (.nil _)))))))
 ·exact ⟨Nat.zero_le _, L7, Nat.le_refl _, f10, f11, f12, b4_5, f8, f9⟩
 rintro ⟨k, Ax, cx, Ay, cy⟩ wl0 ⟨hk, Ll0, zl0, f0_0, f0_1, f0_2, f0_3, f0_4, f0_5⟩
 have lb0_4 : w0_0.heap.size <= wl0.heap.size := by have := h1_3.size; have := h4_0.size; have := h4_4.size; have := h4_5.size; omega
 have lb0_6 : w1_3.heap.size <= wl0.heap.size := by have := h4_0.size; have := h4_4.size; have := h4_5.size; omega
 have lb0_7 : w1_3.heap.size <= wl0.heap.size := by have := h4_0.size; have := h4_4.size; have := h4_5.size; omega
 have hal := accO_len hgm xs (costG xs a x).1 k
 have hol := oddsM_len hgm (xs.getD k noEdge) ((costG xs a x).1.getD k 0)
 refine WC.sr (W.run 1 rfl (W.nx (WC.seq ?_)))
 by_cases c1 : ((k : Nat) : Int) < ((n : Nat) : Int)
 ·refine WC.condY rfl (decide_eq_true c1) ?_
  refine WC.sn (WC.seq (WC.block (WC.sr (W.run 1 rfl ?_))))
  refine W.a (.idxS (k) underlying32 sz81 rfl rfl (hV.isSome edgeV_row (by omega)) (rfl) (by omega)) ?_
  refine W.r (.vload ag81 rfl (hV.le Ll0) edgeV_row (getS xs noEdge (by omega))) ?_
  refine W.ef rfl rfl rfl ?_
  refine Ef.allocA z81 ?_
  intro g7_3 w7_3 hg7_3 b7_3 h7_3
  have L13 := Ll0.trans h7_3
  have b7_3 : Blk w7_3 g7_3 81 (edgeV noEdge).toArray := b7_3
  refine W.run 1 rfl ?_
  refine W.ef0 rfl rfl ?_
  refine Ef.storeAll sz81 (by rfl) rfl rfl b7_3 (by simp only [List.size_toArray, edgeV_row.len]) (edgeV_row.one (xs.getD k noEdge)) ?_
  intro w7_5 b7_5 h7_5
  have b7_5 : Blk w7_5 g7_3 81 (edgeV (xs.getD k noEdge)).toArray := b7_5
  have L14 := L13.tb h7_5 Ll0 hg7_3
  refine W.nx (WC.seq ?_)
  refine WC.drawT (fun o => (app o [0, 1, 2, 3, 4, 5] (.br (app o [6, 7, 8, 9, 10, 11, 12] .nil) (app o [10, 6, 7, 8, 9, 11, 12] .nil)))) mixed (by kernel_rfl) ?_
  intro w8 d8
  have L15 := L14.trans d8
  refine GT.app ?_
  refine G.run 1 rfl ?_
  have f16 := (b7_5.le d8)
  refine G.r rfl (.loadAll ag81 (by rfl) rfl f16) ?_
  refine G.run 2 rfl ?_
  refine G.a rfl (.idxS (k) underlying23 sz3 rfl rfl (oa1_3.vec.isSome iv_row (by omega)) (rfl) (by omega)) ?_
  have f17 := (((f0_2.le h7_3).ch h7_5 (fun q hq => by cases hq; exact (fun he => by have := (f0_2.row he).2; omega))).le d8)
  refine G.r rfl (.vone (v := .int .i64 ((((costG xs a x).1).getD k 0))) na3 rfl f17.vec iv_row (getS ((costG xs a x).1) 0 (by first | omega | (simp only [List.length_cons, List.length_nil]; omega))) rfl) ?_
  refine G.nil ?_
  refine GT.br ?_ ?_
  ·refine GT.last ?_
   have f18 := (((f0_0.le h7_3).ch h7_5 (fun q hqq hF => by cases hqq; have := f0_0.lt hF;  have := hg7_3; omega)).le d8)
   refine G.ef rfl rfl rfl rfl rfl ?_
   refine Ef.call go44 rfl rfl (odds_mind (xs.getD k noEdge) (((costG xs a x).1).getD k 0) f18) ?_
   rintro _ w8_6 ⟨An8_6, cn8_6, Ad8_6, cd8_6, rfl, on8_6, od8_6, h8_6⟩
   refine ⟨_, rfl, ?_⟩
   refine ⟨fun _ => h8_6, ?_⟩
   have L19 := L15.trans h8_6
   refine G.run 1 rfl ?_
   refine G.a rfl (.extract (v := .agg #[.slice An8_6 ((digs ((oddsM m (xs.getD k noEdge) (((costG xs a x).1).getD k 0)).n)).length) cn8_6, .slice Ad8_6 ((digs ((oddsM m (xs.getD k noEdge) (((costG xs a x).1).getD k 0)).d)).length) cd8_6]) rfl rfl) ?_
   refine G.run 1 rfl ?_
   refine G.ef rfl rfl rfl rfl rfl ?_
   refine Ef.allocA z61 ?_
   intro g8_10 w8_10 hg8_10 b8_10 h8_10
   refine ⟨fun _ => h8_10, ?_⟩
   have L20 := L19.trans h8_10
   have b8_10 : Blk w8_10 g8_10 61 #[.slice none 0 0, .slice none 0 0] := b8_10
   refine G.ef0 rfl rfl rfl rfl ?_
   refine Ef.storeAll sz61 (by rfl) rfl rfl b8_10 (by rfl) (by simp [Value.oneCell']) ?_
   intro w8_11 b8_11 h8_11
   refine noT (by kernel_rfl) ?_
   have b8_11 : Blk w8_11 g8_10 61 #[.slice An8_6 ((digs ((oddsM m (xs.getD k noEdge) (((costG xs a x).1).getD k 0)).n)).length) cn8_6, .slice Ad8_6 ((digs ((oddsM m (xs.getD k noEdge) (((costG xs a x).1).getD k 0)).d)).length) cd8_6] := b8_11
   have L21 := L20.tb h8_11 L19 hg8_10
   refine G.run 1 rfl (G.nil (E.thenN (WC.region ?_)))
   have f22 := ((((f0_3.le h7_3).ch h7_5 (fun h => (show g7_3 ≠ g4_4 from by have := f0_3.lt; omega) (Option.some.inj h))).le (d8.trans (h8_6.trans h8_10))).ch h8_11 (fun h => (show g8_10 ≠ g4_4 from by have := f0_3.lt; have := h7_3.size; have := h7_5.size; have := d8.size; have := h8_6.size; omega) (Option.some.inj h)))
   refine W.r (.loadAll ag61 (by rfl) rfl f22) ?_
   refine W.r (.loadAll ag61 (by rfl) rfl b8_11) ?_
   have f23 := ((((f0_4.le h7_3).ch h7_5 (fun q hq => by cases hq; exact (fun he => by have := (f0_4.row he).2; omega))).le (d8.trans (h8_6.trans h8_10))).ch h8_11 (fun q hq => by cases hq; exact (fun he => by have := (f0_4.row he).2; have := h7_3.size; have := h7_5.size; have := d8.size; have := h8_6.size; omega)))
   have f24 := ((((f0_5.le h7_3).ch h7_5 (fun q hq => by cases hq; exact (fun he => by have := (f0_5.row he).2; omega))).le (d8.trans (h8_6.trans h8_10))).ch h8_11 (fun q hq => by cases hq; exact (fun he => by have := (f0_5.row he).2; have := h7_3.size; have := h7_5.size; have := d8.size; have := h8_6.size; omega)))
   have f25 := ((on8_6.le h8_10).ch h8_11 (fun q hq => by cases hq; exact (fun he => by have := (on8_6.row he).2; omega)))
   have f26 := ((od8_6.le h8_10).ch h8_11 (fun q hq => by cases hq; exact (fun he => by have := (od8_6.row he).2; omega)))
   refine W.cl go88 rfl rfl (frcmul_ok w8_11 f23.vec f24.vec (by omega) (by omega) f25.vec f26.vec (by omega) (by omega)) ?_
   rintro _ w9_2 ⟨An9_2, cn9_2, Ad9_2, cd9_2, rfl, on9_2, od9_2, h9_2⟩
   have L27 := L21.trans h9_2
   have f28 := (f22.le h9_2)
   refine W.sA sz61 rfl rfl f28 ?_
   intro w9_3 b9_3 h9_3
   have b9_3 : Blk w9_3 g4_4 61 #[.slice An9_2 ((digs ((mulF (takF (⟨((accO m xs (costG xs a x).1 k).n), ((accO m xs (costG xs a x).1 k).d)⟩ : Fr)) (takF (⟨((oddsM m (xs.getD k noEdge) (((costG xs a x).1).getD k 0)).n), ((oddsM m (xs.getD k noEdge) (((costG xs a x).1).getD k 0)).d)⟩ : Fr))).n)).length) cn9_2, .slice Ad9_2 ((digs ((mulF (takF (⟨((accO m xs (costG xs a x).1 k).n), ((accO m xs (costG xs a x).1 k).d)⟩ : Fr)) (takF (⟨((oddsM m (xs.getD k noEdge) (((costG xs a x).1).getD k 0)).n), ((oddsM m (xs.getD k noEdge) (((costG xs a x).1).getD k 0)).d)⟩ : Fr))).d)).length) cd9_2] := b9_3
   have L29 := L27.tb h9_3 L5 hg4_4
   refine W.nil (E.blkN (E.thenN (WC.region ?_)))
   refine W.a (.add rfl rfl (by omega)) ?_
   refine W.run 1 rfl (W.nil ?_)
   have f30 := ((((f18.le (h8_6.trans h8_10)).ch h8_11 (fun q hqq hF => by cases hqq; have := f18.lt hF; have := h8_6.size; have := hg8_10; omega)).le h9_2).ch h9_3 (fun q hqq hF => by cases hqq; have := hP.lt hF; have := h0_0.size; have := h1_3.size; have := h4_0.size; have := hg4_4; omega))
   have f31 := ((((((f0_1.le h7_3).ch h7_5 (fun h => (show g7_3 ≠ g0_0 from by have := f0_1.lt; omega) (Option.some.inj h))).le (d8.trans (h8_6.trans h8_10))).ch h8_11 (fun h => (show g8_10 ≠ g0_0 from by have := f0_1.lt; have := h7_3.size; have := h7_5.size; have := d8.size; have := h8_6.size; omega) (Option.some.inj h))).le h9_2).ch h9_3 (fun h => (show g4_4 ≠ g0_0 from by have := b0_0.lt; have := h1_3.size; have := h4_0.size; omega) (Option.some.inj h)))
   have f32 := ((((f17.le (h8_6.trans h8_10)).ch h8_11 (fun q hq => by cases hq; exact (fun he => by have := (f17.row he).2; have := h8_6.size; omega))).le h9_2).ch h9_3 (fun q hq => by cases hq; exact (fun he => by have := (oa1_3.row he).2; have := h4_0.size; omega)))
   have f33 := (on9_2.ch h9_3 (fun q hq => by cases hq; exact (fun he => by have := (on9_2.row he).1; have := f22.lt; omega)))
   have f34 := (od9_2.ch h9_3 (fun q hq => by cases hq; exact (fun he => by have := (od9_2.row he).1; have := f22.lt; omega)))
   refine E.again (k + 1, An9_2, cn9_2, Ad9_2, cd9_2) (.cons rfl (.cons rfl (.cons rfl (.cons rfl (.cons rfl (.cons rfl (.cons rfl (.nil _)))))))) ?_ ?_
   ·exact ⟨by omega, L29, by have := zl0; have := h7_3.size; have := h7_5.size; have := d8.size; have := h8_6.size; have := h8_10.size; have := h8_11.size; have := h9_2.size; have := h9_3.size; omega, f30, f31, f32, b9_3, (f33.mono (by have := h7_3.size; have := h7_5.size; have := d8.size; have := h8_6.size; have := h8_10.size; have := h8_11.size; omega)), (f34.mono (by have := h7_3.size; have := h7_5.size; have := d8.size; have := h8_6.size; have := h8_10.size; have := h8_11.size; omega))⟩
   first | omega | (simp only []; omega)
  refine GT.last ?_
  refine G.ef rfl rfl rfl rfl rfl ?_
  refine Ef.allocA z61 ?_
  intro g8_10_1 w8_10_1 hg8_10_1 b8_10_1 h8_10_1
  refine ⟨fun _ => h8_10_1, ?_⟩
  have L35 := L15.trans h8_10_1
  have b8_10_1 : Blk w8_10_1 g8_10_1 61 #[.slice none 0 0, .slice none 0 0] := b8_10_1
  have f36 := (((f0_0.le h7_3).ch h7_5 (fun q hqq hF => by cases hqq; have := f0_0.lt hF;  have := hg7_3; omega)).le (d8.trans h8_10_1))
  refine G.ef rfl rfl rfl rfl rfl ?_
  refine Ef.call go44 rfl rfl (odds_mind (xs.getD k noEdge) (((costG xs a x).1).getD k 0) f36) ?_
  rintro _ w8_6_1 ⟨An8_6_1, cn8_6_1, Ad8_6_1, cd8_6_1, rfl, on8_6_1, od8_6_1, h8_6_1⟩
  refine ⟨_, rfl, ?_⟩
  refine ⟨fun _ => h8_6_1, ?_⟩
  have L37 := L35.trans h8_6_1
  refine G.run 1 rfl ?_
  refine G.a rfl (.extract (v := .agg #[.slice An8_6_1 ((digs ((oddsM m (xs.getD k noEdge) (((costG xs a x).1).getD k 0)).n)).length) cn8_6_1, .slice Ad8_6_1 ((digs ((oddsM m (xs.getD k noEdge) (((costG xs a x).1).getD k 0)).d)).length) cd8_6_1]) rfl rfl) ?_
  refine G.run 1 rfl ?_
  have f38 := (b8_10_1.le h8_6_1)
  refine G.ef0 rfl rfl rfl rfl ?_
  refine Ef.storeAll sz61 (by rfl) rfl rfl f38 (by rfl) (by simp [Value.oneCell']) ?_
  intro w8_11_1 b8_11_1 h8_11_1
  refine noT (by kernel_rfl) ?_
  have b8_11_1 : Blk w8_11_1 g8_10_1 61 #[.slice An8_6_1 ((digs ((oddsM m (xs.getD k noEdge) (((costG xs a x).1).getD k 0)).n)).length) cn8_6_1, .slice Ad8_6_1 ((digs ((oddsM m (xs.getD k noEdge) (((costG xs a x).1).getD k 0)).d)).length) cd8_6_1] := b8_11_1
  have L39 := L37.tb h8_11_1 L15 hg8_10_1
  refine G.run 1 rfl (G.nil (E.thenN (WC.region ?_)))
  have f40 := ((((f0_3.le h7_3).ch h7_5 (fun h => (show g7_3 ≠ g4_4 from by have := f0_3.lt; omega) (Option.some.inj h))).le (d8.trans (h8_10_1.trans h8_6_1))).ch h8_11_1 (fun h => (show g8_10_1 ≠ g4_4 from by have := f0_3.lt; have := h7_3.size; have := h7_5.size; have := d8.size; omega) (Option.some.inj h)))
  refine W.r (.loadAll ag61 (by rfl) rfl f40) ?_
  refine W.r (.loadAll ag61 (by rfl) rfl b8_11_1) ?_
  have f41 := ((((f0_4.le h7_3).ch h7_5 (fun q hq => by cases hq; exact (fun he => by have := (f0_4.row he).2; omega))).le (d8.trans (h8_10_1.trans h8_6_1))).ch h8_11_1 (fun q hq => by cases hq; exact (fun he => by have := (f0_4.row he).2; have := h7_3.size; have := h7_5.size; have := d8.size; omega)))
  have f42 := ((((f0_5.le h7_3).ch h7_5 (fun q hq => by cases hq; exact (fun he => by have := (f0_5.row he).2; omega))).le (d8.trans (h8_10_1.trans h8_6_1))).ch h8_11_1 (fun q hq => by cases hq; exact (fun he => by have := (f0_5.row he).2; have := h7_3.size; have := h7_5.size; have := d8.size; omega)))
  have f43 := (on8_6_1.ch h8_11_1 (fun q hq => by cases hq; exact (fun he => by have := (on8_6_1.row he).1; have := b8_10_1.lt; omega)))
  have f44 := (od8_6_1.ch h8_11_1 (fun q hq => by cases hq; exact (fun he => by have := (od8_6_1.row he).1; have := b8_10_1.lt; omega)))
  refine W.cl go88 rfl rfl (frcmul_ok w8_11_1 f41.vec f42.vec (by omega) (by omega) f43.vec f44.vec (by omega) (by omega)) ?_
  rintro _ w9_2_1 ⟨An9_2_1, cn9_2_1, Ad9_2_1, cd9_2_1, rfl, on9_2_1, od9_2_1, h9_2_1⟩
  have L45 := L39.trans h9_2_1
  have f46 := (f40.le h9_2_1)
  refine W.sA sz61 rfl rfl f46 ?_
  intro w9_3_1 b9_3_1 h9_3_1
  have b9_3_1 : Blk w9_3_1 g4_4 61 #[.slice An9_2_1 ((digs ((mulF (takF (⟨((accO m xs (costG xs a x).1 k).n), ((accO m xs (costG xs a x).1 k).d)⟩ : Fr)) (takF (⟨((oddsM m (xs.getD k noEdge) (((costG xs a x).1).getD k 0)).n), ((oddsM m (xs.getD k noEdge) (((costG xs a x).1).getD k 0)).d)⟩ : Fr))).n)).length) cn9_2_1, .slice Ad9_2_1 ((digs ((mulF (takF (⟨((accO m xs (costG xs a x).1 k).n), ((accO m xs (costG xs a x).1 k).d)⟩ : Fr)) (takF (⟨((oddsM m (xs.getD k noEdge) (((costG xs a x).1).getD k 0)).n), ((oddsM m (xs.getD k noEdge) (((costG xs a x).1).getD k 0)).d)⟩ : Fr))).d)).length) cd9_2_1] := b9_3_1
  have L47 := L45.tb h9_3_1 L5 hg4_4
  refine W.nil (E.blkN (E.thenN (WC.region ?_)))
  refine W.a (.add rfl rfl (by omega)) ?_
  refine W.run 1 rfl (W.nil ?_)
  have f48 := ((((f36.le h8_6_1).ch h8_11_1 (fun q hqq hF => by cases hqq; have := f0_0.lt hF; have := h7_3.size; have := h7_5.size; have := d8.size; have := hg8_10_1; omega)).le h9_2_1).ch h9_3_1 (fun q hqq hF => by cases hqq; have := hP.lt hF; have := h0_0.size; have := h1_3.size; have := h4_0.size; have := hg4_4; omega))
  have f49 := ((((((f0_1.le h7_3).ch h7_5 (fun h => (show g7_3 ≠ g0_0 from by have := f0_1.lt; omega) (Option.some.inj h))).le (d8.trans (h8_10_1.trans h8_6_1))).ch h8_11_1 (fun h => (show g8_10_1 ≠ g0_0 from by have := f0_1.lt; have := h7_3.size; have := h7_5.size; have := d8.size; omega) (Option.some.inj h))).le h9_2_1).ch h9_3_1 (fun h => (show g4_4 ≠ g0_0 from by have := b0_0.lt; have := h1_3.size; have := h4_0.size; omega) (Option.some.inj h)))
  have f50 := ((((f17.le (h8_10_1.trans h8_6_1)).ch h8_11_1 (fun q hq => by cases hq; exact (fun he => by have := (f17.row he).2; omega))).le h9_2_1).ch h9_3_1 (fun q hq => by cases hq; exact (fun he => by have := (oa1_3.row he).2; have := h4_0.size; omega)))
  have f51 := (on9_2_1.ch h9_3_1 (fun q hq => by cases hq; exact (fun he => by have := (on9_2_1.row he).1; have := f40.lt; omega)))
  have f52 := (od9_2_1.ch h9_3_1 (fun q hq => by cases hq; exact (fun he => by have := (od9_2_1.row he).1; have := f40.lt; omega)))
  refine E.again (k + 1, An9_2_1, cn9_2_1, Ad9_2_1, cd9_2_1) (.cons rfl (.cons rfl (.cons rfl (.cons rfl (.cons rfl (.cons rfl (.cons rfl (.nil _)))))))) ?_ ?_
  ·exact ⟨by omega, L47, by have := zl0; have := h7_3.size; have := h7_5.size; have := d8.size; have := h8_10_1.size; have := h8_6_1.size; have := h8_11_1.size; have := h9_2_1.size; have := h9_3_1.size; omega, f48, f49, f50, b9_3_1, (f51.mono (by have := h7_3.size; have := h7_5.size; have := d8.size; have := h8_10_1.size; have := h8_6_1.size; have := h8_11_1.size; omega)), (f52.mono (by have := h7_3.size; have := h7_5.size; have := d8.size; have := h8_10_1.size; have := h8_6_1.size; have := h8_11_1.size; omega))⟩
  first | omega | (simp only []; omega)
 refine WC.condN rfl (decide_eq_false c1) ?_
 refine WC.exit (E.thenX (E.thenX (E.blkH (E.thenN (WC.seq ?_)))))
 refine WC.drawS (fun w11 w' => Le w w' /\ Blk w' g4_4 61 #[.slice Ax ((digs (accO m xs (costG xs a x).1 k).n).length) cx, .slice Ay ((digs (accO m xs (costG xs a x).1 k).d).length) cy] /\ OVec w' w1_3.heap.size 273 dv 1 Ax ((digs (accO m xs (costG xs a x).1 k).n).length) cx (digs (accO m xs (costG xs a x).1 k).n) /\ OVec w' w1_3.heap.size 273 dv 1 Ay ((digs (accO m xs (costG xs a x).1 k).d).length) cy (digs (accO m xs (costG xs a x).1 k).d) /\ OVec w' w0_0.heap.size 3 iv 1 Aa1_3 ((costG xs a x).1.length) ca1_3 ((costG xs a x).1)) [0, 1, 2, 3, 4, 5, 6] mixed (by kernel_rfl) ?_
 intro w11 d11
 have L53 := Ll0.trans d11
 have f54 := (f0_3.le d11)
 have f55 := (f0_4.le d11)
 have f56 := (f0_5.le d11)
 have f57 := (f0_2.le d11)
 refine ⟨⟨L53, f54, f55, f56, f57⟩, ?_⟩
 refine GS.rd rfl rfl (fun w' hs => .loadAll ag61 (by rfl) rfl hs.2.1) rfl rfl rfl ?_
 refine GS.any rfl rfl (.move rfl) rfl rfl rfl ?_
 refine GS.any rfl rfl (.idxS (0) underlying23 sz3 rfl rfl (oa1_3.vec.isSome iv_row (by omega)) (rfl) (by omega)) rfl rfl rfl ?_
 refine GS.rd rfl rfl (fun w' hs => .vone (v := .int .i64 ((((costG xs a x).1).getD 0 0))) na3 rfl hs.2.2.2.2.vec iv_row (getS ((costG xs a x).1) 0 (by first | omega | (simp only [List.length_cons, List.length_nil]; omega))) rfl) rfl rfl rfl ?_
 have f58 := (f0_1.le d11)
 refine GS.ef0 rfl rfl rfl rfl ?_
 refine Ef.storeAll sz61 (by rfl) rfl rfl f58 (by rfl) (by simp [Value.oneCell']) ?_
 intro w11_4 b11_4 h11_4
 have b11_4 : Blk w11_4 g0_0 61 #[.slice Ax ((digs (accO m xs (costG xs a x).1 k).n).length) cx, .slice Ay ((digs (accO m xs (costG xs a x).1 k).d).length) cy] := b11_4
 have L59 := L53.tb h11_4 L0 hg0_0
 have f60 := (f54.ch h11_4 (fun h => (show g0_0 ≠ g4_4 from by have := b0_0.lt; have := h1_3.size; have := h4_0.size; omega) (Option.some.inj h)))
 have f61 := (f55.ch h11_4 (fun q hq => by cases hq; exact (fun he => by have := (f55.row he).1; have := b0_0.lt; have := h1_3.size; omega)))
 have f62 := (f56.ch h11_4 (fun q hq => by cases hq; exact (fun he => by have := (f56.row he).1; have := b0_0.lt; have := h1_3.size; omega)))
 have f63 := (f57.ch h11_4 (fun q hq => by cases hq; exact (fun he => by have := (f57.row he).1; have := b0_0.lt; omega)))
 refine ⟨⟨L59, f60, f61, f62, f63⟩, ?_⟩
 refine GS.any rfl rfl (.assign rfl) rfl rfl rfl ?_
 refine GS.any rfl rfl (.assign rfl) rfl rfl rfl ?_
 refine GS.nil ?_
 refine E.thenN (WC.ret ?_)
 refine E.retG3 rfl (resA rfl b11_4 ag61 (by rfl)) rfl rfl ?_
 have hkn : k = n := (by omega)
 subst hkn
 have hod : oddsR m xs a x = (accO m xs (costG xs a x).1 xs.length, (costG xs a x).1.getD 0 0, 0) := if_pos (Decidable.not_not.1 (by assumption))
 rw [hod, hl]
 exact ⟨_, _, _, _, rfl, (f61.mono L2.size), (f62.mono L2.size), L59⟩

end Go.Proofs.YtocheaahlpiajaaGreatDoor

namespace Go.Proofs.YtocheaahlpiajaaGreatDoor
open Tryz
open Go Go.Sx Go.Num Go.Gsp Go.Nsp Go.Msp Go.Rtp
set_option maxRecDepth 20000
theorem rowsC_at {xs ys : List Gsp.Edge} {k : Nat} (h1 : k < xs.length) (h2 : k < ys.length) : rowsC (xs.drop k) (ys.drop k) = if cmpI (xs.getD k noEdge).c (ys.getD k noEdge).c ≠ 0 then cmpI (xs.getD k noEdge).c (ys.getD k noEdge).c else rowsC (xs.drop (k + 1)) (ys.drop (k + 1)) := by
  rw [List.drop_eq_getElem_cons h1, List.drop_eq_getElem_cons h2, rowsC]
  simp [List.getD, h1, h2]
theorem rowsC_long {xs ys : List Gsp.Edge} {k : Nat} (h1 : k < xs.length) (h2 : ys.length <= k) : rowsC (xs.drop k) (ys.drop k) = 1 := by
  rw [List.drop_eq_getElem_cons h1, List.drop_of_length_le h2, rowsC]
theorem rowsC_short {xs ys : List Gsp.Edge} {k : Nat} (h1 : xs.length <= k) (h2 : k < ys.length) : rowsC (xs.drop k) (ys.drop k) = -1 := by
  rw [List.drop_eq_getElem_cons h2, List.drop_of_length_le h1, rowsC]
theorem rowsC_even {xs ys : List Gsp.Edge} {k : Nat} (h1 : xs.length <= k) (h2 : ys.length <= k) : rowsC (xs.drop k) (ys.drop k) = 0 := by
  rw [List.drop_of_length_le h2, List.drop_of_length_le h1, rowsC]
theorem betc_ok (x y : Gsp.Edge) (w : World) : Calls prog 218 #[.agg (edgeV x).toArray, .agg (edgeV y).toArray] w fun r w' => r = .returned (.int .i64 (cmpI x.c y.c)) /\ Le w w' := by
 refine enter func218 rfl rfl ?_
 have L0 := Le.refl w
 refine WC.sr (W.ef rfl rfl rfl ?_)
 refine Ef.boxA rfl ?_
 intro g0_0 w0_0 hg0_0 b0_0 h0_0
 have L1 := L0.trans h0_0
 have b0_0 : Blk w0_0 g0_0 81 (edgeV x).toArray := b0_0
 refine W.ef rfl rfl rfl ?_
 refine Ef.boxA rfl ?_
 intro g0_1 w0_1 hg0_1 b0_1 h0_1
 have L2 := L1.trans h0_1
 have b0_1 : Blk w0_1 g0_1 81 (edgeV y).toArray := b0_1
 refine W.run 1 rfl (W.nx (WC.sr ?_))
 refine W.a (.field0 fa81_2 rfl) ?_
 have f3 := (b0_0.le h0_1)
 refine W.r (.loadB (v := .int .i64 (x.c)) na3 rfl f3 rfl) ?_
 refine W.a (.field0 fa81_2 rfl) ?_
 refine W.r (.loadB (v := .int .i64 (y.c)) na3 rfl b0_1 rfl) ?_
 refine W.cl go212 rfl rfl (comparei_ok x.c y.c w0_1) ?_
 rintro _ w1_4 ⟨rfl, h1_4⟩
 have L4 := L2.trans h1_4
 refine W.run 1 rfl (W.nx (WC.ret ?_))
 refine E.retG1 rfl rfl ?_
 exact ⟨rfl, L4⟩

theorem rtwithin_ok (n lo hi : Int) (w : World) : Calls prog 114 #[.int .i64 (n), .int .i64 (lo), .int .i64 (hi)] w fun r w' => r = .returned (.bool (inB n lo hi)) /\ Le w w' := by
 refine enter func114 rfl rfl ?_
 have L0 := Le.refl w
 refine WC.sr (W.run 1 rfl (W.nx (WC.sr (W.run 3 rfl ?_))))
 by_cases q1_3 : lo <= n
 ·refine W.dt q1_3 rfl rfl (W.run 5 rfl (W.nx (WC.ret ?_)))
  refine E.retG1 rfl rfl ?_
  exact ⟨rB (by simp [inB, q1_3]), L0⟩
 refine W.df q1_3 rfl rfl (W.run 5 rfl (W.nx (WC.ret ?_)))
 refine E.retG1 rfl rfl ?_
 exact ⟨rB (by simp [inB, q1_3]), L0⟩

theorem cmprows_ok {A A2 : Option Addr} {n c n2 c2 : Nat} {xs ys : List Gsp.Edge} (w : World) (hV : Vec w edgeV 9 A n xs) (hW : Vec w edgeV 9 A2 n2 ys) (hn : n <= 1000000) (hn2 : n2 <= 1000000) : Calls prog 217 #[.slice A n c, .slice A2 n2 c2, .func (.func 218) #[] #[]] w fun r w' => r = .returned (.int .i64 (rowsC xs ys)) /\ Le w w' := by
 have hl := hV.1; have hl2 := hW.1
 refine enter func217 rfl rfl ?_
 have L0 := Le.refl w
 refine WC.sr (W.run 1 rfl (W.nx (WC.seq (WC.sr (W.run 1 rfl ?_)))))
 refine W.r (.len underlying32 rfl) ?_
 refine W.run 1 rfl (W.nx (WC.block ?_))
 refine WC.loop (ι := Nat) (fun k => [(0, .slice A n c), (1, .slice A2 n2 c2), (2, .func (.func 218) #[] #[]), (11, .slice A n c), (12, .int .i64 (((n : Nat) : Int))), (13, .int .i64 (((k : Nat) : Int)))]) (fun k wl0 => (k <= n) /\ (k <= n2 \/ k <= n) /\ (rowsC xs ys = rowsC (xs.drop k) (ys.drop k)) /\ Le w wl0 /\ w.heap.size <= wl0.heap.size) (fun k => n - k) 0 ?_ ?_ ?_
 ·exact .cons rfl (.cons rfl (.cons rfl (.cons rfl (.cons rfl (.cons rfl (.nil _))))))
 ·exact ⟨Nat.zero_le _, Or.inl (Nat.zero_le _), rfl, L0, Nat.le_refl _⟩
 rintro k wl0 ⟨hk, hk2, hrc, Ll0, zl0⟩
 refine WC.sr (W.run 1 rfl (W.nx (WC.seq ?_)))
 by_cases c0 : ((k : Nat) : Int) < ((n : Nat) : Int)
 ·refine WC.condY rfl (decide_eq_true c0) ?_
  refine WC.sn (WC.seq (WC.block (WC.sr (W.run 1 rfl ?_))))
  refine W.a (.idxS (k) underlying32 sz81 rfl rfl (hV.isSome edgeV_row (by omega)) (rfl) (by omega)) ?_
  refine W.r (.vload ag81 rfl (hV.le Ll0) edgeV_row (getS xs noEdge (by omega))) ?_
  refine W.ef rfl rfl rfl ?_
  refine Ef.allocA z81 ?_
  intro g3_3 w3_3 hg3_3 b3_3 h3_3
  have L1 := Ll0.trans h3_3
  have b3_3 : Blk w3_3 g3_3 81 (edgeV noEdge).toArray := b3_3
  refine W.run 1 rfl ?_
  refine W.ef0 rfl rfl ?_
  refine Ef.storeAll sz81 (by rfl) rfl rfl b3_3 (by simp only [List.size_toArray, edgeV_row.len]) (edgeV_row.one (xs.getD k noEdge)) ?_
  intro w3_5 b3_5 h3_5
  have b3_5 : Blk w3_5 g3_3 81 (edgeV (xs.getD k noEdge)).toArray := b3_5
  have L2 := L1.tb h3_5 Ll0 hg3_3
  refine W.nx (WC.seq (WC.sr (W.run 2 rfl ?_)))
  refine W.r (.len underlying32 rfl) ?_
  refine W.run 1 rfl (W.nx ?_)
  by_cases c1 : ((n2 : Nat) : Int) <= ((k : Nat) : Int)
  ·refine WC.condY rfl (decide_eq_true c1) ?_
   refine WC.sr (W.run 1 rfl (W.nx (WC.ret (E.thenR (E.blkR (E.thenR (E.thenR (E.blkR (E.thenR ?_)))))))))
   refine E.retG1 rfl rfl ?_
   exact ⟨congrArg (fun v => Ending.returned (Value.int .i64 v)) (hrc.trans (rowsC_long (by omega) (by omega))).symm, L2⟩
  refine WC.condN rfl (decide_eq_false c1) ?_
  refine WC.sn (WC.sr (W.run 2 rfl ?_))
  refine W.a (.idxS (k) underlying32 sz81 rfl rfl (hW.isSome edgeV_row (by omega)) (rfl) (by omega)) ?_
  refine W.r (.vload ag81 rfl (hW.le L2) edgeV_row (getS ys noEdge (by omega))) ?_
  refine W.ef rfl rfl rfl ?_
  refine Ef.allocA z81 ?_
  intro g6_4 w6_4 hg6_4 b6_4 h6_4
  have L3 := L2.trans h6_4
  have b6_4 : Blk w6_4 g6_4 81 (edgeV noEdge).toArray := b6_4
  refine W.ef0 rfl rfl ?_
  refine Ef.storeAll sz81 (by rfl) rfl rfl b6_4 (by simp only [List.size_toArray, edgeV_row.len]) (edgeV_row.one (ys.getD k noEdge)) ?_
  intro w6_5 b6_5 h6_5
  have b6_5 : Blk w6_5 g6_4 81 (edgeV (ys.getD k noEdge)).toArray := b6_5
  have L4 := L3.tb h6_5 L2 hg6_4
  refine W.nx (WC.sr (W.run 1 rfl ?_))
  have f5 := ((b3_5.le h6_4).ch h6_5 (fun h => (show g6_4 ≠ g3_3 from by have := b3_5.lt; omega) (Option.some.inj h)))
  refine W.r (.loadAll ag81 (by rfl) rfl f5) ?_
  refine W.r (.loadAll ag81 (by rfl) rfl b6_5) ?_
  refine W.cl go218 rfl rfl (betc_ok (xs.getD k noEdge) (ys.getD k noEdge) w6_5) ?_
  rintro _ w7_3 ⟨rfl, h7_3⟩
  have L6 := L4.trans h7_3
  refine W.run 1 rfl (W.nx (WC.sr (W.run 2 rfl (W.nx ?_))))
  by_cases c2 : (cmpI (xs.getD k noEdge).c (ys.getD k noEdge).c) ≠ 0
  ·refine WC.condY rfl (decide_eq_true c2) ?_
   refine WC.sr (W.run 2 rfl (W.nx (WC.ret (E.blkR (E.thenR (E.thenR (E.blkR (E.thenR ?_))))))))
   refine E.retG1 rfl rfl ?_
   exact ⟨congrArg (fun v => Ending.returned (Value.int .i64 v)) (hrc.trans (by rw [rowsC_at (by omega) (by omega), if_pos (by assumption)])).symm, L6⟩
  refine WC.condN rfl (decide_eq_false c2) ?_
  refine WC.skip (E.blkN (E.thenN (WC.region ?_)))
  refine W.a (.add rfl rfl (by omega)) ?_
  refine W.run 1 rfl (W.nil ?_)
  refine E.again (k + 1) (.cons rfl (.cons rfl (.cons rfl (.cons rfl (.cons rfl (.cons rfl (.nil _))))))) ?_ ?_
  ·exact ⟨by omega, by omega, by rw [hrc, rowsC_at (by omega) (by omega), if_neg (by assumption)], L6, by have := zl0; have := h3_3.size; have := h3_5.size; have := h6_4.size; have := h6_5.size; have := h7_3.size; omega⟩
  first | omega | (simp only []; omega)
 refine WC.condN rfl (decide_eq_false c0) ?_
 refine WC.exit (E.thenX (E.thenX (E.blkH (E.thenN (WC.seq (WC.sr (W.run 1 rfl ?_)))))))
 refine W.r (.len underlying32 rfl) ?_
 refine W.run 1 rfl ?_
 refine W.r (.len underlying32 rfl) ?_
 refine W.run 1 rfl (W.nx ?_)
 by_cases c3 : ((n : Nat) : Int) < ((n2 : Nat) : Int)
 ·refine WC.condY rfl (decide_eq_true c3) ?_
  refine WC.sr (W.run 1 rfl (W.nx (WC.ret (E.thenR ?_))))
  refine E.retG1 rfl rfl ?_
  exact ⟨congrArg (fun v => Ending.returned (Value.int .i64 v)) (hrc.trans (rowsC_short (by omega) (by omega))).symm, Ll0⟩
 refine WC.condN rfl (decide_eq_false c3) ?_
 refine WC.sn (WC.sr (W.run 1 rfl (W.nx (WC.ret ?_))))
 refine E.retG1 rfl rfl ?_
 exact ⟨congrArg (fun v => Ending.returned (Value.int .i64 v)) (hrc.trans (rowsC_even (by omega) (by omega))).symm, Ll0⟩

theorem better_ok {Aw1 An1 Ad1 : Option Addr} {nw1 cw1 nn1 cn1 nd1 cd1 p1 q1 : Nat} {ws1 : List Gsp.Edge} {s1 : Int} {Aw2 An2 Ad2 : Option Addr} {nw2 cw2 nn2 cn2 nd2 cd2 p2 q2 : Nat} {ws2 : List Gsp.Edge} {s2 : Int} (w : World) (hw1 : Vec w edgeV 9 Aw1 nw1 ws1) (hn1 : Vec w dv 1 An1 nn1 (digs p1)) (hd1 : Vec w dv 1 Ad1 nd1 (digs q1)) (bw1 : nw1 <= 10000) (bn1 : nn1 <= 10000) (bd1 : nd1 <= 10000) (hw2 : Vec w edgeV 9 Aw2 nw2 ws2) (hn2 : Vec w dv 1 An2 nn2 (digs p2)) (hd2 : Vec w dv 1 Ad2 nd2 (digs q2)) (bw2 : nw2 <= 10000) (bn2 : nn2 <= 10000) (bd2 : nd2 <= 10000) : Calls prog 117 #[.agg #[.slice Aw1 nw1 cw1, .slice An1 nn1 cn1, .slice Ad1 nd1 cd1, .int .i64 (s1)], .agg #[.slice Aw2 nw2 cw2, .slice An2 nn2 cn2, .slice Ad2 nd2 cd2, .int .i64 (s2)]] w fun r w' => r = .returned (.bool (betterR (⟨ws1, ⟨p1, q1⟩, s1⟩ : Fnd) (⟨ws2, ⟨p2, q2⟩, s2⟩ : Fnd))) /\ Le w w' := by
 have hlw1 := hw1.1; have hln1 := hn1.1; have hld1 := hd1.1
 have hlw2 := hw2.1; have hln2 := hn2.1; have hld2 := hd2.1
 refine enter func117 rfl rfl ?_
 have L0 := Le.refl w
 refine WC.sr (W.ef rfl rfl rfl ?_)
 refine Ef.boxA rfl ?_
 intro g0_0 w0_0 hg0_0 b0_0 h0_0
 have L1 := L0.trans h0_0
 have b0_0 : Blk w0_0 g0_0 190 #[.slice Aw1 nw1 cw1, .slice An1 nn1 cn1, .slice Ad1 nd1 cd1, .int .i64 (s1)] := b0_0
 refine W.ef rfl rfl rfl ?_
 refine Ef.boxA rfl ?_
 intro g0_1 w0_1 hg0_1 b0_1 h0_1
 have L2 := L1.trans h0_1
 have b0_1 : Blk w0_1 g0_1 190 #[.slice Aw2 nw2 cw2, .slice An2 nn2 cn2, .slice Ad2 nd2 cd2, .int .i64 (s2)] := b0_1
 refine W.run 1 rfl (W.nx (WC.sr ?_))
 refine W.a (.field0 fa190_0 rfl) ?_
 have f3 := (b0_0.le h0_1)
 refine W.r (.loadB (v := .slice Aw1 nw1 cw1) na32 rfl f3 rfl) ?_
 refine W.a (.field0 fa190_0 rfl) ?_
 refine W.r (.loadB (v := .slice Aw2 nw2 cw2) na32 rfl b0_1 rfl) ?_
 refine W.cl go217 rfl rfl (cmprows_ok w0_1 (hw1.le L2) (hw2.le L2) (by omega) (by omega)) ?_
 rintro _ w1_4 ⟨rfl, h1_4⟩
 have L4 := L2.trans h1_4
 refine W.run 1 rfl (W.nx (WC.seq ?_))
 refine WC.draw [0, 1, 2, 3, 5, 6, 7, 8, 10, 4, 9, 11, 12, 13, 14] mixed (by kernel_rfl) ?_
 intro w2 d2
 have L5 := L4.trans d2
 refine G.a rfl (.field0 fa190_1 rfl) ?_
 have f6 := (b0_1.le (h1_4.trans d2))
 refine G.r rfl (.bpart [.slice An2 nn2 cn2, .slice Ad2 nd2 cd2] ag61 rfl (by decide) rfl f6 rfl) ?_
 refine G.a rfl (.field0 fa190_1 rfl) ?_
 have f7 := (f3.le (h1_4.trans d2))
 refine G.r rfl (.bpart [.slice An1 nn1 cn1, .slice Ad1 nd1 cd1] ag61 rfl (by decide) rfl f7 rfl) ?_
 refine G.a rfl (.field0 fa190_2 rfl) ?_
 refine G.r rfl (.loadB (v := .int .i64 (s1)) na3 rfl f7 rfl) ?_
 refine G.a rfl (.field0 fa190_2 rfl) ?_
 refine G.r rfl (.loadB (v := .int .i64 (s2)) na3 rfl f6 rfl) ?_
 refine G.run 1 rfl ?_
 refine G.ef rfl rfl rfl rfl rfl ?_
 refine Ef.call go41 rfl rfl (fcmp_ok w2 (hn2.le L5) (hd2.le L5) (by omega) (by omega) (hn1.le L5) (hd1.le L5) (by omega) (by omega)) ?_
 rintro _ w2_4 ⟨rfl, h2_4⟩
 refine ⟨_, rfl, ?_⟩
 refine ⟨fun _ => h2_4, ?_⟩
 have L8 := L5.trans h2_4
 refine G.ef rfl rfl rfl rfl rfl ?_
 refine Ef.call go212 rfl rfl (comparei_ok s1 s2 w2_4) ?_
 rintro _ w2_9 ⟨rfl, h2_9⟩
 refine ⟨_, rfl, ?_⟩
 refine ⟨fun _ => h2_9, ?_⟩
 have L9 := L8.trans h2_9
 refine G.ef rfl rfl rfl rfl rfl ?_
 refine Ef.buildSliceV (len := 3) [_, _, _] underlying23 el3 rfl (by simp [Value.cells]) rfl (by decide) (by decide) ?_
 intro g2_11 w2_11 hg2_11 b2_11 h2_11
 refine ⟨fun _ => h2_11, ?_⟩
 have L10 := L9.trans h2_11
 have b2_11 : Blk w2_11 g2_11 3 (([(cmpF (takF (⟨p2, q2⟩ : Fr)) (takF (⟨p1, q1⟩ : Fr))), (cmpZ s1 s2), (rowsC ws1 ws2)]).map iv).flatten.toArray := b2_11
 have o2_11 : OVec w2_11 w2_9.heap.size 3 iv 1 (some ⟨g2_11, 0, none⟩) 3 3 ([(cmpF (takF (⟨p2, q2⟩ : Fr)) (takF (⟨p1, q1⟩ : Fr))), (cmpZ s1 s2), (rowsC ws1 ws2)]) := b2_11.ovec hg2_11 iv_row rfl rfl (by decide)
 refine G.ef rfl rfl rfl rfl rfl ?_
 refine Ef.call go219 rfl rfl (or2_ok w2_11 o2_11.vec (by decide)) ?_
 rintro _ w2_12 ⟨rfl, h2_12⟩
 refine ⟨_, rfl, ?_⟩
 refine ⟨fun _ => h2_12, ?_⟩
 have L11 := L10.trans h2_12
 refine G.run 2 rfl (G.nil (E.thenN (WC.ret ?_)))
 refine E.retG1 rfl rfl ?_
 exact ⟨rfl, L11⟩
end Go.Proofs.YtocheaahlpiajaaGreatDoor

namespace Go.Rtp
open Go.Gsp Go.Nsp Go.Msp Go.Proofs.YtocheaahlpiajaaGreatDoor
structure TP {α : Type} (c : α -> α -> Int) : Prop where
  anti : ∀ x y, c y x = -(c x y)
  trans : ∀ x y z, c x y <= 0 -> c y z <= 0 -> c x z <= 0
theorem TP.refl {α : Type} {c : α -> α -> Int} (h : TP c) (x : α) : c x x = 0 := by have := h.anti x x; omega
theorem TP.lex {α : Type} {c d : α -> α -> Int} (h : TP c) (k : TP d) : TP (fun x y => if c x y ≠ 0 then c x y else d x y) := by
  refine ⟨fun x y => ?_, fun x y z h1 h2 => ?_⟩
  · have := h.anti x y
    have := k.anti x y
    split <;> split <;> omega
  · have a1 := h.trans x y z
    have a2 := h.trans y z x
    have a3 := h.trans z x y
    have b1 := h.anti x y
    have b2 := h.anti y z
    have b3 := h.anti x z
    have := k.trans x y z
    split at h1 <;> split at h2 <;> split <;> omega
theorem TP.comap {α β : Type} {c : β -> β -> Int} (h : TP c) (f : α -> β) : TP (fun x y => c (f x) (f y)) := ⟨fun _ _ => h.anti _ _, fun _ _ _ => h.trans _ _ _⟩
theorem TP.flip {α : Type} {c : α -> α -> Int} (h : TP c) : TP (fun x y => c y x) := ⟨fun _ _ => h.anti _ _, fun x y z h1 h2 => h.trans z y x h2 h1⟩
theorem TP.cmpI : TP cmpI := ⟨fun x y => by unfold Gsp.cmpI; repeat' split
                                            all_goals omega, fun x y z => by unfold Gsp.cmpI; repeat' split
                                                                             all_goals omega⟩
theorem cmpF_anti (a b : Fr) : cmpF b a = -(cmpF a b) := by
  unfold cmpF cmpN
  repeat' split
  all_goals omega
theorem cmpF_le {a b : Fr} : cmpF a b <= 0 ↔ leF a b := by
  have h1 := cmpF_pos (a := a) (b := b)
  have h2 := ltF_not (a := b) (b := a)
  constructor
  · intro h; exact Decidable.not_not.1 (fun hh => by have := h1.2 (h2.2 hh); omega)
  · intro h; exact Int.not_lt.1 (fun hh => h2.1 (h1.1 hh) h)
theorem TP.cmpF : TP (fun x y : Fr => cmpF (takF x) (takF y)) :=
  ⟨fun x y => cmpF_anti _ _, fun x y z h1 h2 => cmpF_le.2 (leF_trans (takF_ok y).1 (cmpF_le.1 h1) (cmpF_le.1 h2))⟩
theorem rowsC_anti : ∀ xs ys : List Gsp.Edge, rowsC ys xs = -(rowsC xs ys)
  | [], [] => rfl
  | [], _ :: _ => rfl
  | _ :: _, [] => rfl
  | x :: xs, y :: ys => by
    have h1 := TP.cmpI.anti x.c y.c
    have h2 := rowsC_anti xs ys
    unfold rowsC
    split <;> split <;> omega
theorem rowsC_trans : ∀ xs ys zs : List Gsp.Edge, rowsC xs ys <= 0 -> rowsC ys zs <= 0 -> rowsC xs zs <= 0
  | [], _, [], _, _ => Int.le_refl _
  | [], _, _ :: _, _, _ => (by decide : (-1 : Int) <= 0)
  | x :: xs, [], _, h, _ => absurd h (by show ¬ (1 : Int) <= 0; decide)
  | x :: xs, y :: ys, [], _, h => absurd h (by show ¬ (1 : Int) <= 0; decide)
  | x :: xs, y :: ys, z :: zs, h, k => by
    unfold rowsC at h k ⊢
    have a1 := TP.cmpI.trans x.c y.c z.c
    have a2 := TP.cmpI.trans y.c z.c x.c
    have a3 := TP.cmpI.trans z.c x.c y.c
    have b1 := TP.cmpI.anti x.c y.c
    have b2 := TP.cmpI.anti y.c z.c
    have b3 := TP.cmpI.anti x.c z.c
    have := rowsC_trans xs ys zs
    split at h <;> split at k <;> split <;> omega
theorem TP.rowsC : TP rowsC := ⟨rowsC_anti, rowsC_trans⟩
def ordB (u v : Fnd) : Int := orL [cmpF (takF v.odds) (takF u.odds), cmpI u.sent v.sent, rowsC u.way v.way]
theorem TP.ordB : TP ordB := by
  have h := (TP.cmpF.flip.comap Fnd.odds).lex ((TP.cmpI.comap Fnd.sent).lex (TP.rowsC.comap Fnd.way))
  refine ⟨fun x y => ?_, fun x y z h1 h2 => ?_⟩
  · have := h.anti x y
    unfold Rtp.ordB
    simp only [orL]
    repeat' split
    all_goals (repeat' split at this)
    all_goals omega
  · have := h.trans x y z
    unfold Rtp.ordB at *
    simp only [orL] at *
    have e : ∀ a b c : Int, (if a ≠ 0 then a else if b ≠ 0 then b else if c ≠ 0 then c else 0) = (if a ≠ 0 then a else if b ≠ 0 then b else c) := by
      intro a b c; repeat' split
      all_goals omega
    rw [e] at *
    exact this h1 h2
theorem better_iff {u v : Fnd} : betterR u v = true ↔ ordB u v < 0 := decide_eq_true_iff
def aN (m : MF) (xs : List Gsp.Edge) (s : List Int) : Nat -> Nat
  | 0 => 1
  | k + 1 => aN m xs s k * (takF (oddsM m (xs.getD k noEdge) (s.getD k 0))).n
def aD (m : MF) (xs : List Gsp.Edge) (s : List Int) : Nat -> Nat
  | 0 => 1
  | k + 1 => aD m xs s k * (takF (oddsM m (xs.getD k noEdge) (s.getD k 0))).d
theorem aD_pos (m : MF) (xs : List Gsp.Edge) (s : List Int) : ∀ k, 0 < aD m xs s k
  | 0 => Nat.one_pos
  | k + 1 => Nat.mul_pos (aD_pos m xs s k) (takF_ok _).1
theorem mul_low {a b : Nat} {o : Fr} (hb : 0 < b) (ho : okF o) : mulF (lowF a b) o = lowF (a * o.n) (b * o.d) := by
  have h1 := mul_eq (lowF a b) o
  have h2 := low_eq (n := a) (d := b)
  have hx := okF_low (n := a) hb
  have hM := okF_mul hx ho
  refine eq_of_cross hM (okF_low (Nat.mul_pos hb ho.1)) (cross_trans (n := a * o.n) (d := b * o.d) (Nat.mul_pos hb ho.1) ?_ low_eq)
  generalize mulF (lowF a b) o = M at *
  generalize lowF a b = x at *
  refine Nat.eq_of_mul_eq_mul_right hx.1 ?_
  calc M.n * (b * o.d) * x.d = M.n * (x.d * o.d) * b := by simp only [Nat.mul_assoc, Nat.mul_comm, Nat.mul_left_comm]
    _ = x.n * o.n * M.d * b := by rw [h1]
    _ = x.n * b * (o.n * M.d) := by simp only [Nat.mul_assoc, Nat.mul_comm, Nat.mul_left_comm]
    _ = a * x.d * (o.n * M.d) := by rw [h2]
    _ = a * o.n * M.d * x.d := by simp only [Nat.mul_assoc, Nat.mul_comm, Nat.mul_left_comm]
theorem accO_pr (m : MF) (xs : List Gsp.Edge) (s : List Int) : ∀ k, accO m xs s k = lowF (aN m xs s k) (aD m xs s k)
  | 0 => rfl
  | k + 1 => by
    show mulF (takF (accO m xs s k)) _ = _
    rw [takF_id (accO_ok m xs s k), accO_pr m xs s k, mul_low (aD_pos m xs s k) (takF_ok _)]
    rfl
theorem le_low {a b c d : Nat} (hb : 0 < b) (hd : 0 < d) : leF (lowF a b) (lowF c d) ↔ a * d <= c * b := by
  have h1 := low_eq (n := a) (d := b)
  have h2 := low_eq (n := c) (d := d)
  have p1 := (okF_low (n := a) hb).1
  have p2 := (okF_low (n := c) hd).1
  unfold leF
  generalize lowF a b = x at *
  generalize lowF c d = y at *
  have e1 : x.n * y.d * (b * d) = a * d * (x.d * y.d) := by
    calc x.n * y.d * (b * d) = x.n * b * (d * y.d) := by simp only [Nat.mul_assoc, Nat.mul_comm, Nat.mul_left_comm]
      _ = a * x.d * (d * y.d) := by rw [h1]
      _ = a * d * (x.d * y.d) := by simp only [Nat.mul_assoc, Nat.mul_comm, Nat.mul_left_comm]
  have e2 : y.n * x.d * (b * d) = c * b * (x.d * y.d) := by
    calc y.n * x.d * (b * d) = y.n * d * (b * x.d) := by simp only [Nat.mul_assoc, Nat.mul_comm, Nat.mul_left_comm]
      _ = c * y.d * (b * x.d) := by rw [h2]
      _ = c * b * (x.d * y.d) := by simp only [Nat.mul_assoc, Nat.mul_comm, Nat.mul_left_comm]
  constructor
  · intro h
    refine Nat.le_of_mul_le_mul_right (c := x.d * y.d) ?_ (Nat.mul_pos p1 p2)
    rw [<- e1, <- e2]
    exact Nat.mul_le_mul_right _ h
  · intro h
    refine Nat.le_of_mul_le_mul_right (c := b * d) ?_ (Nat.mul_pos hb hd)
    rw [e1, e2]
    exact Nat.mul_le_mul_right _ h
theorem getDI_drop (s : List Int) (k i : Nat) : (s.drop k).getD i 0 = s.getD (k + i) 0 := by simp [List.getD, List.getElem?_drop]
theorem aN_drop (m : MF) (xs : List Gsp.Edge) (s : List Int) (j : Nat) : ∀ k, aN m xs s (j + k) = aN m xs s j * aN m (xs.drop j) (s.drop j) k
  | 0 => by show _ = _ * 1; rw [Nat.mul_one]; rfl
  | k + 1 => by
    show aN m xs s (j + k) * _ = _ * (aN m (xs.drop j) (s.drop j) k * _)
    rw [aN_drop m xs s j k, getD_drop', getDI_drop, Nat.mul_assoc]
    rfl
theorem aD_drop (m : MF) (xs : List Gsp.Edge) (s : List Int) (j : Nat) : ∀ k, aD m xs s (j + k) = aD m xs s j * aD m (xs.drop j) (s.drop j) k
  | 0 => by show _ = _ * 1; rw [Nat.mul_one]; rfl
  | k + 1 => by
    show aD m xs s (j + k) * _ = _ * (aD m (xs.drop j) (s.drop j) k * _)
    rw [aD_drop m xs s j k, getD_drop', getDI_drop, Nat.mul_assoc]
    rfl
theorem lowF_unit {n d : Nat} (h : n <= d) : (lowF n d).n <= (lowF n d).d := Nat.div_le_div_right h
theorem odds_unit {m : MF} (hm : GoodM m) (e : Gsp.Edge) (a : Int) : (takF (oddsM m e a)).n <= (takF (oddsM m e a)).d := by
  unfold takF
  split
  · unfold oddsM
    split
    · rename_i h
      simp only [goesM, Bool.and_eq_true, decide_eq_true_eq] at h
      have hb := bndM_ok hm h.1.1
      refine lowF_unit ?_
      unfold oddN oddD
      omega
    · exact Nat.le_refl _
  · exact Nat.zero_le _
theorem a_unit {m : MF} (hm : GoodM m) (xs : List Gsp.Edge) (s : List Int) : ∀ k, aN m xs s k <= aD m xs s k
  | 0 => Nat.le_refl _
  | k + 1 => Nat.mul_le_mul (a_unit hm xs s k) (odds_unit hm _ _)
theorem oddsR_eq {m : MF} {xs : List Gsp.Edge} {a x : Int} (h : (oddsR m xs a x).2.2 = 0) : (costG xs a x).2.2 = 0 /\ oddsR m xs a x = (lowF (aN m xs (costG xs a x).1 xs.length) (aD m xs (costG xs a x).1 xs.length), (costG xs a x).1.getD 0 0, 0) := by
  by_cases hc : (costG xs a x).2.2 = 0
  · exact ⟨hc, by unfold oddsR; rw [if_pos hc, accO_pr]⟩
  · unfold oddsR at h
    rw [if_neg hc] at h
    exact absurd h hc
theorem oddsR_of {m : MF} {xs : List Gsp.Edge} {a x : Int} (h : (costG xs a x).2.2 = 0) : oddsR m xs a x = (lowF (aN m xs (costG xs a x).1 xs.length) (aD m xs (costG xs a x).1 xs.length), (costG xs a x).1.getD 0 0, 0) := by
  unfold oddsR; rw [if_pos h, accO_pr]
theorem oddsR_err {m : MF} {xs : List Gsp.Edge} {a x : Int} : (oddsR m xs a x).2.2 = (costG xs a x).2.2 := by
  unfold oddsR
  split
  · rename_i h; exact h.symm
  · rfl
theorem oddsR_ok {m : MF} {xs : List Gsp.Edge} {a x : Int} (h : (oddsR m xs a x).2.2 = 0) : okF (oddsR m xs a x).1 := by
  rw [(oddsR_eq h).2]; exact okF_low (aD_pos _ _ _ _)
theorem oddsR_drop {m : MF} (hm : GoodM m) {xs : List Gsp.Edge} {a x : Int} (h : (oddsR m xs a x).2.2 = 0) {j : Nat} (hj : j < xs.length) :
    (oddsR m (xs.drop j) a x).2.2 = 0 /\ leF (oddsR m xs a x).1 (oddsR m (xs.drop j) a x).1 := by
  obtain ⟨hc, he⟩ := oddsR_eq h
  have hd := costG_drop hc hj
  have hd0 : (costG (xs.drop j) a x).2.2 = 0 := by rw [hd]
  refine ⟨by rw [oddsR_err, hd0], ?_⟩
  rw [he, oddsR_of hd0, hd]
  simp only
  rw [le_low (aD_pos _ _ _ _) (aD_pos _ _ _ _), List.length_drop]
  have e1 := aN_drop m xs (costG xs a x).1 j (xs.length - j)
  have e2 := aD_drop m xs (costG xs a x).1 j (xs.length - j)
  rw [show j + (xs.length - j) = xs.length by omega] at e1 e2
  rw [e1, e2]
  have hu := a_unit hm xs (costG xs a x).1 j
  generalize aN m (xs.drop j) _ _ = p
  generalize aD m (xs.drop j) _ _ = q
  calc aN m xs (costG xs a x).1 j * p * q = aN m xs (costG xs a x).1 j * (p * q) := Nat.mul_assoc _ _ _
    _ <= aD m xs (costG xs a x).1 j * (p * q) := Nat.mul_le_mul_right _ hu
    _ = p * (aD m xs (costG xs a x).1 j * q) := by simp only [Nat.mul_assoc, Nat.mul_comm, Nat.mul_left_comm]
theorem leF_pos {a b : Fr} (hb : okF b) (h : leF a b) (hn : a.n ≠ 0) : b.n ≠ 0 := by
  intro h0
  unfold leF at h
  rw [h0, Nat.zero_mul] at h
  rcases Nat.mul_eq_zero.1 (Nat.le_zero.1 h) with k | k
  · exact hn k
  · exact absurd k (Nat.pos_iff_ne_zero.1 hb.1)
structure Cand (g : List Gsp.Edge) (m : MF) (fr to a x : Int) (w : List Gsp.Edge) : Prop where
  ne : w ≠ []
  sub : ∀ e ∈ w, e ∈ g
  fst : (w.getD 0 noEdge).f = fr
  lst : (w.getD (w.length - 1) noEdge).t = to
  ok : (oddsR m w a x).2.2 = 0
  pos : (oddsR m w a x).1.n ≠ 0
def fo (m : MF) (a x : Int) (w : List Gsp.Edge) : Fnd := fndR w (oddsR m w a x)
variable {g : List Gsp.Edge} {m : MF} {fr to a x : Int}
def BG (g : List Gsp.Edge) (m : MF) (fr to a x : Int) (b : Fnd) : Prop := b.way = [] \/ (Cand g m fr to a x b.way /\ b = fo m a x b.way)
def Geq (b c : Fnd) : Prop := b.way ≠ [] /\ ordB b c <= 0
theorem Geq.trans {b c d : Fnd} (h : Geq b c) (k : ordB c d <= 0) : Geq b d := ⟨h.1, TP.ordB.trans _ _ _ h.2 k⟩
structure Spec (g : List Gsp.Edge) (m : MF) (fr to a x : Int) (W : List Gsp.Edge -> Prop) (b b' : Fnd) : Prop where
  good : BG g m fr to a x b'
  up : b.way ≠ [] -> Geq b' b
  all : ∀ w, Cand g m fr to a x w -> W w -> Geq b' (fo m a x w)
theorem Spec.same {W : List Gsp.Edge -> Prop} {b : Fnd} (hb : BG g m fr to a x b) (h : ∀ w, Cand g m fr to a x w -> W w -> Geq b (fo m a x w)) : Spec g m fr to a x W b b := ⟨hb, fun h => ⟨h, Int.le_of_eq (TP.ordB.refl b)⟩, h⟩
theorem Spec.fold {α : Type} {f : Fnd -> α -> Fnd} {W : α -> List Gsp.Edge -> Prop} : ∀ (l : List α), (∀ e ∈ l, ∀ b, BG g m fr to a x b -> Spec g m fr to a x (W e) b (f b e)) -> ∀ b, BG g m fr to a x b -> Spec g m fr to a x (fun w => ∃ e ∈ l, W e w) b (l.foldl f b)
  | [], _, b, hb => Spec.same hb (fun w _ h => by obtain ⟨e, he, _⟩ := h; cases he)
  | e :: l, h, b, hb => by
    have h1 := h e (List.mem_cons_self ..) b hb
    have h2 := Spec.fold l (fun e' he' => h e' (List.mem_cons_of_mem _ he')) (f b e) h1.good
    refine ⟨h2.good, fun hn => ?_, fun w hw hW => ?_⟩
    · have k1 := h1.up hn
      exact (h2.up k1.1).trans k1.2
    · obtain ⟨e', he', hw'⟩ := hW
      rcases List.mem_cons.1 he' with rfl | he'
      · have k1 := h1.all w hw hw'
        exact (h2.up k1.1).trans k1.2
      · exact h2.all w hw ⟨e', he', hw'⟩
def At (g : List Gsp.Edge) (to : Int) (way : List Gsp.Edge) (at_ : Int) : Prop := (∀ e ∈ way, e ∈ g) /\ (way = [] -> at_ = to) /\ (way ≠ [] -> (way.getD 0 noEdge).f = at_ /\ (way.getD (way.length - 1) noEdge).t = to)
theorem getD_app (p q : List Gsp.Edge) (i : Nat) : (p ++ q).getD (p.length + i) noEdge = q.getD i noEdge := by
  simp [List.getD, List.getElem?_append_right]
theorem takF_oddsR {xs : List Gsp.Edge} (h : (oddsR m xs a x).2.2 = 0) : takF (oddsR m xs a x).1 = (oddsR m xs a x).1 := takF_id (oddsR_ok h)
theorem ordB_lt {u v : Fnd} (h : cmpF (takF u.odds) (takF v.odds) < 0) : ordB v u < 0 := by
  unfold ordB orL
  rw [if_pos (by omega)]
  exact h
theorem look_spec (hm : GoodM m) (hft : fr ≠ to) : ∀ (k : Nat) (way : List Gsp.Edge) (at_ : Int) (b : Fnd), way.length + k = 9 -> 1 <= k -> At g to way at_ -> BG g m fr to a x b ->
    Spec g m fr to a x (fun w => ∃ p, w = p ++ way) b (lookR g m fr to a x k way at_ b)
  | 0, _, _, _, _, h, _, _ => absurd h (by decide)
  | k + 1, way, at_, b, hk, _, hA, hb => by
    rw [lookR]
    have suf : ∀ w, Cand g m fr to a x w -> (∃ p, w = p ++ way) -> way ≠ [] -> (oddsR m way a x).2.2 = 0 /\ leF (oddsR m w a x).1 (oddsR m way a x).1 /\ (oddsR m way a x).1.n ≠ 0 := by
      rintro w hw ⟨p, rfl⟩ hne
      have hl : p.length < (p ++ way).length := by rw [List.length_append]; have := List.length_pos_iff.2 hne; omega
      have hd := oddsR_drop hm hw.ok hl
      rw [List.drop_left] at hd
      exact ⟨hd.1, hd.2, leF_pos (oddsR_ok hd.1) hd.2 hw.pos⟩
    split
    · rename_i hc
      refine Spec.same hb fun w hw hW => ?_
      obtain ⟨s1, s2, s3⟩ := suf w hw hW hc.1
      rcases hc.2 with h | h | h
      · exact absurd s1 h
      · exact absurd h s3
      · refine ⟨h.1, Int.le_of_lt (ordB_lt ?_)⟩
        show cmpF (takF (oddsR m w a x).1) (takF b.odds) < 0
        have h2 := h.2
        rw [takF_oddsR s1] at h2
        rw [takF_oddsR hw.ok]
        rw [cmpF_neg, ltF_not] at h2 ⊢
        exact fun hh => h2 (leF_trans (oddsR_ok hw.ok).1 hh s2)
    · rename_i hc
      split
      · rename_i hat
        have hne : way ≠ [] := fun h => hft (hat.symm.trans (hA.2.1 h))
        have hcd : Cand g m fr to a x way := by
          refine ⟨hne, hA.1, (hA.2.2 hne).1.trans hat, (hA.2.2 hne).2, ?_, ?_⟩
          · exact Decidable.not_not.1 fun h => hc ⟨hne, .inl h⟩
          · exact fun h => hc ⟨hne, .inr (.inl h)⟩
        have only : ∀ w, Cand g m fr to a x w -> (∃ p, w = p ++ way) -> w = way := by
          rintro w hw ⟨p, rfl⟩
          cases p with
          | nil => rfl
          | cons e p =>
            exfalso
            have hw8 := (costG_inv (oddsR_err.symm.trans hw.ok)).1
            have hf := hw.fst
            have h2 : ((e :: p ++ way).getD (p.length + 1) noEdge).f = fr := by
              have := getD_app (e :: p) way 0
              rw [List.length_cons, Nat.add_zero] at this
              rw [this, (hA.2.2 hne).1, hat]
            have h3 := (way_once hw8 (j := 0) (i := p.length + 1) (by omega) (by simp only [List.length_append, List.length_cons]; have := List.length_pos_iff.2 hne; omega)).1
            rw [hf, h2] at h3
            exact h3 rfl
        split
        · rename_i hbb
          refine ⟨.inr ⟨hcd, rfl⟩, fun hn => ⟨hne, ?_⟩, fun w hw hW => ?_⟩
          · rcases hbb with h | h
            · exact absurd h hn
            · exact Int.le_of_lt (better_iff.1 h)
          · rw [only w hw hW]
            exact ⟨hne, Int.le_of_eq (TP.ordB.refl _)⟩
        · rename_i hbb
          refine Spec.same hb fun w hw hW => ?_
          rw [only w hw hW]
          refine ⟨fun h => hbb (.inl h), ?_⟩
          have h1 : ¬ ordB (fo m a x way) b < 0 := fun h => hbb (.inr (better_iff.2 h))
          have h2 := TP.ordB.anti (fo m a x way) b
          omega
      · rename_i hat
        have key : ∀ w, Cand g m fr to a x w -> (∃ p, w = p ++ way) -> ∃ p e, w = p ++ e :: way /\ e ∈ inG g at_ /\ skipR way to e = false /\ way.length < 8 := by
          rintro w hw ⟨p, rfl⟩
          rcases List.eq_nil_or_concat p with rfl | ⟨p, e, rfl⟩
          · exfalso
            have h1 := hw.fst
            rw [List.nil_append] at h1
            exact hat ((hA.2.2 hw.ne).1.symm.trans h1)
          · rw [List.concat_eq_append, List.append_assoc, List.singleton_append] at hw ⊢
            have hw8 := (costG_inv (oddsR_err.symm.trans hw.ok)).1
            have hl8 := (wayG_len hw8).2
            simp only [List.length_append, List.length_cons] at hl8
            have ge : (p ++ e :: way).getD p.length noEdge = e := by
              have := getD_app p (e :: way) 0
              exact this
            have gn : ∀ i, (p ++ e :: way).getD (p.length + 1 + i) noEdge = way.getD i noEdge := by
              intro i
              have := getD_app p (e :: way) (1 + i)
              rw [<- Nat.add_assoc] at this
              rw [this, Nat.add_comm 1 i]
              rfl
            have he : e.t = at_ := by
              by_cases hne : way = []
              · subst hne
                have := hw.lst
                rw [show (p ++ [e]).length - 1 = p.length by simp] at this
                rw [ge] at this
                rw [this, hA.2.1 rfl]
              · have := (wayG_at hw8 (i := p.length + 1) (by simp only [List.length_append, List.length_cons]; have := List.length_pos_iff.2 hne; omega)).2.1 (by omega)
                rw [show p.length + 1 - 1 = p.length by omega, ge, gn 0, (hA.2.2 hne).1] at this
                exact this
            refine ⟨p, e, rfl, List.mem_filter.2 ⟨hw.sub e (by simp), decide_eq_true he⟩, ?_, by omega⟩
            unfold skipR
            rw [Bool.or_eq_false_iff]
            constructor
            · refine decide_eq_false fun hto => ?_
              have h1 := (wayG_at hw8 (i := (p ++ e :: way).length - 1) (by simp)).2.2 p.length (by simp)
              rw [ge, hw.lst] at h1
              exact h1 hto
            · rw [List.any_eq_false]
              intro y hy
              obtain ⟨i, hi, hyi⟩ := List.mem_iff_getElem.1 hy
              have h1 := (way_once hw8 (j := p.length) (i := p.length + 1 + i) (by omega) (by simp only [List.length_append, List.length_cons]; omega)).1
              rw [ge, gn i] at h1
              have h2 : way.getD i noEdge = y := by simp [List.getD, hi, hyi]
              rw [h2] at h1
              simpa using fun h => h1 h.symm
        split
        · rename_i h8
          refine Spec.same hb fun w hw hW => ?_
          obtain ⟨_, _, _, _, _, hlt⟩ := key w hw hW
          omega
        · rename_i h8
          have hfold := Spec.fold (g := g) (m := m) (fr := fr) (to := to) (a := a) (x := x) (f := stepR (lookR g m fr to a x k) way to) (W := fun e w => skipR way to e = false /\ ∃ p, w = p ++ e :: way) (inG g at_) (fun e he b' hb' => by
            unfold stepR
            split
            · rename_i hsk
              exact Spec.same hb' fun w _ hW => by rw [hsk] at hW; exact absurd hW.1 (by decide)
            · rename_i hsk
              obtain ⟨he1, he2⟩ := List.mem_filter.1 he
              have het : e.t = at_ := of_decide_eq_true he2
              have hA' : At g to (e :: way) e.f := by
                refine ⟨fun y hy => ?_, fun h => by simp at h, fun _ => ⟨rfl, ?_⟩⟩
                · rcases List.mem_cons.1 hy with rfl | hy
                  · exact he1
                  · exact hA.1 y hy
                · by_cases hne : way = []
                  · subst hne
                    show e.t = to
                    rw [het, hA.2.1 rfl]
                  · have hl := List.length_pos_iff.2 hne
                    rw [List.length_cons, Nat.add_sub_cancel, show way.length = (way.length - 1) + 1 by omega]
                    exact (hA.2.2 hne).2
              have hr := look_spec hm hft k (e :: way) e.f b' (by rw [List.length_cons]; omega) (by omega) hA' hb'
              exact ⟨hr.good, hr.up, fun w hw hW => hr.all w hw hW.2⟩) b hb
          exact ⟨hfold.good, hfold.up, fun w hw hW => by
            obtain ⟨p, e, h1, h2, h3, _⟩ := key w hw hW
            exact hfold.all w hw ⟨e, h2, h3, p, h1⟩⟩
theorem bad_T (h : badR g fr to a x = false) : rightG g = true /\ (0 <= fr /\ fr <= 11) /\ (0 <= to /\ to <= 11) /\ fr ≠ to /\ (1 <= a /\ a <= 1125899906842624) /\ 1 <= x /\ x <= 1048576 := by
  unfold badR at h
  simp only [Bool.or_eq_false_iff, Bool.not_eq_false', decide_eq_false_iff_not] at h
  obtain ⟨⟨⟨⟨⟨h1, h2⟩, h3⟩, h4⟩, h5⟩, h6⟩ := h
  exact ⟨h1, inB_T h2, inB_T h3, h4, inB_T h5, inB_T h6⟩
theorem best_spec (hm : GoodM m) (hft : fr ≠ to) : Spec g m fr to a x (fun _ => True) noFnd (lookR g m fr to a x 9 [] to noFnd) := by
  have h := look_spec (g := g) (a := a) (x := x) hm hft 9 [] to noFnd rfl (by decide) ⟨fun e he => (by cases he), fun _ => rfl, fun h => absurd rfl h⟩ (.inl rfl)
  exact ⟨h.good, h.up, fun w hw _ => h.all w hw ⟨w, (List.append_nil w).symm⟩⟩
theorem bestR_ok (hm : GoodM m) (h : (bestR g m fr to a x).2.2 = 0) : badR g fr to a x = false /\ Cand g m fr to a x (bestR g m fr to a x).1 /\ (bestR g m fr to a x).2.1 = (oddsR m (bestR g m fr to a x).1 a x).1 /\
    ∀ w, Cand g m fr to a x w -> ordB (fo m a x (bestR g m fr to a x).1) (fo m a x w) <= 0 := by
  have hb : badR g fr to a x = false := by
    cases hb : badR g fr to a x
    · rfl
    · unfold bestR at h; rw [if_pos hb] at h; exact absurd h (by decide)
  have hs := best_spec (g := g) (a := a) (x := x) hm (bad_T hb).2.2.2.1
  unfold bestR at h ⊢
  rw [if_neg (by rw [hb]; decide)] at h ⊢
  split at h
  · exact absurd h (by decide)
  · rename_i hne
    rw [if_neg hne]
    rcases hs.good with k | ⟨k1, k2⟩
    · exact absurd k hne
    · refine ⟨hb, k1, ?_, fun w hw => ?_⟩
      · show (lookR g m fr to a x 9 [] to noFnd).odds = _
        exact congrArg Fnd.odds k2
      · have := (hs.all w hw trivial).2
        rw [k2] at this
        exact this
theorem bestR_no (hm : GoodM m) (hb : badR g fr to a x = false) (h : (bestR g m fr to a x).2.2 ≠ 0) : bestR g m fr to a x = ([], ⟨0, 0⟩, 19) /\ ∀ w, ¬ Cand g m fr to a x w := by
  have hs := best_spec (g := g) (a := a) (x := x) hm (bad_T hb).2.2.2.1
  unfold bestR at h ⊢
  rw [if_neg (by rw [hb]; decide)] at h ⊢
  split at h
  · rename_i hn
    rw [if_pos hn]
    exact ⟨rfl, fun w hw => (hs.all w hw trivial).1 hn⟩
  · exact absurd rfl h
theorem bestR_bad (hb : badR g fr to a x = true) : bestR g m fr to a x = ([], ⟨0, 0⟩, 1) := by unfold bestR; rw [if_pos hb]
end Go.Rtp

namespace Go.Rtp
open Go.Gsp Go.Nsp Go.Msp Go.Proofs.YtocheaahlpiajaaGreatDoor
def lessG (g : List Gsp.Edge) (k : Nat) : List Gsp.Edge := g.take k ++ g.drop (k + 1)
theorem lessG_sub {g : List Gsp.Edge} {k : Nat} {e : Gsp.Edge} (h : e ∈ lessG g k) : e ∈ g := by
  rcases List.mem_append.1 h with h | h
  · exact List.mem_of_mem_take h
  · exact List.mem_of_mem_drop h
theorem lessG_mem {g : List Gsp.Edge} {k : Nat} (hk : k < g.length) {e : Gsp.Edge} (h : e ∈ g) (hn : e ≠ g.getD k noEdge) : e ∈ lessG g k := by
  obtain ⟨i, hi, rfl⟩ := List.mem_iff_getElem.1 h
  rcases Nat.lt_trichotomy i k with h1 | h1 | h1
  · exact List.mem_append_left _ (List.mem_take_iff_getElem.2 ⟨i, by omega, rfl⟩)
  · subst h1; exact absurd (by simp [List.getD, hi]) hn
  · refine List.mem_append_right _ (List.mem_drop_iff_getElem.2 ⟨i - (k + 1), by omega, ?_⟩)
    congr 1; omega
variable {g : List Gsp.Edge} {m : MF} {fr to a x : Int}
theorem Cand.way {w : List Gsp.Edge} (h : Cand g m fr to a x w) : wayG w = true := (costG_inv (oddsR_err.symm.trans h.ok)).1
theorem Cand.cost {w : List Gsp.Edge} (h : Cand g m fr to a x w) : (costG w a x).2.2 = 0 := oddsR_err.symm.trans h.ok
theorem Cand.less {k : Nat} (hk : k < g.length) {w : List Gsp.Edge} (h : Cand (lessG g k) m fr to a x w) : Cand g m fr to a x w := ⟨h.ne, fun e he => lessG_sub (h.sub e he), h.fst, h.lst, h.ok, h.pos⟩
theorem Cand.more {k : Nat} (hk : k < g.length) {w : List Gsp.Edge} (h : Cand g m fr to a x w) (hn : ∀ e ∈ w, e ≠ g.getD k noEdge) : Cand (lessG g k) m fr to a x w := ⟨h.ne, fun e he => lessG_mem hk (h.sub e he) (hn e he), h.fst, h.lst, h.ok, h.pos⟩
theorem bestR_errs (hm : GoodM m) : (bestR g m fr to a x).2.2 = 0 \/ bestR g m fr to a x = ([], ⟨0, 0⟩, 1) \/ bestR g m fr to a x = ([], ⟨0, 0⟩, 19) := by
  by_cases h : (bestR g m fr to a x).2.2 = 0
  · exact .inl h
  · cases hb : badR g fr to a x
    · exact .inr (.inr (bestR_no hm hb h).1)
    · exact .inr (.inl (bestR_bad hb))
theorem Cand.some {w : List Gsp.Edge} (hc : (costG w a x).2.2 = 0) {i : Nat} (hi : i < w.length) : someM (w.getD i noEdge) ((costG w a x).1.getD i 0) = true := by
  have h := costs_of hc
  have h1 := h.ge (w.length - 1 - i) i (by omega)
  have h2 := h.room i hi
  have hok := edgeOk_T (wayG_at h.way hi).1
  have := h.amt
  simp only [someM, mayM, ptyB, Bool.and_eq_true, decide_eq_true_eq]
  omega
theorem none_good : GoodM (fun _ => none) := fun _ _ h => by cases h
end Go.Rtp

namespace Go.Msp
open Go.Gsp Go.Nsp
def bkE (e : Gsp.Edge) : Wy := ⟨e.t, e.c⟩
def movN (e : Gsp.Edge) (a : Int) (n : Nt) : Nt := ⟨max (n.lo - a) 0, max (n.hi - a) (max (n.lo - a) 0 + 1), e.r⟩
def movB (e : Gsp.Edge) (a : Int) (b : Nt) : Nt := ⟨min (b.lo + a) e.r, min (b.hi + a) (e.r + 1), e.r⟩
def movM (m : MF) (e : Gsp.Edge) (a : Int) : MF := if someM e a = true then setM (setM m (wyE e) (movN e a (ofM m (wyE e) e.r))) (bkE e) (movB e a (ofM m (bkE e) e.r)) else m
theorem movN_ok {m : MF} (hm : GoodM m) {e : Gsp.Edge} {a : Int} (h : someM e a = true) : okNt (movN e a (ofM m (wyE e) e.r)) := by
  obtain ⟨h1, h2, h3⟩ := someM_T h
  obtain ⟨_, _, _, _, h4, h5⟩ := mayM_T h1
  have := ofM_ok hm (wyE e) h4 h5
  unfold okNt at *
  unfold movN
  simp only
  omega
theorem movB_ok {m : MF} (hm : GoodM m) {e : Gsp.Edge} {a : Int} (h : someM e a = true) : okNt (movB e a (ofM m (bkE e) e.r)) := by
  obtain ⟨h1, h2, h3⟩ := someM_T h
  obtain ⟨_, _, _, _, h4, h5⟩ := mayM_T h1
  have := ofM_ok hm (bkE e) h4 h5
  unfold okNt at *
  unfold movB
  simp only
  omega
theorem movM_good {m : MF} (hm : GoodM m) (e : Gsp.Edge) (a : Int) : GoodM (movM m e a) := by
  unfold movM
  split
  · exact setM_good (setM_good hm (movN_ok hm (by assumption))) (movB_ok hm (by assumption))
  · exact hm
end Go.Msp
namespace Go.Rtp
open Go.Gsp Go.Nsp Go.Msp Go.Proofs.YtocheaahlpiajaaGreatDoor
def sentK (m : MF) (xs : List Gsp.Edge) (s : List Int) : Nat -> MF
  | 0 => m
  | k + 1 => movM (passM (sentK m xs s k) (xs.getD k noEdge) (s.getD k 0)) (xs.getD k noEdge) (s.getD k 0)
theorem sentK_good {m : MF} (hm : GoodM m) (w : List Gsp.Edge) (s : List Int) : ∀ k, GoodM (sentK m w s k)
  | 0 => hm
  | k + 1 => movM_good (passM_good (sentK_good hm w s k) _ _) _ _
structure Prt where
  amt : Int
  way : List Gsp.Edge
  sent : List Int
  till : List Int
def noPrt : Prt := ⟨0, [], [], []⟩
def shareI (amount n : Int) (i : Nat) : Int := amount / n + (if (i : Int) < amount % n then 1 else 0)
def sharesL (amount n : Int) : List Int := if n < 1 \/ 8 < n \/ amount < n then [] else (List.range n.toNat).map (shareI amount n)
structure TrS where
  out : List Prt
  odds : Fr
  m : MF
def tryS (g : List Gsp.Edge) (fr to x : Int) (o : Option TrS) (share : Int) : Option TrS :=
  match o with
  | none => none
  | some s => if (bestR g s.m fr to share x).2.2 = 0 then some ⟨s.out ++ [⟨share, (bestR g s.m fr to share x).1, (costG (bestR g s.m fr to share x).1 share x).1, (costG (bestR g s.m fr to share x).1 share x).2.1⟩],
      mulF s.odds (bestR g s.m fr to share x).2.1, sentK s.m (bestR g s.m fr to share x).1 (costG (bestR g s.m fr to share x).1 share x).1 (bestR g s.m fr to share x).1.length⟩ else none
def tryG (g : List Gsp.Edge) (m : MF) (fr to a x n : Int) : List Prt × Fr × Int :=
  if n < 1 \/ 8 < n \/ (bestR g m fr to a x).2.2 = 1 then ([], ⟨0, 0⟩, 1)
  else match (sharesL a n).foldl (tryS g fr to x) (if sharesL a n = [] then none else some ⟨[], ⟨1, 1⟩, m⟩) with
    | none => ([], ⟨0, 0⟩, 19)
    | some s => (s.out, s.odds, 0)
def splS (g : List Gsp.Edge) (m : MF) (fr to a x : Int) (b : List Prt × Fr × Int) (k : Nat) : List Prt × Fr × Int :=
  if (tryG g m fr to a x (k + 1)).2.2 = 0 /\ (b.1 = [] \/ 0 < cmpF (takF (tryG g m fr to a x (k + 1)).2.1) (takF b.2.1)) then tryG g m fr to a x (k + 1) else b
def splitG (g : List Gsp.Edge) (m : MF) (fr to a x most : Int) : List Prt × Fr × Int :=
  if most < 1 \/ 8 < most \/ (bestR g m fr to a x).2.2 = 1 then ([], ⟨0, 0⟩, 1)
  else (List.range most.toNat).foldl (splS g m fr to a x) ([], ⟨0, 0⟩, 19)
end Go.Rtp

namespace Go.Proofs.YtocheaahlpiajaaGreatDoor
open Tryz
open Go Go.Sx Go.Num Go.Gsp Go.Nsp Go.Msp
set_option maxRecDepth 20000
theorem lback_ok (e : Gsp.Edge) (w : World) : Calls prog 181 #[.agg (edgeV e).toArray] w fun r w' => r = .returned (.agg (wyV (bkE e)).toArray) /\ Le w w' := by
 refine enter func181 rfl rfl ?_
 have L0 := Le.refl w
 refine WC.sr (W.ef rfl rfl rfl ?_)
 refine Ef.boxA rfl ?_
 intro g0_0 w0_0 hg0_0 b0_0 h0_0
 have L1 := L0.trans h0_0
 have b0_0 : Blk w0_0 g0_0 81 (edgeV e).toArray := b0_0
 refine W.ef rfl rfl rfl ?_
 refine Ef.allocA z266 ?_
 intro g0_1 w0_1 hg0_1 b0_1 h0_1
 have L2 := L1.trans h0_1
 have b0_1 : Blk w0_1 g0_1 266 (wyV noWy).toArray := b0_1
 refine W.nx (WC.sr ?_)
 refine W.a (.field0 fa81_1 rfl) ?_
 have f3 := (b0_0.le h0_1)
 refine W.r (.loadB (v := .int .i64 (e.t)) na3 rfl f3 rfl) ?_
 refine W.a (.field0 fa81_2 rfl) ?_
 refine W.r (.loadB (v := .int .i64 (e.c)) na3 rfl f3 rfl) ?_
 refine W.a (.buildP (wyV (⟨e.t, e.c⟩ : Wy)) pl266 z266 rfl rfl) ?_
 refine W.ef0 rfl rfl ?_
 refine Ef.storeAll sz266 (by rfl) rfl rfl b0_1 (by simp only [List.size_toArray, wyV_row.len]) (wyV_row.one (⟨e.t, e.c⟩ : Wy)) ?_
 intro w1_5 b1_5 h1_5
 have b1_5 : Blk w1_5 g0_1 266 (wyV (⟨e.t, e.c⟩ : Wy)).toArray := b1_5
 have L4 := L2.tb h1_5 L1 hg0_1
 refine W.nx (WC.ret ?_)
 refine E.retG1 rfl (resA rfl b1_5 ag266 (by rfl)) ?_
 exact ⟨rfl, L4⟩

theorem lmov_ok {gp gm ca : Nat} {la : MMl} (e : Gsp.Edge) (a : Int) (w : World) (hp0 : Blk w gp 188 #[.map (some gm)]) (hM0 : MapG w wyf ntf gm la ca) (hg : ∀ k v, getG k la = some v -> okNt v) (n1 : gp ≠ gm) : Calls prog 87 #[.pointer (some ⟨gp, 0, none⟩), .agg (edgeV e).toArray, .int .i64 (a)] w fun r w' => r = .returned (.tuple #[]) /\ ∃ la' ca', MapG w' wyf ntf gm la' ca' /\ (∀ k, getG k la' = movM (fun k => getG k la) e a k) /\ ChP w w' (fun k => k = gm) := by
 refine enter func87 rfl rfl ?_
 have L0 := ChP.refl w (fun k => k = gm)
 refine WC.sr (W.ef rfl rfl rfl ?_)
 refine Ef.boxA rfl ?_
 intro g0_0 w0_0 hg0_0 b0_0 h0_0
 have L1 := L0.le h0_0
 have b0_0 : Blk w0_0 g0_0 81 (edgeV e).toArray := b0_0
 refine W.nx (WC.seq (WC.sr ?_))
 refine W.r (.loadAll ag81 (by rfl) rfl b0_0) ?_
 refine W.run 1 rfl ?_
 refine W.cl go176 rfl rfl (lsome_ok e a w0_0) ?_
 rintro _ w1_2 ⟨rfl, h1_2⟩
 have L2 := L1.le h1_2
 refine W.run 1 rfl (W.nx ?_)
 by_cases c0 : (someM e a) = true
 ·refine WC.condN rfl (congrArg not (c0)) ?_
  have hsm := someM_T (by assumption : someM e a = true)
  have hmz := mayM_T hsm.1
  refine WC.sn (WC.seq ?_)
  refine WC.drawN [0, 1, 3, 4, 6, 7, 9, 10] [2, 5, 8, 11, 12, 13] [14, 15] (fun i => bif Nat.beq i 5 then [2] else bif Nat.beq i 11 then [8] else []) mixed (by kernel_rfl) ?_
  intro w2 d2
  have L3 := L2.le d2
  refine G.run 1 rfl ?_
  have f4 := (b0_0.le (h1_2.trans d2))
  refine G.r rfl (.loadAll ag81 (by rfl) rfl f4) ?_
  refine G.a rfl (.field0 fa81_3 rfl) ?_
  refine G.r rfl (.loadB (v := .int .i64 (e.r)) na3 rfl f4 rfl) ?_
  refine G.run 1 rfl ?_
  refine G.r rfl (.loadAll ag81 (by rfl) rfl f4) ?_
  refine G.a rfl (.field0 fa81_3 rfl) ?_
  refine G.r rfl (.loadB (v := .int .i64 (e.r)) na3 rfl f4 rfl) ?_
  refine G.nil ?_
  refine E.free ⟨by rfl, fun i => (bif Nat.beq i 2 then (fun v _ => v = .agg (wyV (wyE e)).toArray) else (bif Nat.beq i 5 then (fun v _ => v = .agg (ntV (cnt (getG (wyE e) la) e.r)).toArray) else (bif Nat.beq i 8 then (fun v _ => v = .agg (wyV (bkE e)).toArray) else (bif Nat.beq i 11 then (fun v _ => v = .agg (ntV (cnt (getG (bkE e) la) e.r)).toArray) else (bif Nat.beq i 12 then (fun v w' => ∃ g, v = .pointer (some ⟨g, 0, none⟩) /\ Blk w' g 263 (ntV noNt).toArray) else (bif Nat.beq i 13 then (fun v w' => ∃ g, v = .pointer (some ⟨g, 0, none⟩) /\ Blk w' g 263 (ntV noNt).toArray) else (fun _ _ => True))))))), ?_, ?_, ?_⟩
  ·intro i hi v w1 w2 hv hle
   simp only [List.mem_cons, List.not_mem_nil, or_false] at hi
   rcases hi with rfl | rfl | rfl | rfl | rfl | rfl
   ·exact hv
   ·exact hv
   ·exact hv
   ·exact hv
   ·obtain ⟨g, h1, h2⟩ := hv; exact ⟨g, h1, h2.le hle⟩
   obtain ⟨g, h1, h2⟩ := hv; exact ⟨g, h1, h2.le hle⟩
  ·intro i hi
   simp only [List.mem_cons, List.not_mem_nil, or_false] at hi
   rcases hi with rfl | rfl | rfl | rfl | rfl | rfl
   ·refine Step.of0 rfl rfl ?_
    intro w1 hle
    refine Ef.call go168 rfl rfl (lthere_ok e w1) ?_
    rintro _ w2 ⟨rfl, h2⟩
    exact ⟨_, rfl, h2, rfl, fun k hk => hk.elim⟩
   ·refine Step.of1 (j := 2) rfl rfl rfl ?_
    intro v w1 hle hv
    have hv : v = .agg (wyV (wyE e)).toArray := hv
    subst hv
    have f11 := (hp0.le (h0_0.trans (h1_2.trans (d2.trans hle))))
    have f12 := (hM0.le (h0_0.trans (h1_2.trans (d2.trans hle))))
    refine Ef.call go167 rfl rfl (lof_ok (wyE e) e.r w1 f11 f12 hg (by omega) (by omega)) ?_
    rintro _ w2 ⟨rfl, h2⟩
    exact ⟨_, rfl, h2, rfl, fun k hk => hk.elim⟩
   ·refine Step.of0 rfl rfl ?_
    intro w1 hle
    refine Ef.call go181 rfl rfl (lback_ok e w1) ?_
    rintro _ w2 ⟨rfl, h2⟩
    exact ⟨_, rfl, h2, rfl, fun k hk => hk.elim⟩
   ·refine Step.of1 (j := 8) rfl rfl rfl ?_
    intro v w1 hle hv
    have hv : v = .agg (wyV (bkE e)).toArray := hv
    subst hv
    have f15 := (hp0.le (h0_0.trans (h1_2.trans (d2.trans hle))))
    have f16 := (hM0.le (h0_0.trans (h1_2.trans (d2.trans hle))))
    refine Ef.call go167 rfl rfl (lof_ok (bkE e) e.r w1 f15 f16 hg (by omega) (by omega)) ?_
    rintro _ w2 ⟨rfl, h2⟩
    exact ⟨_, rfl, h2, rfl, fun k hk => hk.elim⟩
   ·refine Step.of0 rfl rfl ?_; intro w1 hle; refine Ef.allocA z263 ?_; intro g w2 hg b h2; exact ⟨h2, ⟨g, rfl, b⟩, fun k hk => (show g = k from hk) ▸ ⟨hg, b.lt⟩⟩
   refine Step.of0 rfl rfl ?_; intro w1 hle; refine Ef.allocA z263 ?_; intro g w2 hg b h2; exact ⟨h2, ⟨g, rfl, b⟩, fun k hk => (show g = k from hk) ▸ ⟨hg, b.lt⟩⟩
  intro f_2 W_2 h_2 hphi_2 hfeet_2 hap_2
  have e2_2 : f_2 2 = .agg (wyV (wyE e)).toArray := hphi_2 2 (by decide)
  have e5_2 : f_2 5 = .agg (ntV (cnt (getG (wyE e) la) e.r)).toArray := hphi_2 5 (by decide)
  have e8_2 : f_2 8 = .agg (wyV (bkE e)).toArray := hphi_2 8 (by decide)
  have e11_2 : f_2 11 = .agg (ntV (cnt (getG (bkE e) la) e.r)).toArray := hphi_2 11 (by decide)
  obtain ⟨g12_2, e12_2, b12_2⟩ := hphi_2 12 (by decide)
  have hg12_2 : w2.heap.size <= g12_2 := (hfeet_2 12 (by decide) g12_2 (by rw [e12_2]; rfl)).1
  obtain ⟨g13_2, e13_2, b13_2⟩ := hphi_2 13 (by decide)
  have hg13_2 : w2.heap.size <= g13_2 := (hfeet_2 13 (by decide) g13_2 (by rw [e13_2]; rfl)).1
  have nb12_13_2 : g12_2 ≠ g13_2 := fun h => hap_2 12 (by decide) 13 (by decide) (by decide) g12_2 (by rw [e12_2]; rfl) (by rw [e13_2, h]; rfl)
  show G _ _ _ _ _ ((15, f_2 2) :: (18, f_2 5) :: (21, f_2 8) :: (24, f_2 11) :: (6, f_2 12) :: (7, f_2 13) :: _) _
  rw [e2_2, e5_2, e8_2, e11_2, e12_2, e13_2]
  have L17 := L3.le h_2
  have hof5 := cnt_ok (fun n hn => hg (wyE e) n hn) (show 0 < e.r by omega) (show e.r <= 1125899906842624 by omega)
  unfold okNt at hof5
  have hof11 := cnt_ok (fun n hn => hg (bkE e) n hn) (show 0 < e.r by omega) (show e.r <= 1125899906842624 by omega)
  unfold okNt at hof11
  refine G.ef0 rfl rfl rfl rfl ?_
  refine Ef.storeAll sz263 (by rfl) rfl rfl b12_2 (by simp only [List.size_toArray, ntV_row.len]) (ntV_row.one (cnt (getG (wyE e) la) e.r)) ?_
  intro w2_14 b2_14 h2_14
  refine noT (by kernel_rfl) ?_
  have b2_14 : Blk w2_14 g12_2 263 (ntV (cnt (getG (wyE e) la) e.r)).toArray := b2_14
  have L18 : ChP w w2_14 (fun k => k = gm) := L17.ch h2_14 (fun i hi hlt => by cases hi; exact absurd hlt (by have := L3.size; have := hg12_2; omega))
  have f19 := (b13_2.ch h2_14 (fun h => nb12_13_2 (Option.some.inj h)))
  refine G.ef0 rfl rfl rfl rfl ?_
  refine Ef.storeAll sz263 (by rfl) rfl rfl f19 (by simp only [List.size_toArray, ntV_row.len]) (ntV_row.one (cnt (getG (bkE e) la) e.r)) ?_
  intro w2_15 b2_15 h2_15
  refine noT (by kernel_rfl) ?_
  have b2_15 : Blk w2_15 g13_2 263 (ntV (cnt (getG (bkE e) la) e.r)).toArray := b2_15
  have L20 : ChP w w2_15 (fun k => k = gm) := L18.ch h2_15 (fun i hi hlt => by cases hi; exact absurd hlt (by have := L3.size; have := hg13_2; omega))
  refine G.nil (E.thenN (WC.sr ?_))
  refine W.a (.field0 fa263_0 rfl) ?_
  have f21 := (b2_14.ch h2_15 (fun h => (Ne.symm nb12_13_2) (Option.some.inj h)))
  refine W.r (.loadB (v := .int .i64 ((cnt (getG (wyE e) la) e.r).lo)) na3 rfl f21 rfl) ?_
  refine W.run 1 rfl ?_
  refine W.a (.sub rfl rfl (by omega)) ?_
  refine W.r (.max2 rfl rfl) ?_
  refine W.run 1 rfl (W.nx (WC.seq ?_))
  refine WC.draw [0, 1, 2, 3, 4, 6, 7, 8, 9, 10, 11, 12, 13, 14, 15, 16, 5, 17] mixed (by kernel_rfl) ?_
  intro w4 d4
  have L22 := L20.le d4
  refine G.run 1 rfl ?_
  refine G.a rfl (.nilCheck rfl) ?_
  refine G.a rfl (.field0 fa188_0 rfl) ?_
  have f23 := ((((hp0.le (h0_0.trans (h1_2.trans (d2.trans h_2)))).ch h2_14 (fun h => (show g12_2 ≠ gp from by have := hp0.lt; have := h0_0.size; have := h1_2.size; have := d2.size; omega) (Option.some.inj h))).ch h2_15 (fun h => (show g13_2 ≠ gp from by have := hp0.lt; have := h0_0.size; have := h1_2.size; have := d2.size; omega) (Option.some.inj h))).le d4)
  refine G.r rfl (.loadB (v := .map (some gm)) na186 rfl f23 rfl) ?_
  have f24 := ((((f4.le h_2).ch h2_14 (fun h => (show g12_2 ≠ g0_0 from by have := f4.lt; omega) (Option.some.inj h))).ch h2_15 (fun h => (show g13_2 ≠ g0_0 from by have := f4.lt; omega) (Option.some.inj h))).le d4)
  refine G.r rfl (.loadAll ag81 (by rfl) rfl f24) ?_
  refine G.run 1 rfl ?_
  refine G.a rfl (.field0 fa263_1 rfl) ?_
  have f25 := (f21.le d4)
  refine G.r rfl (.loadB (v := .int .i64 ((cnt (getG (wyE e) la) e.r).hi)) na3 rfl f25 rfl) ?_
  refine G.run 1 rfl ?_
  refine G.a rfl (.sub rfl rfl (by omega)) ?_
  refine G.run 1 rfl ?_
  refine G.a rfl (.add rfl rfl (by omega)) ?_
  refine G.r rfl (.max2 rfl rfl) ?_
  refine G.a rfl (.field0 fa81_3 rfl) ?_
  refine G.r rfl (.loadB (v := .int .i64 (e.r)) na3 rfl f24 rfl) ?_
  refine G.a rfl (.buildP (ntV (⟨(max (((cnt (getG (wyE e) la) e.r).lo) - a) 0), (max (((cnt (getG (wyE e) la) e.r).hi) - a) ((max (((cnt (getG (wyE e) la) e.r).lo) - a) 0) + 1)), e.r⟩ : Nt)) pl263 z263 rfl rfl) ?_
  refine G.ef rfl rfl rfl rfl rfl ?_
  refine Ef.call go168 rfl rfl (lthere_ok e w4) ?_
  rintro _ w4_5 ⟨rfl, h4_5⟩
  refine ⟨_, rfl, ?_⟩
  refine ⟨fun _ => h4_5, ?_⟩
  have L26 := L22.le h4_5
  rcases optG (getG (wyE e) la) with hk4_17 | ⟨vhk4_17, hk4_17⟩
  ·have f27 := ((((hM0.le (h0_0.trans (h1_2.trans (d2.trans h_2)))).ch h2_14 (fun h => (show g12_2 ≠ gm from by have := hM0.lt; have := h0_0.size; have := h1_2.size; have := d2.size; omega) (Option.some.inj h))).ch h2_15 (fun h => (show g13_2 ≠ gm from by have := hM0.lt; have := h0_0.size; have := h1_2.size; have := d2.size; omega) (Option.some.inj h))).le (d4.trans h4_5))
   refine G.ef0 rfl rfl rfl rfl ?_
   refine Ef.insertG (key := (wyE e)) (u := (⟨(max (((cnt (getG (wyE e) la) e.r).lo) - a) 0), (max (((cnt (getG (wyE e) la) e.r).hi) - a) ((max (((cnt (getG (wyE e) la) e.r).lo) - a) 0) + 1)), e.r⟩ : Nt)) underlying186 kwy rfl rfl rfl f27 (hk4_17) ?_
   intro w4_17 b4_17 h4_17
   refine noT (by kernel_rfl) ?_
   have L28 : ChP w w4_17 (fun k => k = gm) := L26.ch h4_17 (fun i hi _ => by cases hi; exact rfl)
   refine G.nil (E.thenN ?_)
   refine WC.draw [0, 1, 2, 3, 4, 6, 7, 8, 9, 10, 11, 12, 13, 14, 15, 16, 17, 18, 19, 20, 21, 22, 23, 5, 24] mixed (by kernel_rfl) ?_
   intro w5 d5
   have L29 := L28.le d5
   refine G.run 1 rfl ?_
   refine G.a rfl (.nilCheck rfl) ?_
   refine G.a rfl (.field0 fa188_0 rfl) ?_
   have f30 := (((f23.le h4_5).ch h4_17 (fun h => (Ne.symm n1) (Option.some.inj h))).le d5)
   refine G.r rfl (.loadB (v := .map (some gm)) na186 rfl f30 rfl) ?_
   have f31 := (((f24.le h4_5).ch h4_17 (fun h => (show gm ≠ g0_0 from by have := hM0.lt; omega) (Option.some.inj h))).le d5)
   refine G.r rfl (.loadAll ag81 (by rfl) rfl f31) ?_
   refine G.a rfl (.field0 fa263_0 rfl) ?_
   have f32 := (((b2_15.le (d4.trans h4_5)).ch h4_17 (fun h => (show gm ≠ g13_2 from by have := hM0.lt; have := h0_0.size; have := h1_2.size; have := d2.size; omega) (Option.some.inj h))).le d5)
   refine G.r rfl (.loadB (v := .int .i64 ((cnt (getG (bkE e) la) e.r).lo)) na3 rfl f32 rfl) ?_
   refine G.run 1 rfl ?_
   refine G.a rfl (.add rfl rfl (by omega)) ?_
   refine G.a rfl (.field0 fa81_3 rfl) ?_
   refine G.r rfl (.loadB (v := .int .i64 (e.r)) na3 rfl f31 rfl) ?_
   refine G.r rfl (.min2 rfl rfl) ?_
   refine G.a rfl (.field0 fa263_1 rfl) ?_
   refine G.r rfl (.loadB (v := .int .i64 ((cnt (getG (bkE e) la) e.r).hi)) na3 rfl f32 rfl) ?_
   refine G.run 1 rfl ?_
   refine G.a rfl (.add rfl rfl (by omega)) ?_
   refine G.a rfl (.field0 fa81_3 rfl) ?_
   refine G.r rfl (.loadB (v := .int .i64 (e.r)) na3 rfl f31 rfl) ?_
   refine G.a rfl (.add rfl rfl (by omega)) ?_
   refine G.r rfl (.min2 rfl rfl) ?_
   refine G.a rfl (.field0 fa81_3 rfl) ?_
   refine G.r rfl (.loadB (v := .int .i64 (e.r)) na3 rfl f31 rfl) ?_
   refine G.a rfl (.buildP (ntV (⟨(min (((cnt (getG (bkE e) la) e.r).lo) + a) e.r), (min (((cnt (getG (bkE e) la) e.r).hi) + a) (e.r + 1)), e.r⟩ : Nt)) pl263 z263 rfl rfl) ?_
   refine G.ef rfl rfl rfl rfl rfl ?_
   refine Ef.call go181 rfl rfl (lback_ok e w5) ?_
   rintro _ w5_5 ⟨rfl, h5_5⟩
   refine ⟨_, rfl, ?_⟩
   refine ⟨fun _ => h5_5, ?_⟩
   have L33 := L29.le h5_5
   rcases optG (getG (bkE e) (la ++ [(ca, (wyE e), (⟨(max (((cnt (getG (wyE e) la) e.r).lo) - a) 0), (max (((cnt (getG (wyE e) la) e.r).hi) - a) ((max (((cnt (getG (wyE e) la) e.r).lo) - a) 0) + 1)), e.r⟩ : Nt))])) with hk5_24 | ⟨vhk5_24, hk5_24⟩
   ·have f34 := (b4_17.le (d5.trans h5_5))
    refine G.ef0 rfl rfl rfl rfl ?_
    refine Ef.insertG (key := (bkE e)) (u := (⟨(min (((cnt (getG (bkE e) la) e.r).lo) + a) e.r), (min (((cnt (getG (bkE e) la) e.r).hi) + a) (e.r + 1)), e.r⟩ : Nt)) underlying186 kwy rfl rfl rfl f34 (hk5_24) ?_
    intro w5_24 b5_24 h5_24
    refine noT (by kernel_rfl) ?_
    have L35 : ChP w w5_24 (fun k => k = gm) := L33.ch h5_24 (fun i hi _ => by cases hi; exact rfl)
    refine G.nil (E.end_ ?_)
    refine E.ret0 rfl ?_
    have hf : movM (fun k => getG k la) e a = setM (setM (fun k => getG k la) (wyE e) (movN e a (ofM (fun k => getG k la) (wyE e) e.r))) (bkE e) (movB e a (ofM (fun k => getG k la) (bkE e) e.r)) := if_pos (by assumption)
    rw [hf]
    exact ⟨rfl, _, _, b5_24, fun k => by rw [getG_push hk5_24, getG_push hk4_17]; rfl, L35⟩
   have f36 := (b4_17.le (d5.trans h5_5))
   refine G.ef0 rfl rfl rfl rfl ?_
   refine Ef.updateG (key := (bkE e)) (u := (⟨(min (((cnt (getG (bkE e) la) e.r).lo) + a) e.r), (min (((cnt (getG (bkE e) la) e.r).hi) + a) (e.r + 1)), e.r⟩ : Nt)) underlying186 kwy rfl rfl rfl f36 stay_wy (hk5_24) ?_
   intro w5_24_1 b5_24_1 h5_24_1
   refine noT (by kernel_rfl) ?_
   have L37 : ChP w w5_24_1 (fun k => k = gm) := L33.ch h5_24_1 (fun i hi _ => by cases hi; exact rfl)
   refine G.nil (E.end_ ?_)
   refine E.ret0 rfl ?_
   have hf : movM (fun k => getG k la) e a = setM (setM (fun k => getG k la) (wyE e) (movN e a (ofM (fun k => getG k la) (wyE e) e.r))) (bkE e) (movB e a (ofM (fun k => getG k la) (bkE e) e.r)) := if_pos (by assumption)
   rw [hf]
   exact ⟨rfl, _, _, b5_24_1, fun k => by rw [getG_set ⟨_, hk5_24⟩, getG_push hk4_17]; rfl, L37⟩
  have f38 := ((((hM0.le (h0_0.trans (h1_2.trans (d2.trans h_2)))).ch h2_14 (fun h => (show g12_2 ≠ gm from by have := hM0.lt; have := h0_0.size; have := h1_2.size; have := d2.size; omega) (Option.some.inj h))).ch h2_15 (fun h => (show g13_2 ≠ gm from by have := hM0.lt; have := h0_0.size; have := h1_2.size; have := d2.size; omega) (Option.some.inj h))).le (d4.trans h4_5))
  refine G.ef0 rfl rfl rfl rfl ?_
  refine Ef.updateG (key := (wyE e)) (u := (⟨(max (((cnt (getG (wyE e) la) e.r).lo) - a) 0), (max (((cnt (getG (wyE e) la) e.r).hi) - a) ((max (((cnt (getG (wyE e) la) e.r).lo) - a) 0) + 1)), e.r⟩ : Nt)) underlying186 kwy rfl rfl rfl f38 stay_wy (hk4_17) ?_
  intro w4_17_1 b4_17_1 h4_17_1
  refine noT (by kernel_rfl) ?_
  have L39 : ChP w w4_17_1 (fun k => k = gm) := L26.ch h4_17_1 (fun i hi _ => by cases hi; exact rfl)
  refine G.nil (E.thenN ?_)
  refine WC.draw [0, 1, 2, 3, 4, 6, 7, 8, 9, 10, 11, 12, 13, 14, 15, 16, 17, 18, 19, 20, 21, 22, 23, 5, 24] mixed (by kernel_rfl) ?_
  intro w5 d5
  have L40 := L39.le d5
  refine G.run 1 rfl ?_
  refine G.a rfl (.nilCheck rfl) ?_
  refine G.a rfl (.field0 fa188_0 rfl) ?_
  have f41 := (((f23.le h4_5).ch h4_17_1 (fun h => (Ne.symm n1) (Option.some.inj h))).le d5)
  refine G.r rfl (.loadB (v := .map (some gm)) na186 rfl f41 rfl) ?_
  have f42 := (((f24.le h4_5).ch h4_17_1 (fun h => (show gm ≠ g0_0 from by have := hM0.lt; omega) (Option.some.inj h))).le d5)
  refine G.r rfl (.loadAll ag81 (by rfl) rfl f42) ?_
  refine G.a rfl (.field0 fa263_0 rfl) ?_
  have f43 := (((b2_15.le (d4.trans h4_5)).ch h4_17_1 (fun h => (show gm ≠ g13_2 from by have := hM0.lt; have := h0_0.size; have := h1_2.size; have := d2.size; omega) (Option.some.inj h))).le d5)
  refine G.r rfl (.loadB (v := .int .i64 ((cnt (getG (bkE e) la) e.r).lo)) na3 rfl f43 rfl) ?_
  refine G.run 1 rfl ?_
  refine G.a rfl (.add rfl rfl (by omega)) ?_
  refine G.a rfl (.field0 fa81_3 rfl) ?_
  refine G.r rfl (.loadB (v := .int .i64 (e.r)) na3 rfl f42 rfl) ?_
  refine G.r rfl (.min2 rfl rfl) ?_
  refine G.a rfl (.field0 fa263_1 rfl) ?_
  refine G.r rfl (.loadB (v := .int .i64 ((cnt (getG (bkE e) la) e.r).hi)) na3 rfl f43 rfl) ?_
  refine G.run 1 rfl ?_
  refine G.a rfl (.add rfl rfl (by omega)) ?_
  refine G.a rfl (.field0 fa81_3 rfl) ?_
  refine G.r rfl (.loadB (v := .int .i64 (e.r)) na3 rfl f42 rfl) ?_
  refine G.a rfl (.add rfl rfl (by omega)) ?_
  refine G.r rfl (.min2 rfl rfl) ?_
  refine G.a rfl (.field0 fa81_3 rfl) ?_
  refine G.r rfl (.loadB (v := .int .i64 (e.r)) na3 rfl f42 rfl) ?_
  refine G.a rfl (.buildP (ntV (⟨(min (((cnt (getG (bkE e) la) e.r).lo) + a) e.r), (min (((cnt (getG (bkE e) la) e.r).hi) + a) (e.r + 1)), e.r⟩ : Nt)) pl263 z263 rfl rfl) ?_
  refine G.ef rfl rfl rfl rfl rfl ?_
  refine Ef.call go181 rfl rfl (lback_ok e w5) ?_
  rintro _ w5_5_1 ⟨rfl, h5_5_1⟩
  refine ⟨_, rfl, ?_⟩
  refine ⟨fun _ => h5_5_1, ?_⟩
  have L44 := L40.le h5_5_1
  rcases optG (getG (bkE e) (la.map fun y => if y.2.1 = (wyE e) then (y.1, (wyE e), (⟨(max (((cnt (getG (wyE e) la) e.r).lo) - a) 0), (max (((cnt (getG (wyE e) la) e.r).hi) - a) ((max (((cnt (getG (wyE e) la) e.r).lo) - a) 0) + 1)), e.r⟩ : Nt)) else y)) with hk5_24_1 | ⟨vhk5_24_1, hk5_24_1⟩
  ·have f45 := (b4_17_1.le (d5.trans h5_5_1))
   refine G.ef0 rfl rfl rfl rfl ?_
   refine Ef.insertG (key := (bkE e)) (u := (⟨(min (((cnt (getG (bkE e) la) e.r).lo) + a) e.r), (min (((cnt (getG (bkE e) la) e.r).hi) + a) (e.r + 1)), e.r⟩ : Nt)) underlying186 kwy rfl rfl rfl f45 (hk5_24_1) ?_
   intro w5_24_2 b5_24_2 h5_24_2
   refine noT (by kernel_rfl) ?_
   have L46 : ChP w w5_24_2 (fun k => k = gm) := L44.ch h5_24_2 (fun i hi _ => by cases hi; exact rfl)
   refine G.nil (E.end_ ?_)
   refine E.ret0 rfl ?_
   have hf : movM (fun k => getG k la) e a = setM (setM (fun k => getG k la) (wyE e) (movN e a (ofM (fun k => getG k la) (wyE e) e.r))) (bkE e) (movB e a (ofM (fun k => getG k la) (bkE e) e.r)) := if_pos (by assumption)
   rw [hf]
   exact ⟨rfl, _, _, b5_24_2, fun k => by rw [getG_push hk5_24_1, getG_set ⟨_, hk4_17⟩]; rfl, L46⟩
  have f47 := (b4_17_1.le (d5.trans h5_5_1))
  refine G.ef0 rfl rfl rfl rfl ?_
  refine Ef.updateG (key := (bkE e)) (u := (⟨(min (((cnt (getG (bkE e) la) e.r).lo) + a) e.r), (min (((cnt (getG (bkE e) la) e.r).hi) + a) (e.r + 1)), e.r⟩ : Nt)) underlying186 kwy rfl rfl rfl f47 stay_wy (hk5_24_1) ?_
  intro w5_24_3 b5_24_3 h5_24_3
  refine noT (by kernel_rfl) ?_
  have L48 : ChP w w5_24_3 (fun k => k = gm) := L44.ch h5_24_3 (fun i hi _ => by cases hi; exact rfl)
  refine G.nil (E.end_ ?_)
  refine E.ret0 rfl ?_
  have hf : movM (fun k => getG k la) e a = setM (setM (fun k => getG k la) (wyE e) (movN e a (ofM (fun k => getG k la) (wyE e) e.r))) (bkE e) (movB e a (ofM (fun k => getG k la) (bkE e) e.r)) := if_pos (by assumption)
  rw [hf]
  exact ⟨rfl, _, _, b5_24_3, fun k => by rw [getG_set ⟨_, hk5_24_1⟩, getG_set ⟨_, hk4_17⟩]; rfl, L48⟩
 refine WC.condY rfl (congrArg not ((Bool.eq_false_iff.2 c0))) ?_
 refine WC.ret (E.thenR ?_)
 have f49 := (hM0.le (h0_0.trans h1_2))
 refine E.ret0 rfl ?_
 have hf : movM (fun k => getG k la) e a = (fun k => getG k la) := if_neg (by simp [c0])
 rw [hf]
 exact ⟨rfl, _, _, f49, fun k => rfl, L2⟩

theorem mov_mind {w : World} {base gp : Nat} {F : Nat -> Prop} {m : MF} (e : Gsp.Edge) (a : Int) (h : MPool w base gp F m) : Calls prog 87 #[.pointer (some ⟨gp, 0, none⟩), .agg (edgeV e).toArray, .int .i64 a] w (ActedM w base gp F (movM m e a)) := by
  obtain ⟨gm, la, ca, h1, h2, rfl, h4, h5, h6, h7, h8⟩ := h
  refine Calls.mono (lmov_ok e a w h1 h2 (goodG h4) h5) ?_
  rintro r w' ⟨hr, la', ca', k1, k2, k3⟩
  exact ⟨hr, ⟨gm, la', ca', h1.chP k3 h5, k1, funext k2, movM_good h4 e a, h5, h6, h7, h8⟩, fun k hk => .inl hk, k3.mono fun k hk _ => (h6 k).2 (.inr hk)⟩
end Go.Proofs.YtocheaahlpiajaaGreatDoor

namespace Go.Rtp
open Go.Gsp Go.Nsp Go.Msp Go.Proofs.YtocheaahlpiajaaGreatDoor
variable {g : List Gsp.Edge} {m : MF} {fr to a x : Int}
theorem getD_mem {α : Type} {l : List α} {z : α} {k : Nat} (h : k < l.length) : l.getD k z ∈ l := by
  have : l.getD k z = l[k] := by simp [List.getD, h]
  rw [this]; exact List.getElem_mem h
theorem best_unit (hm : GoodM m) (h : (bestR g m fr to a x).2.2 = 0) : okF (bestR g m fr to a x).2.1 /\ 0 < (bestR g m fr to a x).2.1.n /\ (bestR g m fr to a x).2.1.n <= (bestR g m fr to a x).2.1.d := by
  obtain ⟨_, h2, h3, _⟩ := bestR_ok hm h
  rw [h3]
  refine ⟨oddsR_ok h2.ok, Nat.pos_of_ne_zero h2.pos, ?_⟩
  rw [oddsR_of h2.cost]
  exact lowF_unit (a_unit hm _ _ _)
theorem try_none : ∀ l : List Int, l.foldl (tryS g fr to x) none = none
  | [] => rfl
  | _ :: l => try_none l
def sumI : List Int -> Int
  | [] => 0
  | y :: l => y + sumI l
theorem sumI_app : ∀ l k : List Int, sumI (l ++ k) = sumI l + sumI k
  | [], k => by show sumI k = 0 + sumI k; omega
  | y :: l, k => by
    show y + sumI (l ++ k) = y + sumI l + sumI k
    rw [sumI_app l k]; omega
theorem shares_sum (q r : Int) (hr : 0 <= r) : ∀ k : Nat, sumI ((List.range k).map fun i : Nat => q + (if (i : Int) < r then 1 else 0)) = k * q + min (k : Int) r
  | 0 => by show (0 : Int) = ((0 : Nat) : Int) * q + _; simp; omega
  | k + 1 => by
    rw [List.range_succ, List.map_append, sumI_app, shares_sum q r hr k]
    have e : ((k + 1 : Nat) : Int) * q = k * q + q := by rw [show ((k + 1 : Nat) : Int) = (k : Int) + 1 by omega, Int.add_mul]; omega
    rw [e]
    generalize (k : Int) * q = z
    show z + min (k : Int) r + ((q + if (k : Int) < r then 1 else 0) + 0) = _
    split <;> omega
theorem sharesL_ok {a n : Int} (h1 : 1 <= n) (h2 : n <= 8) (h3 : n <= a) : (sharesL a n).length = n.toNat /\ sumI (sharesL a n) = a /\ (∀ i, i < n.toNat -> (sharesL a n).getD i 0 = shareI a n i) /\ sharesL a n ≠ [] := by
  have e : sharesL a n = (List.range n.toNat).map (shareI a n) := by unfold sharesL; rw [if_neg (by omega)]
  rw [e]
  refine ⟨by simp, ?_, fun i hi => by simp [List.getD, hi], fun hh => by have := congrArg List.length hh; simp at this; omega⟩
  have hm := Int.emod_nonneg a (show n ≠ 0 by omega)
  have hl := Int.emod_lt_of_pos a (show 0 < n by omega)
  have k := shares_sum (a / n) (a % n) hm n.toNat
  have hd := Int.mul_ediv_add_emod a n
  have hn : ((n.toNat : Nat) : Int) = n := by omega
  rw [hn] at k
  show sumI ((List.range n.toNat).map fun i : Nat => a / n + (if (i : Int) < a % n then 1 else 0)) = a
  rw [k, show min n (a % n) = a % n by omega]
  exact hd
theorem splF_spec (hm : GoodM m) : ∀ k : Nat, ((List.range k).foldl (splS g m fr to a x) ([], ⟨0, 0⟩, 19) = ([], ⟨0, 0⟩, 19) /\ ∀ j, j < k -> (tryG g m fr to a x (j + 1)).2.2 ≠ 0) \/
    (∃ j : Nat, j < k /\ (List.range k).foldl (splS g m fr to a x) ([], ⟨0, 0⟩, 19) = tryG g m fr to a x (j + 1) /\ (tryG g m fr to a x (j + 1)).2.2 = 0)
  | 0 => .inl ⟨rfl, fun j hj => absurd hj (Nat.not_lt_zero _)⟩
  | k + 1 => by
    rw [List.range_succ, List.foldl_append]
    show (splS g m fr to a x _ k = _ /\ _) \/ ∃ j : Nat, j < k + 1 /\ splS g m fr to a x _ k = _ /\ _
    rcases splF_spec hm k with ⟨h1, h2⟩ | ⟨j, h1, h2, h3⟩
    · rw [h1]
      unfold splS
      by_cases h0 : (tryG g m fr to a x (k + 1)).2.2 = 0
      · rw [if_pos ⟨h0, .inl rfl⟩]
        exact .inr ⟨k, Nat.lt_succ_self k, rfl, h0⟩
      · rw [if_neg (fun hh => h0 hh.1)]
        refine .inl ⟨rfl, fun j hj => ?_⟩
        rcases Nat.lt_or_ge j k with q | q
        · exact h2 j q
        · rw [show j = k by omega]; exact h0
    · rw [h2]
      unfold splS
      split
      · rename_i hh
        exact .inr ⟨k, Nat.lt_succ_self k, rfl, hh.1⟩
      · exact .inr ⟨j, by omega, rfl, h3⟩
end Go.Rtp

namespace Go.Proofs.YtocheaahlpiajaaGreatDoor
open Go Go.Gsp Go.Nsp Go.Msp Go.Rtp
theorem bestR_len {g : List Gsp.Edge} {m : MF} {fr to a x : Int} (hm : GoodM m) : (bestR g m fr to a x).1.length <= 8 /\ (digs (bestR g m fr to a x).2.1.n).length <= 100 /\ (digs (bestR g m fr to a x).2.1.d).length <= 100 := by
  rcases bestR_errs (g := g) (fr := fr) (to := to) (a := a) (x := x) hm with h | h | h
  · obtain ⟨_, h2, h3, _⟩ := bestR_ok hm h
    have h1 := oddsR_len hm (bestR g m fr to a x).1 a x
    rw [<- h3] at h1
    exact ⟨(wayG_len h2.way).2, h1⟩
  · rw [h]; simp only [digs_zero]; decide
  · rw [h]; simp only [digs_zero]; decide
def LenF (f : Fr) (b : Nat) : Prop := (digs f.n).length <= b /\ (digs f.d).length <= b
theorem LenF.up {f : Fr} {b c : Nat} (h : LenF f b) (k : b <= c) : LenF f c := ⟨Nat.le_trans h.1 k, Nat.le_trans h.2 k⟩
theorem LenF.nil (b : Nat) : LenF ⟨0, 0⟩ b := by unfold LenF; simp only [digs_zero]; exact ⟨Nat.zero_le _, Nat.zero_le _⟩
theorem LenF.mul {p q : Fr} {b c : Nat} (hp : LenF p b) (hq : LenF q c) : LenF (mulF p q) (b + c) :=
  ⟨Nat.le_trans (digs_len_mono (lowF_le _ _).1) (Nat.le_trans (digs_mul_len _ _) (Nat.add_le_add hp.1 hq.1)), Nat.le_trans (digs_len_mono (lowF_le _ _).2) (Nat.le_trans (digs_mul_len _ _) (Nat.add_le_add hp.2 hq.2))⟩
section
variable {g : List Gsp.Edge} {m : MF} {fr to a x : Int}
theorem tryS_len {s t : TrS} (hm : GoodM s.m) {b : Nat} (h : LenF s.odds b) {share : Int} (hs : tryS g fr to x (some s) share = some t) : LenF t.odds (b + 100) /\ GoodM t.m := by
  unfold tryS at hs
  simp only at hs
  split at hs
  · cases hs
    exact ⟨h.mul ((bestR_len hm).2), sentK_good hm _ _ _⟩
  · cases hs
theorem try_len : ∀ (l : List Int) {s t : TrS} {b : Nat}, GoodM s.m -> LenF s.odds b -> l.foldl (tryS g fr to x) (some s) = some t -> LenF t.odds (b + 100 * l.length) /\ GoodM t.m
  | [], s, t, b, hm, h, ht => by cases ht; exact ⟨h, hm⟩
  | y :: l, s, t, b, hm, h, ht => by
    rw [List.foldl_cons] at ht
    cases hq : tryS g fr to x (some s) y with
    | none => rw [hq, try_none] at ht; cases ht
    | some u =>
      rw [hq] at ht
      obtain ⟨h1, h2⟩ := tryS_len hm h hq
      obtain ⟨k1, k2⟩ := try_len l h2 h1 ht
      exact ⟨k1.up (by simp only [List.length_cons]; omega), k2⟩
theorem try_next {l : List Int} {s : TrS} {k : Nat} (hk : k < l.length) (h : (l.take k).foldl (tryS g fr to x) (some ⟨[], ⟨1, 1⟩, m⟩) = some s) : (l.take (k + 1)).foldl (tryS g fr to x) (some ⟨[], ⟨1, 1⟩, m⟩) = tryS g fr to x (some s) (l.getD k 0) := by
  rw [List.take_add_one, List.foldl_append, h]
  simp [List.getD, hk]
theorem try_rest {l : List Int} {k : Nat} (h : (l.take k).foldl (tryS g fr to x) (some ⟨[], ⟨1, 1⟩, m⟩) = none) : l.foldl (tryS g fr to x) (some ⟨[], ⟨1, 1⟩, m⟩) = none := by
  rw [<- List.take_append_drop k l, List.foldl_append, h, try_none]
theorem try_cnt {l : List Int} {s t : TrS} (h : l.foldl (tryS g fr to x) (some s) = some t) : t.out.length = s.out.length + l.length := by
  induction l generalizing s with
  | nil => cases h; rfl
  | cons y l ih =>
    rw [List.foldl_cons] at h
    cases hq : tryS g fr to x (some s) y with
    | none => rw [hq, try_none] at h; cases h
    | some u =>
      rw [hq] at h
      have := ih h
      unfold tryS at hq
      simp only at hq
      split at hq
      · cases hq; simp at this ⊢; omega
      · cases hq
theorem tryG_none {n : Int} (h1 : ¬ (n < 1 \/ 8 < n \/ (bestR g m fr to a x).2.2 = 1)) (h : sharesL a n = [] \/ (sharesL a n).foldl (tryS g fr to x) (some ⟨[], ⟨1, 1⟩, m⟩) = none) : tryG g m fr to a x n = ([], ⟨0, 0⟩, 19) := by
  unfold tryG
  rw [if_neg h1]
  rcases h with h | h
  · rw [h]; rfl
  · by_cases e : sharesL a n = []
    · rw [e]; rfl
    · rw [if_neg e, h]
theorem tryG_some {n : Int} {s : TrS} (h1 : ¬ (n < 1 \/ 8 < n \/ (bestR g m fr to a x).2.2 = 1)) (h2 : sharesL a n ≠ []) (h : (sharesL a n).foldl (tryS g fr to x) (some ⟨[], ⟨1, 1⟩, m⟩) = some s) : tryG g m fr to a x n = (s.out, s.odds, 0) := by
  unfold tryG
  rw [if_neg h1, if_neg h2, h]
theorem tryG_bad {n : Int} (h1 : n < 1 \/ 8 < n \/ (bestR g m fr to a x).2.2 = 1) : tryG g m fr to a x n = ([], ⟨0, 0⟩, 1) := by unfold tryG; rw [if_pos h1]
theorem tryG_len (hm : GoodM m) {n : Int} : LenF (tryG g m fr to a x n).2.1 900 /\ (tryG g m fr to a x n).1.length <= 8 := by
  unfold tryG
  split
  · exact ⟨LenF.nil _, Nat.zero_le _⟩
  · rename_i h
    split
    · exact ⟨LenF.nil _, Nat.zero_le _⟩
    · rename_i s hs
      split at hs
      · rw [try_none] at hs; cases hs
      · rename_i hne
        have hna : n <= a := Decidable.byContradiction fun hna => hne (by unfold sharesL; rw [if_pos (by omega)])
        have hl := (sharesL_ok (by omega) (by omega) hna).1
        have h1 : LenF (⟨1, 1⟩ : Fr) 1 := ⟨digs_len_one (by decide), digs_len_one (by decide)⟩
        have k := (try_len _ (s := ⟨[], ⟨1, 1⟩, m⟩) hm h1 hs).1
        have kc := try_cnt hs
        refine ⟨k.up (by rw [hl]; omega), ?_⟩
        show s.out.length <= 8
        rw [kc, hl]
        show 0 + n.toNat <= 8
        omega
theorem splF_len (hm : GoodM m) : ∀ k : Nat, LenF ((List.range k).foldl (splS g m fr to a x) ([], ⟨0, 0⟩, 19)).2.1 900 /\ ((List.range k).foldl (splS g m fr to a x) ([], ⟨0, 0⟩, 19)).1.length <= 8 := fun k => by
  rcases splF_spec (g := g) (fr := fr) (to := to) (a := a) (x := x) hm k with ⟨h1, _⟩ | ⟨j, h1, h2, h3⟩
  · rw [h1]; exact ⟨LenF.nil _, Nat.zero_le _⟩
  · rw [h2]; exact tryG_len hm
theorem splitG_len (hm : GoodM m) {n : Int} : LenF (splitG g m fr to a x n).2.1 900 /\ (splitG g m fr to a x n).1.length <= 8 := by
  unfold splitG
  split
  · exact ⟨LenF.nil _, Nat.zero_le _⟩
  · exact splF_len hm _
end
end Go.Proofs.YtocheaahlpiajaaGreatDoor

