/- SplitProofs: for every input the law answers true and leaves its arguments as they were. -/
import Derived.Test.YtocheaahlpiajaaGreatDoorSplitProofsO
import Derived.Laws.Cover3
set_option linter.unusedVariables false
set_option linter.unusedSimpArgs false
namespace Go.Sx
theorem Any.notNil {P : Program} {env : Env} {n : Nat} {d : Option Nat} {T : TypeId} {p : String} {af : Array Edge} {gd : Option (Nat × Bool)} {t e ty : TypeId} {x : Operand} {A : Option Addr} {l c : Nat} (ht : P.underlying t = some (.slice e)) (hx : ev env x = some (.slice A l c)) :
    Any P env n ⟨d, .binOp .neq t x (.const (.slice none 0 0)) ty, T, p, af, gd⟩ (.bool !A.isNone) :=
  .bin hx rfl (fun _ => rfl) fun w => run_neq_slice_nil w t e A l c ht
end Go.Sx
namespace Go.Proofs.YtocheaahlpiajaaGreatDoor
open Tryz
open Go Go.Sx Go.Num Go.Gsp Go.Nsp Go.Msp Go.Rtp
set_option maxRecDepth 20000
set_option maxHeartbeats 4000000
def BestC (w : World) (bs gb : Nat) (b : Fnd) (Aw : Option Addr) (cw : Nat) (An : Option Addr) (cn : Nat) (Ad : Option Addr) (cd : Nat) : Prop :=
  Blk w gb 190 #[.slice Aw b.way.length cw, .slice An (digs b.odds.n).length cn, .slice Ad (digs b.odds.d).length cd, .int .i64 b.sent] /\ OVec w bs 81 edgeV 9 Aw b.way.length cw b.way /\ OVec w bs 273 dv 1 An (digs b.odds.n).length cn (digs b.odds.n) /\ OVec w bs 273 dv 1 Ad (digs b.odds.d).length cd (digs b.odds.d) /\ (b.way = [] -> Aw = none) /\ b.way.length <= 8 /\ (digs b.odds.n).length <= 100 /\ (digs b.odds.d).length <= 100
def BestAt (w : World) (bs gb : Nat) (b : Fnd) : Prop := ∃ Aw cw An cn Ad cd, BestC w bs gb b Aw cw An cn Ad cd
structure LookE (w : World) (base gp : Nat) (F : Nat -> Prop) (m : MF) (Ag : Option Addr) (ng cg : Nat) (g : List Gsp.Edge) (fr to a x : Int) (b2 b3 b4 gb b6 b7 b8 b9 : Nat) : Prop where
  h2 : Blk w b2 55 #[.pointer (some ⟨gp, 0, none⟩)]
  h3 : Blk w b3 3 #[.int .i64 a]
  h4 : Blk w b4 3 #[.int .i64 x]
  h6 : Blk w b6 3 #[.int .i64 fr]
  h7 : Blk w b7 32 #[.slice Ag ng cg]
  h8 : Blk w b8 3 #[.int .i64 to]
  h9 : Blk w b9 191 #[.func (.func 115) #[] #[.pointer (some ⟨b2, 0, none⟩), .pointer (some ⟨b3, 0, none⟩), .pointer (some ⟨b4, 0, none⟩), .pointer (some ⟨gb, 0, none⟩), .pointer (some ⟨b6, 0, none⟩), .pointer (some ⟨b7, 0, none⟩), .pointer (some ⟨b8, 0, none⟩), .pointer (some ⟨b9, 0, none⟩)]]
  hP : MPool w base gp F m
  hg : Vec w edgeV 9 Ag ng g
  n2 : b2 ≠ gb
  n3 : b3 ≠ gb
  n4 : b4 ≠ gb
  n6 : b6 ≠ gb
  n7 : b7 ≠ gb
  n8 : b8 ≠ gb
  n9 : b9 ≠ gb
  hPg : ∀ k, F k -> ¬ k = gb
  hgg : ∀ q, blkOf Ag = some q -> 0 < ng -> q < w.heap.size -> ¬ q = gb
  hng : ng <= 1000000
theorem LookE.chP {w w' : World} {base gp : Nat} {F : Nat -> Prop} {m : MF} {Ag : Option Addr} {ng cg : Nat} {g : List Gsp.Edge} {fr to a x : Int} {b2 b3 b4 gb b6 b7 b8 b9 : Nat} (h : LookE w base gp F m Ag ng cg g fr to a x b2 b3 b4 gb b6 b7 b8 b9) (hc : ChP w w' (fun k => k = gb)) : LookE w' base gp F m Ag ng cg g fr to a x b2 b3 b4 gb b6 b7 b8 b9 :=
  ⟨h.h2.chP hc h.n2, h.h3.chP hc h.n3, h.h4.chP hc h.n4, h.h6.chP hc h.n6, h.h7.chP hc h.n7, h.h8.chP hc h.n8, h.h9.chP hc h.n9, h.hP.chP hc h.hPg, h.hg.chP hc h.hgg, h.n2, h.n3, h.n4, h.n6, h.n7, h.n8, h.n9, h.hPg, fun q h1 h2 _ => h.hgg q h1 h2 (h.hg.blk_lt edgeV_row h2 h1), h.hng⟩
theorem lookR_cut {g : List Gsp.Edge} {m : MF} {fr to a x : Int} {k : Nat} {way : List Gsp.Edge} {at_ : Int} {b : Fnd} (h : cutR way (oddsR m way a x) b) : lookR g m fr to a x (k + 1) way at_ b = b := by rw [lookR, if_pos h]
theorem lookR_new {g : List Gsp.Edge} {m : MF} {fr to a x : Int} {k : Nat} {way : List Gsp.Edge} {at_ : Int} {b : Fnd} (h : ¬ cutR way (oddsR m way a x) b) (h1 : at_ = fr) (h2 : b.way = [] \/ betterR (fndR way (oddsR m way a x)) b = true) : lookR g m fr to a x (k + 1) way at_ b = fndR way (oddsR m way a x) := by rw [lookR, if_neg h, if_pos h1, if_pos h2]
theorem lookR_old {g : List Gsp.Edge} {m : MF} {fr to a x : Int} {k : Nat} {way : List Gsp.Edge} {at_ : Int} {b : Fnd} (h : ¬ cutR way (oddsR m way a x) b) (h1 : at_ = fr) (h2 : ¬ (b.way = [] \/ betterR (fndR way (oddsR m way a x)) b = true)) : lookR g m fr to a x (k + 1) way at_ b = b := by rw [lookR, if_neg h, if_pos h1, if_neg h2]
theorem lookR_end {g : List Gsp.Edge} {m : MF} {fr to a x : Int} {k : Nat} {way : List Gsp.Edge} {at_ : Int} {b : Fnd} (h : ¬ cutR way (oddsR m way a x) b) (h1 : at_ ≠ fr) (h2 : way.length = 8) : lookR g m fr to a x (k + 1) way at_ b = b := by rw [lookR, if_neg h, if_neg h1, if_pos h2]
theorem lookR_go {g : List Gsp.Edge} {m : MF} {fr to a x : Int} {k : Nat} {way : List Gsp.Edge} {at_ : Int} {b : Fnd} (h : ¬ cutR way (oddsR m way a x) b) (h1 : at_ ≠ fr) (h2 : way.length ≠ 8) : lookR g m fr to a x (k + 1) way at_ b = (inG g at_).foldl (stepR (lookR g m fr to a x k) way to) b := by rw [lookR, if_neg h, if_neg h1, if_neg h2]
theorem not_cut1 {way : List Gsp.Edge} {r : Fr × Int × Int} {b : Fnd} {n : Nat} (h : ¬ 0 < ((n : Nat) : Int)) (hl : way.length = n) : ¬ cutR way r b := fun hc => hc.1 (List.eq_nil_of_length_eq_zero (by omega))
theorem not_cut2 {way : List Gsp.Edge} {r : Fr × Int × Int} {b : Fnd} (h1 : ¬ r.2.2 ≠ 0) (h2 : ¬ (((digs r.1.n).length : Nat) : Int) = 0) (h3 : b.way = [] \/ ¬ cmpF (takF r.1) (takF b.odds) < 0) : ¬ cutR way r b := by
  rintro ⟨_, h | h | h⟩
  · exact h1 h
  · rw [h, digs_zero] at h2; exact h2 rfl
  · rcases h3 with k | k
    · exact h.1 k
    · exact k h.2
theorem cut_of {way : List Gsp.Edge} {r : Fr × Int × Int} {b : Fnd} {n : Nat} (h : 0 < ((n : Nat) : Int)) (hl : way.length = n) (hc : r.2.2 ≠ 0 \/ (((digs r.1.n).length : Nat) : Int) = 0 \/ (b.way ≠ [] /\ cmpF (takF r.1) (takF b.odds) < 0)) : cutR way r b := by
  refine ⟨fun hh => by rw [hh] at hl; simp at hl; omega, ?_⟩
  rcases hc with k | k | k
  · exact .inl k
  · exact .inr (.inl (Nat.eq_zero_of_not_pos fun hp => by have := digs_len_pos hp; omega))
  · exact .inr (.inr k)
theorem fold_next {α : Type} {f : Fnd -> α -> Fnd} {b : Fnd} {l : List α} {z : α} {k : Nat} (hk : k < l.length) : (l.take (k + 1)).foldl f b = f ((l.take k).foldl f b) (l.getD k z) := by
  rw [List.take_add_one, List.foldl_append]
  simp [List.getD, hk]
theorem seen_ok (y : Gsp.Edge) {ge : Nat} {e : Gsp.Edge} (w : World) (hge : Blk w ge 81 (edgeV e).toArray) : Calls prog 120 #[.agg (edgeV y).toArray, .pointer (some ⟨ge, 0, none⟩)] w fun r w' => r = .returned (.bool (decide (y.f = e.f))) /\ Le w w' := by
 refine enter func120 rfl rfl ?_
 have L0 := Le.refl w
 refine WC.sr (W.ef rfl rfl rfl ?_)
 refine Ef.boxA rfl ?_
 intro g0_0 w0_0 hg0_0 b0_0 h0_0
 have L1 := L0.trans h0_0
 have b0_0 : Blk w0_0 g0_0 81 (edgeV y).toArray := b0_0
 refine W.run 1 rfl (W.nx (WC.sr ?_))
 refine W.a (.field0 fa81_0 rfl) ?_
 refine W.r (.loadB (v := .int .i64 (y.f)) na3 rfl b0_0 rfl) ?_
 refine W.a (.field0 fa81_0 rfl) ?_
 refine W.r (.loadB (v := .int .i64 (e.f)) na3 rfl (hge.le L1) rfl) ?_
 refine W.run 2 rfl (W.nx (WC.ret ?_))
 refine E.retG1 rfl rfl ?_
 exact ⟨rB (by simp []), L1⟩

theorem rtcontains_ok {A : Option Addr} {n c : Nat} {xs : List Gsp.Edge} {F : Nat} {caps : Array Value} (pr : Gsp.Edge -> Bool) (hgo : IsGo prog F) (w : World) (hV : Vec w edgeV 9 A n xs) (hn : n <= 1000000) (hf : ∀ (e : Gsp.Edge) (w1 : World), Le w w1 -> Calls prog F (#[.agg (edgeV e).toArray] ++ caps) w1 fun r w2 => r = .returned (.bool (pr e)) /\ Le w1 w2) : Calls prog 119 #[.slice A n c, .func (.func F) #[] caps] w fun r w' => r = .returned (.bool (xs.any pr)) /\ Le w w' := by
 refine enter func119 rfl rfl ?_
 have L0 := Le.refl w
 refine WC.sr (W.run 1 rfl (W.nx (WC.sr (W.run 2 rfl ?_))))
 refine W.cl go221 rfl rfl (index_ok pr hgo w (hV.le L0) (by omega) (fun e w1 hl => hf e w1 (L0.trans hl))) ?_
 rintro _ w1_2 ⟨rfl, h1_2⟩
 have L1 := L0.trans h1_2
 refine W.run 2 rfl (W.nx (WC.ret ?_))
 refine E.retG1 rfl rfl ?_
 exact ⟨rB (by unfold idxE; cases hx : xs.any pr <;> simp), L1⟩

theorem look_step {bs base gp ng cg b2 b3 b4 gb b6 b7 b8 b9 : Nat} {F : Nat -> Prop} {m : MF} {Ag : Option Addr} {g : List Gsp.Edge} {fr to a x : Int} {k : Nat} {A : Option Addr} {n c : Nat} {way : List Gsp.Edge} (at_ : Int) {b : Fnd} {Aw An Ad : Option Addr} {cw cn cd : Nat} (w : World) (hE : LookE w base gp F m Ag ng cg g fr to a x b2 b3 b4 gb b6 b7 b8 b9) (ih : ∀ (way' : List Gsp.Edge) {A' : Option Addr} {n' c' : Nat} (hk1 : 1 <= k) (at' : Int) (b' : Fnd) (w1 : World), ChP w w1 (fun k => k = gb) -> OVec w1 bs 81 edgeV 9 A' n' c' way' -> n' + k = 9 -> 1 <= n' -> rowOf A' c' ≠ some gb -> BestAt w1 bs gb b' -> Calls prog 115 #[.slice A' n' c', .int .i64 at', .pointer (some ⟨b2, 0, none⟩), .pointer (some ⟨b3, 0, none⟩), .pointer (some ⟨b4, 0, none⟩), .pointer (some ⟨gb, 0, none⟩), .pointer (some ⟨b6, 0, none⟩), .pointer (some ⟨b7, 0, none⟩), .pointer (some ⟨b8, 0, none⟩), .pointer (some ⟨b9, 0, none⟩)] w1 fun r w2 => r = .returned (.tuple #[]) /\ BestAt w2 bs gb (lookR g m fr to a x k way' at' b') /\ ChP w1 w2 (fun k => k = gb)) (hbs0 : bs <= w.heap.size) (hW : OVec w bs 81 edgeV 9 A n c way) (hWg : rowOf A c ≠ some gb) (hnk : n + k = 8) (hB : BestC w bs gb b Aw cw An cn Ad cd) (hWn : n = 0 -> A = none) (hfr : n = 0 -> at_ ≠ fr) : Calls prog 115 #[.slice A n c, .int .i64 (at_), .pointer (some ⟨b2, 0, none⟩), .pointer (some ⟨b3, 0, none⟩), .pointer (some ⟨b4, 0, none⟩), .pointer (some ⟨gb, 0, none⟩), .pointer (some ⟨b6, 0, none⟩), .pointer (some ⟨b7, 0, none⟩), .pointer (some ⟨b8, 0, none⟩), .pointer (some ⟨b9, 0, none⟩)] w fun r w' => r = .returned (.tuple #[]) /\ BestAt w' bs gb (lookR g m fr to a x (k + 1) way at_ b) /\ ChP w w' (fun k => k = gb) := by
 obtain ⟨hB0, hBw, hBn, hBd, hBe, hBl, hBm, hBo⟩ := hB
 have hgm := hE.hP.good
 have hol := oddsR_len hgm way a x
 have hwl := hW.vec.1
 have hng := hE.hng
 have hbn : Aw.isNone = true -> b.way = [] := fun h => Decidable.byContradiction fun hh => by have := hBw.vec.isSome edgeV_row (List.length_pos_iff.2 hh); revert h this; cases Aw <;> simp
 have hbs : ¬ Aw.isNone = true -> b.way ≠ [] := fun h hh => h (by rw [hBe hh]; rfl)
 have hgl := hE.hg.1
 have hfl := List.length_filter_le (fun e => decide (e.t = at_)) g
 refine enter func115 rfl rfl ?_
 have L0 := ChP.refl w ((fun k => k = gb))
 refine WC.sr ?_
 refine W.r (.loadB (v := .pointer (some ⟨gp, 0, none⟩)) na55 rfl (hE.h2.chP L0 hE.n2) rfl) ?_
 refine W.run 1 rfl ?_
 refine W.r (.loadB (v := .int .i64 (a)) na3 rfl (hE.h3.chP L0 hE.n3) rfl) ?_
 refine W.r (.loadB (v := .int .i64 (x)) na3 rfl (hE.h4.chP L0 hE.n4) rfl) ?_
 refine W.cl go116 rfl rfl (rodds_ok a x w (hE.hP.chP L0 hE.hPg) hW.vec (by omega)) ?_
 rintro _ w0_4 ⟨An0_4, cn0_4, Ad0_4, cd0_4, rfl, on0_4, od0_4, h0_4⟩
 have L1 := L0.le h0_4
 refine W.run 1 rfl ?_
 refine W.a (.extract (v := .agg #[.slice An0_4 ((digs ((oddsR m way a x).1.n)).length) cn0_4, .slice Ad0_4 ((digs ((oddsR m way a x).1.d)).length) cd0_4]) rfl rfl) ?_
 refine W.run 2 rfl (W.ef rfl rfl rfl ?_)
 refine Ef.allocA z61 ?_
 intro g0_9 w0_9 hg0_9 b0_9 h0_9
 have L2 := L1.le h0_9
 have b0_9 : Blk w0_9 g0_9 61 #[.slice none 0 0, .slice none 0 0] := b0_9
 refine W.sA sz61 rfl rfl b0_9 ?_
 intro w0_10 b0_10 h0_10
 have b0_10 : Blk w0_10 g0_9 61 #[.slice An0_4 ((digs ((oddsR m way a x).1.n)).length) cn0_4, .slice Ad0_4 ((digs ((oddsR m way a x).1.d)).length) cd0_4] := b0_10
 have L3 : ChP w w0_10 ((fun k => k = gb)) := L2.ch h0_10 (fun i hi hlt => by cases hi; exact absurd hlt (by have := L1.size; have := hg0_9; omega))
 refine W.run 2 rfl (W.nx (WC.seq (WC.sr (W.run 1 rfl ?_))))
 refine W.r (.len underlying32 rfl) ?_
 refine W.run 1 rfl ?_
 by_cases q1_3 : 0 < ((n : Nat) : Int)
 ·refine W.dt q1_3 rfl rfl (W.run 2 rfl ?_)
  by_cases q1_6 : ((oddsR m way a x).2.2) ≠ 0
  ·refine W.g (Any.rd (.dec (.move rfl) (decide_eq_true q1_6)) _) ?_
   refine W.run 4 rfl ?_
   refine W.g (Any.rd (.pickT rfl rfl rfl) _) ?_
   refine W.run 5 rfl ?_
   refine W.skipu rfl rfl rfl rfl rfl ?_
   refine W.skipu rfl rfl rfl rfl rfl ?_
   refine W.skipu rfl rfl rfl rfl rfl ?_
   refine W.skipu rfl rfl rfl rfl rfl ?_
   refine W.skipu rfl rfl rfl rfl rfl ?_
   refine W.run 1 rfl ?_
   refine W.g (Any.rd (.pickT rfl rfl rfl) _) ?_
   refine W.run 1 rfl (W.nx (WC.condT rfl (WC.ret (E.thenR ?_))))
   have f4 := ((hB0.le (h0_4.trans h0_9)).ch h0_10 (fun h => (show g0_9 ≠ gb from by have := hB0.lt; have := h0_4.size; omega) (Option.some.inj h)))
   have f5 := ((hBw.le (h0_4.trans h0_9)).ch h0_10 (fun q hq => by cases hq; exact (fun he => by have := (hBw.row he).2; have := h0_4.size; omega)))
   have f6 := ((hBn.le (h0_4.trans h0_9)).ch h0_10 (fun q hq => by cases hq; exact (fun he => by have := (hBn.row he).2; have := h0_4.size; omega)))
   have f7 := ((hBd.le (h0_4.trans h0_9)).ch h0_10 (fun q hq => by cases hq; exact (fun he => by have := (hBd.row he).2; have := h0_4.size; omega)))
   refine E.ret0 rfl ?_
   have hlk : lookR g m fr to a x (k + 1) way at_ b = b := (by first | exact lookR_cut (cut_of q1_3 hwl (.inl q1_6)) | exact lookR_cut (cut_of q1_3 hwl (.inr (.inl q1_12))) | exact lookR_cut (cut_of q1_3 hwl (.inr (.inr ⟨hbs q1_16, c0⟩))) | exact lookR_old (by first | exact not_cut1 q1_3 hwl | exact not_cut2 q1_6 q1_12 (.inl (hbn q1_16)) | exact not_cut2 q1_6 q1_12 (.inr c0)) c1 (fun hh => hh.elim (hbs q1_16) c2) | exact lookR_old (by first | exact not_cut1 q1_3 hwl | exact not_cut2 q1_6 q1_12 (.inl (hbn q1_16)) | exact not_cut2 q1_6 q1_12 (.inr c0)) c1 (fun hh => hh.elim (hbs q4_3) c2) | exact lookR_end (by first | exact not_cut1 q1_3 hwl | exact not_cut2 q1_6 q1_12 (.inl (hbn q1_16)) | exact not_cut2 q1_6 q1_12 (.inr c0)) c1 (by rw [hwl]; omega))
   rw [hlk]
   exact ⟨rfl, ⟨_, _, _, _, _, _, f4, f5, f6, f7, hBe, hBl, hBm, hBo⟩, L3⟩
  refine W.g (Any.rd (.dec (.move rfl) (decide_eq_false q1_6)) _) ?_
  refine W.g (Any.rd (.field0 fa61_0 rfl) _) ?_
  refine W.g (.loadB (v := .slice An0_4 ((digs ((oddsR m way a x).1.n)).length) cn0_4) na59 rfl b0_10 rfl) ?_
  refine W.g (.len underlying59 rfl) ?_
  refine W.run 1 rfl ?_
  refine W.g (Any.rd (.pickF rfl rfl rfl) _) ?_
  by_cases q1_12 : (((digs ((oddsR m way a x).1.n)).length : Nat) : Int) = 0
  ·refine W.g (Any.rd (.dec (.move rfl) (decide_eq_true q1_12)) _) ?_
   refine W.run 4 rfl ?_
   refine W.skipu rfl rfl rfl rfl rfl ?_
   refine W.skipu rfl rfl rfl rfl rfl ?_
   refine W.skipu rfl rfl rfl rfl rfl ?_
   refine W.skipu rfl rfl rfl rfl rfl ?_
   refine W.skipu rfl rfl rfl rfl rfl ?_
   refine W.run 1 rfl ?_
   refine W.g (Any.rd (.pickT rfl rfl rfl) _) ?_
   refine W.run 1 rfl (W.nx (WC.condT rfl (WC.ret (E.thenR ?_))))
   have f8 := ((hB0.le (h0_4.trans h0_9)).ch h0_10 (fun h => (show g0_9 ≠ gb from by have := hB0.lt; have := h0_4.size; omega) (Option.some.inj h)))
   have f9 := ((hBw.le (h0_4.trans h0_9)).ch h0_10 (fun q hq => by cases hq; exact (fun he => by have := (hBw.row he).2; have := h0_4.size; omega)))
   have f10 := ((hBn.le (h0_4.trans h0_9)).ch h0_10 (fun q hq => by cases hq; exact (fun he => by have := (hBn.row he).2; have := h0_4.size; omega)))
   have f11 := ((hBd.le (h0_4.trans h0_9)).ch h0_10 (fun q hq => by cases hq; exact (fun he => by have := (hBd.row he).2; have := h0_4.size; omega)))
   refine E.ret0 rfl ?_
   have hlk : lookR g m fr to a x (k + 1) way at_ b = b := (by first | exact lookR_cut (cut_of q1_3 hwl (.inl q1_6)) | exact lookR_cut (cut_of q1_3 hwl (.inr (.inl q1_12))) | exact lookR_cut (cut_of q1_3 hwl (.inr (.inr ⟨hbs q1_16, c0⟩))) | exact lookR_old (by first | exact not_cut1 q1_3 hwl | exact not_cut2 q1_6 q1_12 (.inl (hbn q1_16)) | exact not_cut2 q1_6 q1_12 (.inr c0)) c1 (fun hh => hh.elim (hbs q1_16) c2) | exact lookR_old (by first | exact not_cut1 q1_3 hwl | exact not_cut2 q1_6 q1_12 (.inl (hbn q1_16)) | exact not_cut2 q1_6 q1_12 (.inr c0)) c1 (fun hh => hh.elim (hbs q4_3) c2) | exact lookR_end (by first | exact not_cut1 q1_3 hwl | exact not_cut2 q1_6 q1_12 (.inl (hbn q1_16)) | exact not_cut2 q1_6 q1_12 (.inr c0)) c1 (by rw [hwl]; omega))
   rw [hlk]
   exact ⟨rfl, ⟨_, _, _, _, _, _, f8, f9, f10, f11, hBe, hBl, hBm, hBo⟩, L3⟩
  refine W.g (Any.rd (.dec (.move rfl) (decide_eq_false q1_12)) _) ?_
  refine W.g (Any.rd (.field0 fa190_0 rfl) _) ?_
  have f12 := ((hB0.le (h0_4.trans h0_9)).ch h0_10 (fun h => (show g0_9 ≠ gb from by have := hB0.lt; have := h0_4.size; omega) (Option.some.inj h)))
  refine W.g (.loadB (v := .slice Aw b.way.length cw) na32 rfl f12 rfl) ?_
  refine W.g (Any.rd (.notNil underlying32 rfl) _) ?_
  by_cases q1_16 : Aw.isNone = true
  ·refine W.g (Any.rd (.dec (.move rfl) (congrArg not (q1_16))) _) ?_
   refine W.run 5 rfl ?_
   refine W.g (Any.rd (.pickF rfl rfl rfl) _) ?_
   refine W.g (Any.rd (.pickF rfl rfl rfl) _) ?_
   refine W.run 1 rfl (W.nx (WC.condF rfl (WC.sn (WC.seq (WC.sr (W.run 1 rfl ?_))))))
   refine W.r (.loadB (v := .int .i64 (fr)) na3 rfl (hE.h6.chP L3 hE.n6) rfl) ?_
   refine W.run 1 rfl (W.nx ?_)
   by_cases c1 : at_ = fr
   ·refine WC.condY rfl (decide_eq_true c1) ?_
    refine WC.seq (WC.sr (W.run 1 rfl ?_))
    refine W.r (.loadAll ag61 (by rfl) rfl b0_10) ?_
    refine W.run 1 rfl ?_
    refine W.a (.buildP [.slice A n c, .slice An0_4 ((digs ((oddsR m way a x).1.n)).length) cn0_4, .slice Ad0_4 ((digs ((oddsR m way a x).1.d)).length) cd0_4, .int .i64 ((oddsR m way a x).2.1)] pl190 z190 rfl rfl) ?_
    refine W.ef rfl rfl rfl ?_
    refine Ef.allocA z190 ?_
    intro g3_4 w3_4 hg3_4 b3_4 h3_4
    have L13 := L3.le h3_4
    have b3_4 : Blk w3_4 g3_4 190 #[.slice none 0 0, .slice none 0 0, .slice none 0 0, .int .i64 (0)] := b3_4
    refine W.sA sz190 rfl rfl b3_4 ?_
    intro w3_5 b3_5 h3_5
    have b3_5 : Blk w3_5 g3_4 190 #[.slice A n c, .slice An0_4 ((digs ((oddsR m way a x).1.n)).length) cn0_4, .slice Ad0_4 ((digs ((oddsR m way a x).1.d)).length) cd0_4, .int .i64 ((oddsR m way a x).2.1)] := b3_5
    have L14 : ChP w w3_5 ((fun k => k = gb)) := L13.ch h3_5 (fun i hi hlt => by cases hi; exact absurd hlt (by have := L3.size; have := hg3_4; omega))
    refine W.nx (WC.sr ?_)
    refine W.a (.field0 fa190_0 rfl) ?_
    have f15 := ((f12.le h3_4).ch h3_5 (fun h => (show g3_4 ≠ gb from by have := f12.lt; omega) (Option.some.inj h)))
    refine W.r (.loadB (v := .slice Aw b.way.length cw) na32 rfl f15 rfl) ?_
    refine W.a (.isNil underlying32 rfl) ?_
    refine W.a (.dec (.move rfl) (q1_16)) ?_
    refine W.run 4 rfl (W.nx (WC.condT rfl (WC.region ?_)))
    refine W.r (.loadAll ag190 (by rfl) rfl b3_5) ?_
    refine W.sA sz190 rfl rfl f15 ?_
    intro w5_1 b5_1 h5_1
    have b5_1 : Blk w5_1 gb 190 #[.slice A n c, .slice An0_4 ((digs ((oddsR m way a x).1.n)).length) cn0_4, .slice Ad0_4 ((digs ((oddsR m way a x).1.d)).length) cd0_4, .int .i64 ((oddsR m way a x).2.1)] := b5_1
    have L16 : ChP w w5_1 ((fun k => k = gb)) := L14.ch h5_1 (fun i hi _ => by cases hi; exact rfl)
    refine W.nx (WC.ret (E.thenR ?_))
    have f17 := (((((hW.le (h0_4.trans h0_9)).ch h0_10 (fun q hq => by cases hq; exact (fun he => by have := (hW.row he).2; have := h0_4.size; omega))).le h3_4).ch h3_5 (fun q hq => by cases hq; exact (fun he => by have := (hW.row he).2; have := h0_4.size; have := h0_9.size; have := h0_10.size; omega))).ch h5_1 (fun q hq => by cases hq; exact hWg))
    have f18 := (((((on0_4.le h0_9).ch h0_10 (fun q hq => by cases hq; exact (fun he => by have := (on0_4.row he).2; omega))).le h3_4).ch h3_5 (fun q hq => by cases hq; exact (fun he => by have := (on0_4.row he).2; have := h0_9.size; have := h0_10.size; omega))).ch h5_1 (fun q hq => by cases hq; exact (fun he => by have := (on0_4.row he).1; have := hB0.lt; omega)))
    have f19 := (((((od0_4.le h0_9).ch h0_10 (fun q hq => by cases hq; exact (fun he => by have := (od0_4.row he).2; omega))).le h3_4).ch h3_5 (fun q hq => by cases hq; exact (fun he => by have := (od0_4.row he).2; have := h0_9.size; have := h0_10.size; omega))).ch h5_1 (fun q hq => by cases hq; exact (fun he => by have := (od0_4.row he).1; have := hB0.lt; omega)))
    refine E.ret0 rfl ?_
    have hnc : ¬ cutR way (oddsR m way a x) b := (by first | exact not_cut1 q1_3 hwl | exact not_cut2 q1_6 q1_12 (.inl (hbn q1_16)) | exact not_cut2 q1_6 q1_12 (.inr c0))
    have hwn : way ≠ [] := fun hh => by first | exact absurd ((congrArg List.length hh).symm.trans hwl) (by simp; omega) | exact absurd c1 (hfr (by omega))
    have hlk : lookR g m fr to a x (k + 1) way at_ b = (fndR way (oddsR m way a x)) := lookR_new hnc c1 (by first | exact .inl (hbn q1_16) | exact .inl (hbn q4_3) | exact .inr c2)
    rw [hlk]
    subst hwl
    exact ⟨rfl, ⟨_, _, _, _, _, _, b5_1, f17, (f18.mono hbs0), (f19.mono hbs0), fun h => absurd h hwn, (show way.length <= 8 by omega), hol.1, hol.2⟩, L16⟩
   refine WC.condN rfl (decide_eq_false c1) ?_
   refine WC.sn (WC.seq (WC.sr (W.run 1 rfl ?_)))
   refine W.r (.len underlying32 rfl) ?_
   refine W.run 1 rfl (W.nx ?_)
   by_cases c3 : ((n : Nat) : Int) = 8
   ·refine WC.condY rfl (decide_eq_true c3) ?_
    refine WC.ret (E.thenR ?_)
    have f20 := ((hBw.le (h0_4.trans h0_9)).ch h0_10 (fun q hq => by cases hq; exact (fun he => by have := (hBw.row he).2; have := h0_4.size; omega)))
    have f21 := ((hBn.le (h0_4.trans h0_9)).ch h0_10 (fun q hq => by cases hq; exact (fun he => by have := (hBn.row he).2; have := h0_4.size; omega)))
    have f22 := ((hBd.le (h0_4.trans h0_9)).ch h0_10 (fun q hq => by cases hq; exact (fun he => by have := (hBd.row he).2; have := h0_4.size; omega)))
    refine E.ret0 rfl ?_
    have hlk : lookR g m fr to a x (k + 1) way at_ b = b := (by first | exact lookR_cut (cut_of q1_3 hwl (.inl q1_6)) | exact lookR_cut (cut_of q1_3 hwl (.inr (.inl q1_12))) | exact lookR_cut (cut_of q1_3 hwl (.inr (.inr ⟨hbs q1_16, c0⟩))) | exact lookR_old (by first | exact not_cut1 q1_3 hwl | exact not_cut2 q1_6 q1_12 (.inl (hbn q1_16)) | exact not_cut2 q1_6 q1_12 (.inr c0)) c1 (fun hh => hh.elim (hbs q1_16) c2) | exact lookR_old (by first | exact not_cut1 q1_3 hwl | exact not_cut2 q1_6 q1_12 (.inl (hbn q1_16)) | exact not_cut2 q1_6 q1_12 (.inr c0)) c1 (fun hh => hh.elim (hbs q4_3) c2) | exact lookR_end (by first | exact not_cut1 q1_3 hwl | exact not_cut2 q1_6 q1_12 (.inl (hbn q1_16)) | exact not_cut2 q1_6 q1_12 (.inr c0)) c1 (by rw [hwl]; omega))
    rw [hlk]
    exact ⟨rfl, ⟨_, _, _, _, _, _, f12, f20, f21, f22, hBe, hBl, hBm, hBo⟩, L3⟩
   refine WC.condN rfl (decide_eq_false c3) ?_
   refine WC.sn (WC.sr ?_)
   refine W.r (.loadB (v := .slice Ag ng cg) na32 rfl (hE.h7.chP L3 hE.n7) rfl) ?_
   refine W.run 1 rfl ?_
   refine W.cl go118 rfl rfl (in_ok at_ w0_10 (hE.hg.chP L3 hE.hgg) (by omega)) ?_
   rintro _ w7_2 ⟨Ao7_2, co7_2, rfl, oo7_2, h7_2⟩
   have L23 := L3.le h7_2
   refine W.r (.len underlying32 rfl) ?_
   refine W.run 1 rfl (W.nx (WC.block ?_))
   have f24 := (f12.le h7_2)
   have f25 := (((hBw.le (h0_4.trans h0_9)).ch h0_10 (fun q hq => by cases hq; exact (fun he => by have := (hBw.row he).2; have := h0_4.size; omega))).le h7_2)
   have f26 := (((hBn.le (h0_4.trans h0_9)).ch h0_10 (fun q hq => by cases hq; exact (fun he => by have := (hBn.row he).2; have := h0_4.size; omega))).le h7_2)
   have f27 := (((hBd.le (h0_4.trans h0_9)).ch h0_10 (fun q hq => by cases hq; exact (fun he => by have := (hBd.row he).2; have := h0_4.size; omega))).le h7_2)
   have f28 := (((hW.le (h0_4.trans h0_9)).ch h0_10 (fun q hq => by cases hq; exact (fun he => by have := (hW.row he).2; have := h0_4.size; omega))).le h7_2)
   refine WC.loop (ι := Nat × Fnd × ((Option Addr)) × Nat × ((Option Addr)) × Nat × ((Option Addr)) × Nat) (fun ⟨j, bk, Ax, cx, Ay, cy, Az, cz⟩ => [(0, .slice A n c), (8, .pointer (some ⟨b8, 0, none⟩)), (9, .pointer (some ⟨b9, 0, none⟩)), (73, .slice Ao7_2 ((g.filter (fun e => decide (e.t = at_))).length) co7_2), (74, .int .i64 ((((g.filter (fun e => decide (e.t = at_))).length : Nat) : Int))), (75, .int .i64 (((j : Nat) : Int)))]) (fun ⟨j, bk, Ax, cx, Ay, cy, Az, cz⟩ wl0 => (j <= (g.filter (fun e => decide (e.t = at_))).length) /\ (bk = ((g.filter (fun e => decide (e.t = at_))).take j).foldl (stepR (lookR g m fr to a x k) way to) b) /\ (bk.way = [] -> Ax = none) /\ (bk.way.length <= 8 /\ (digs bk.odds.n).length <= 100 /\ (digs bk.odds.d).length <= 100) /\ ChP w wl0 ((fun k => k = gb)) /\ w7_2.heap.size <= wl0.heap.size /\ OVec wl0 bs 81 edgeV 9 A n c way /\ OVec wl0 w0_10.heap.size 81 edgeV 9 Ao7_2 ((g.filter (fun e => decide (e.t = at_))).length) co7_2 (g.filter (fun e => decide (e.t = at_))) /\ OVec wl0 bs 81 edgeV 9 Ax bk.way.length cx bk.way /\ OVec wl0 bs 273 dv 1 Ay ((digs bk.odds.n).length) cy (digs bk.odds.n) /\ OVec wl0 bs 273 dv 1 Az ((digs bk.odds.d).length) cz (digs bk.odds.d) /\ Blk wl0 gb 190 #[.slice Ax bk.way.length cx, .slice Ay ((digs bk.odds.n).length) cy, .slice Az ((digs bk.odds.d).length) cz, .int .i64 (bk.sent)]) (fun ⟨j, bk, Ax, cx, Ay, cy, Az, cz⟩ => (g.filter (fun e => decide (e.t = at_))).length - j) (0, b, Aw, cw, An, cn, Ad, cd) ?_ ?_ ?_
   ·exact .cons rfl (.cons rfl (.cons rfl (.cons rfl (.cons rfl (.cons rfl (.nil _))))))
   ·exact ⟨Nat.zero_le _, rfl, hBe, ⟨hBl, hBm, hBo⟩, L23, Nat.le_refl _, f28, oo7_2, f25, f26, f27, f24⟩
   rintro ⟨j, bk, Ax, cx, Ay, cy, Az, cz⟩ wl0 ⟨hj, hbk, hbe, hbl, Ll0, zl0, f0_0, f0_1, f0_2, f0_3, f0_4, f0_5⟩
   have lb0_19 : w0_10.heap.size <= wl0.heap.size := by have := h7_2.size; omega
   refine WC.sr (W.run 1 rfl (W.nx (WC.seq ?_)))
   by_cases c4 : ((j : Nat) : Int) < (((g.filter (fun e => decide (e.t = at_))).length : Nat) : Int)
   ·refine WC.condY rfl (decide_eq_true c4) ?_
    refine WC.sn (WC.seq (WC.block (WC.sr ?_)))
    refine W.a (.idxS (j) underlying32 sz81 rfl rfl (oo7_2.vec.isSome edgeV_row (by omega)) (rfl) (by omega)) ?_
    refine W.r (.vload ag81 rfl f0_1.vec edgeV_row (getS (g.filter (fun e => decide (e.t = at_))) noEdge (by first | omega | (simp only [List.length_cons, List.length_nil]; omega)))) ?_
    refine W.ef rfl rfl rfl ?_
    refine Ef.allocA z81 ?_
    intro g9_2 w9_2 hg9_2 b9_2 h9_2
    have L29 := Ll0.le h9_2
    have b9_2 : Blk w9_2 g9_2 81 (edgeV noEdge).toArray := b9_2
    refine W.ef0 rfl rfl ?_
    refine Ef.storeAll sz81 (by rfl) rfl rfl b9_2 (by simp only [List.size_toArray, edgeV_row.len]) (edgeV_row.one ((g.filter (fun e => decide (e.t = at_))).getD j noEdge)) ?_
    intro w9_3 b9_3 h9_3
    have b9_3 : Blk w9_3 g9_2 81 (edgeV ((g.filter (fun e => decide (e.t = at_))).getD j noEdge)).toArray := b9_3
    have L30 : ChP w w9_3 ((fun k => k = gb)) := L29.ch h9_3 (fun i hi hlt => by cases hi; exact absurd hlt (by have := Ll0.size; have := hg9_2; omega))
    refine W.nx (WC.seq (WC.sr ?_))
    refine W.a (.field0 fa81_0 rfl) ?_
    refine W.r (.loadB (v := .int .i64 (((g.filter (fun e => decide (e.t = at_))).getD j noEdge).f)) na3 rfl b9_3 rfl) ?_
    refine W.r (.loadB (v := .int .i64 (to)) na3 rfl (hE.h8.chP L30 hE.n8) rfl) ?_
    refine W.run 1 rfl ?_
    by_cases q10_4 : (((g.filter (fun e => decide (e.t = at_))).getD j noEdge).f) = to
    ·refine W.dt q10_4 rfl rfl (W.run 4 rfl (W.nx (WC.condT rfl (WC.exit (E.thenX (E.blkH (E.thenN (WC.region ?_))))))))
     refine W.a (.add rfl rfl (by omega)) ?_
     refine W.run 1 rfl (W.nil ?_)
     have f31 := ((f0_0.le h9_2).ch h9_3 (fun q hq => by cases hq; exact (fun he => by have := (f0_0.row he).2; omega)))
     have f32 := ((f0_1.le h9_2).ch h9_3 (fun q hq => by cases hq; exact (fun he => by have := (f0_1.row he).2; omega)))
     have f33 := ((f0_2.le h9_2).ch h9_3 (fun q hq => by cases hq; exact (fun he => by have := (f0_2.row he).2; omega)))
     have f34 := ((f0_3.le h9_2).ch h9_3 (fun q hq => by cases hq; exact (fun he => by have := (f0_3.row he).2; omega)))
     have f35 := ((f0_4.le h9_2).ch h9_3 (fun q hq => by cases hq; exact (fun he => by have := (f0_4.row he).2; omega)))
     have f36 := ((f0_5.le h9_2).ch h9_3 (fun h => (show g9_2 ≠ gb from by have := f0_5.lt; omega) (Option.some.inj h)))
     refine E.again (j + 1, bk, Ax, cx, Ay, cy, Az, cz) (.cons rfl (.cons rfl (.cons rfl (.cons rfl (.cons rfl (.cons rfl (.nil _))))))) ?_ ?_
     ·exact ⟨by omega, (by rw [fold_next (z := noEdge) (l := (g.filter (fun e => decide (e.t = at_)))) (by omega), <- hbk]; exact (if_pos (by first | (unfold skipR; rw [decide_eq_true q10_4]; exact Bool.true_or _) | (unfold skipR; rw [c5]; exact Bool.or_true _))).symm), hbe, hbl, L30, by have := zl0; have := h9_2.size; have := h9_3.size; omega, f31, f32, f33, f34, f35, f36⟩
     first | omega | (simp only []; omega)
    refine W.df q10_4 rfl rfl (W.run 1 rfl ?_)
    refine W.g (Any.rd (.makeFunc rfl) _) ?_
    have f37 := ((f0_0.le h9_2).ch h9_3 (fun q hq => by cases hq; exact (fun he => by have := (f0_0.row he).2; omega)))
    refine W.efg rfl rfl rfl (rfl) rfl rfl ?_
    refine Ef.call go119 rfl rfl (rtcontains_ok (fun y => decide (y.f = ((g.filter (fun e => decide (e.t = at_))).getD j noEdge).f)) go120 w9_3 f37.vec (by omega) (fun y w1 hl => seen_ok y w1 (b9_3.le hl))) ?_
    rintro _ w10_7 ⟨rfl, h10_7⟩
    refine ⟨_, rfl, ?_⟩
    have L38 := L30.le h10_7
    refine W.run 1 rfl (W.nx ?_)
    by_cases c5 : (way.any (fun y => decide (y.f = ((g.filter (fun e => decide (e.t = at_))).getD j noEdge).f))) = true
    ·refine WC.condY rfl (c5) ?_
     refine WC.exit (E.thenX (E.blkH (E.thenN (WC.region ?_))))
     refine W.a (.add rfl rfl (by omega)) ?_
     refine W.run 1 rfl (W.nil ?_)
     have f39 := (f37.le h10_7)
     have f40 := (((f0_1.le h9_2).ch h9_3 (fun q hq => by cases hq; exact (fun he => by have := (f0_1.row he).2; omega))).le h10_7)
     have f41 := (((f0_2.le h9_2).ch h9_3 (fun q hq => by cases hq; exact (fun he => by have := (f0_2.row he).2; omega))).le h10_7)
     have f42 := (((f0_3.le h9_2).ch h9_3 (fun q hq => by cases hq; exact (fun he => by have := (f0_3.row he).2; omega))).le h10_7)
     have f43 := (((f0_4.le h9_2).ch h9_3 (fun q hq => by cases hq; exact (fun he => by have := (f0_4.row he).2; omega))).le h10_7)
     have f44 := (((f0_5.le h9_2).ch h9_3 (fun h => (show g9_2 ≠ gb from by have := f0_5.lt; omega) (Option.some.inj h))).le h10_7)
     refine E.again (j + 1, bk, Ax, cx, Ay, cy, Az, cz) (.cons rfl (.cons rfl (.cons rfl (.cons rfl (.cons rfl (.cons rfl (.nil _))))))) ?_ ?_
     ·exact ⟨by omega, (by rw [fold_next (z := noEdge) (l := (g.filter (fun e => decide (e.t = at_)))) (by omega), <- hbk]; exact (if_pos (by first | (unfold skipR; rw [decide_eq_true q10_4]; exact Bool.true_or _) | (unfold skipR; rw [c5]; exact Bool.or_true _))).symm), hbe, hbl, L38, by have := zl0; have := h9_2.size; have := h9_3.size; have := h10_7.size; omega, f39, f40, f41, f42, f43, f44⟩
     first | omega | (simp only []; omega)
    refine WC.condN rfl ((Bool.eq_false_iff.2 c5)) ?_
    refine WC.sn ?_
    refine WC.drawR (fun w11 w' => ChP w w' ((fun k => k = gb)) /\ Blk w' g9_2 81 (edgeV ((g.filter (fun e => decide (e.t = at_))).getD j noEdge)).toArray) [0, 1, 3, 5, 6, 2, 4, 7] mixed (by kernel_rfl) ?_
    intro w11 d11
    have L45 := L38.le d11
    have f46 := (b9_3.le (h10_7.trans d11))
    refine ⟨⟨L45, f46⟩, ?_⟩
    refine GR.rd rfl rfl (fun w' hs => .loadB (v := .func (.func 115) #[] #[.pointer (some ⟨b2, 0, none⟩), .pointer (some ⟨b3, 0, none⟩), .pointer (some ⟨b4, 0, none⟩), .pointer (some ⟨gb, 0, none⟩), .pointer (some ⟨b6, 0, none⟩), .pointer (some ⟨b7, 0, none⟩), .pointer (some ⟨b8, 0, none⟩), .pointer (some ⟨b9, 0, none⟩)]) na191 rfl (hE.h9.chP hs.1 hE.n9) rfl) rfl rfl rfl ?_
    refine GR.rd rfl rfl (fun w' hs => .loadAll ag81 (by rfl) rfl hs.2) rfl rfl rfl ?_
    refine GR.any rfl rfl (.move rfl) rfl rfl rfl ?_
    refine GR.any rfl rfl (.field0 fa81_0 rfl) rfl rfl rfl ?_
    refine GR.rd rfl rfl (fun w' hs => .loadB (v := .int .i64 (((g.filter (fun e => decide (e.t = at_))).getD j noEdge).f)) na3 rfl hs.2 rfl) rfl rfl rfl ?_
    refine GR.ef rfl rfl rfl rfl rfl ?_
    refine Ef.buildSliceV (len := 1) [_] underlying32 el81 rfl (by simp [Value.cells, edgeV_row.len]) rfl (by decide) (by decide) ?_
    intro g11_2 w11_2 hg11_2 b11_2 h11_2
    have L47 := L45.le h11_2
    have b11_2 : Blk w11_2 g11_2 81 (([(g.filter (fun e => decide (e.t = at_))).getD j noEdge]).map edgeV).flatten.toArray := b11_2
    have o11_2 : OVec w11_2 w11.heap.size 81 edgeV 9 (some ⟨g11_2, 0, none⟩) 1 1 ([(g.filter (fun e => decide (e.t = at_))).getD j noEdge]) := b11_2.ovec hg11_2 edgeV_row rfl rfl (by decide)
    have f48 := (f46.le h11_2)
    refine ⟨fun _ => ⟨L47, f48⟩, ?_⟩
    have f49 := (f37.le (h10_7.trans (d11.trans h11_2)))
    refine GR.ef rfl rfl rfl rfl rfl ?_
    refine Ef.vcat underlying32 el81 underlying32 edgeV_row rfl o11_2 rfl f49.vec (by omega) (by unfold maxLen; omega) (by have := h11_2.size; omega) ?_
    intro A11_4 c11_4 w11_4 o11_4 h11_4 at11_4
    have L50 : ChP w w11_4 ((fun k => k = gb)) := L47.ch h11_4 (fun i hi hlt => absurd hlt (by have := (o11_2.row hi).1; have := L45.size; omega))
    have f51 := (f48.ch h11_4 (fun he => by have := (o11_2.row he).1; have := f46.lt; omega))
    refine ⟨fun _ => ⟨L50, f51⟩, ?_⟩
    have f52 := ((((f0_5.le h9_2).ch h9_3 (fun h => (show g9_2 ≠ gb from by have := f0_5.lt; omega) (Option.some.inj h))).le (h10_7.trans (d11.trans h11_2))).ch h11_4 (fun he => by have := (o11_2.row he).1; have := f0_5.lt; have := h9_2.size; have := h9_3.size; have := h10_7.size; have := d11.size; omega))
    have f53 := ((((f0_2.le h9_2).ch h9_3 (fun q hq => by cases hq; exact (fun he => by have := (f0_2.row he).2; omega))).le (h10_7.trans (d11.trans h11_2))).ch h11_4 ((Apart.symm (fun q h1 h2 => by have := (f0_2.row h1).2; have := (o11_2.row h2).1; have := h9_2.size; have := h9_3.size; have := h10_7.size; have := d11.size; omega))))
    have f54 := ((((f0_3.le h9_2).ch h9_3 (fun q hq => by cases hq; exact (fun he => by have := (f0_3.row he).2; omega))).le (h10_7.trans (d11.trans h11_2))).ch h11_4 ((Apart.symm (fun q h1 h2 => by have := (f0_3.row h1).2; have := (o11_2.row h2).1; have := h9_2.size; have := h9_3.size; have := h10_7.size; have := d11.size; omega))))
    have f55 := ((((f0_4.le h9_2).ch h9_3 (fun q hq => by cases hq; exact (fun he => by have := (f0_4.row he).2; omega))).le (h10_7.trans (d11.trans h11_2))).ch h11_4 ((Apart.symm (fun q h1 h2 => by have := (f0_4.row h1).2; have := (o11_2.row h2).1; have := h9_2.size; have := h9_3.size; have := h10_7.size; have := d11.size; omega))))
    have zb11_7 : BestAt w11_4 bs gb bk := ⟨_, _, _, _, _, _, f52, f53, f54, f55, hbe, hbl.1, hbl.2.1, hbl.2.2⟩
    have zi11_7 := ih ([(g.filter (fun e => decide (e.t = at_))).getD j noEdge] ++ way) (by omega) (((g.filter (fun e => decide (e.t = at_))).getD j noEdge).f) bk w11_4 L50 (o11_4.mono (Nat.le_trans hbs0 L45.size))
    have zj11_7 := zi11_7 (by omega) (by omega) (fun he => by have := (o11_4.row he).1; have := f0_5.lt; have := h9_2.size; have := h9_3.size; have := h10_7.size; have := d11.size; omega) zb11_7
    refine GR.ef rfl rfl rfl rfl rfl ?_
    refine Ef.callC go115 rfl rfl rfl (zj11_7) ?_
    rintro _ w11_7 ⟨rfl, ⟨Aw11_7, cw11_7, An11_7, cn11_7, Ad11_7, cd11_7, bp11_7, ow11_7, on11_7, od11_7, he11_7, hl11_7, hm11_7, hd11_7⟩, h11_7⟩
    refine ⟨_, rfl, ?_⟩
    have L56 := L50.sub h11_7 (fun i hi hlt => (by subst hi; exact rfl))
    refine noT (by kernel_rfl) ?_
    refine GR.nil ?_
    refine E.blkN (E.thenN (WC.region ?_))
    refine W.a (.add rfl rfl (by omega)) ?_
    refine W.run 1 rfl (W.nil ?_)
    have f57 := ((f49.ch h11_4 ((Apart.symm (fun q h1 h2 => by have := (f37.row h1).2; have := (o11_2.row h2).1; have := h10_7.size; have := d11.size; omega)))).chP h11_7 (fun q hqq hF => (by subst hF; exact hWg hqq)))
    have f58 := (((((f0_1.le h9_2).ch h9_3 (fun q hq => by cases hq; exact (fun he => by have := (f0_1.row he).2; omega))).le (h10_7.trans (d11.trans h11_2))).ch h11_4 ((Apart.symm (fun q h1 h2 => by have := (f0_1.row h1).2; have := (o11_2.row h2).1; have := h9_2.size; have := h9_3.size; have := h10_7.size; have := d11.size; omega)))).chP h11_7 (fun q hqq hF => (by subst hF; exact (fun he => by have := (f0_1.row he).1; have := f12.lt; omega) hqq)))
    refine E.again (j + 1, (lookR g m fr to a x k ([(g.filter (fun e => decide (e.t = at_))).getD j noEdge] ++ way) (((g.filter (fun e => decide (e.t = at_))).getD j noEdge).f) bk), Aw11_7, cw11_7, An11_7, cn11_7, Ad11_7, cd11_7) (.cons rfl (.cons rfl (.cons rfl (.cons rfl (.cons rfl (.cons rfl (.nil _))))))) ?_ ?_
    ·exact ⟨by omega, (by rw [fold_next (z := noEdge) (l := (g.filter (fun e => decide (e.t = at_)))) (by omega), <- hbk]; exact (if_neg (by simp only [skipR, Bool.or_eq_true, decide_eq_true_eq, not_or]; exact ⟨q10_4, c5⟩)).symm), he11_7, ⟨hl11_7, hm11_7, hd11_7⟩, L56, by have := zl0; have := h9_2.size; have := h9_3.size; have := h10_7.size; have := d11.size; have := h11_2.size; have := h11_4.size; have := h11_7.size; omega, f57, f58, ow11_7, on11_7, od11_7, bp11_7⟩
    first | omega | (simp only []; omega)
   refine WC.condN rfl (decide_eq_false c4) ?_
   refine WC.exit (E.thenX (E.thenX (E.blkH (E.end_ ?_))))
   refine E.ret0 rfl ?_
   have hnc : ¬ cutR way (oddsR m way a x) b := (by first | exact not_cut1 q1_3 hwl | exact not_cut2 q1_6 q1_12 (.inl (hbn q1_16)) | exact not_cut2 q1_6 q1_12 (.inr c0))
   have hje : j = (g.filter (fun e => decide (e.t = at_))).length := (by omega)
   have hlk : lookR g m fr to a x (k + 1) way at_ b = bk := (by rw [lookR_go hnc c1 (by rw [hwl]; omega), hbk, hje, List.take_length]; rfl)
   rw [hlk]
   exact ⟨rfl, ⟨_, _, _, _, _, _, f0_5, f0_2, f0_3, f0_4, hbe, hbl.1, hbl.2.1, hbl.2.2⟩, Ll0⟩
  refine W.g (Any.rd (.dec (.move rfl) (congrArg not ((Bool.eq_false_iff.2 q1_16)))) _) ?_
  refine W.g (.loadAll ag61 (by rfl) rfl b0_10) ?_
  refine W.g (Any.rd (.field0 fa190_1 rfl) _) ?_
  refine W.g (.bpart [.slice An ((digs b.odds.n).length) cn, .slice Ad ((digs b.odds.d).length) cd] ag61 rfl (by decide) rfl f12 rfl) ?_
  have f59 := ((on0_4.le h0_9).ch h0_10 (fun q hq => by cases hq; exact (fun he => by have := (on0_4.row he).2; omega)))
  have f60 := ((od0_4.le h0_9).ch h0_10 (fun q hq => by cases hq; exact (fun he => by have := (od0_4.row he).2; omega)))
  have f61 := ((hBn.le (h0_4.trans h0_9)).ch h0_10 (fun q hq => by cases hq; exact (fun he => by have := (hBn.row he).2; have := h0_4.size; omega)))
  have f62 := ((hBd.le (h0_4.trans h0_9)).ch h0_10 (fun q hq => by cases hq; exact (fun he => by have := (hBd.row he).2; have := h0_4.size; omega)))
  refine W.efg rfl rfl rfl (rfl) rfl rfl ?_
  refine Ef.call go41 rfl rfl (fcmp_ok w0_10 f59.vec f60.vec (by omega) (by omega) f61.vec f62.vec (by omega) (by omega)) ?_
  rintro _ w1_20 ⟨rfl, h1_20⟩
  refine ⟨_, rfl, ?_⟩
  have L63 := L3.le h1_20
  refine W.run 1 rfl ?_
  refine W.g (Any.rd (.pickT rfl rfl rfl) _) ?_
  refine W.g (Any.rd (.pickF rfl rfl rfl) _) ?_
  refine W.run 1 rfl (W.nx ?_)
  by_cases c0 : (cmpF (takF (⟨((oddsR m way a x).1.n), ((oddsR m way a x).1.d)⟩ : Fr)) (takF (⟨b.odds.n, b.odds.d⟩ : Fr))) < 0
  ·refine WC.condY rfl (decide_eq_true c0) ?_
   refine WC.ret (E.thenR ?_)
   have f64 := (f12.le h1_20)
   have f65 := (((hBw.le (h0_4.trans h0_9)).ch h0_10 (fun q hq => by cases hq; exact (fun he => by have := (hBw.row he).2; have := h0_4.size; omega))).le h1_20)
   have f66 := (f61.le h1_20)
   have f67 := (f62.le h1_20)
   refine E.ret0 rfl ?_
   have hlk : lookR g m fr to a x (k + 1) way at_ b = b := (by first | exact lookR_cut (cut_of q1_3 hwl (.inl q1_6)) | exact lookR_cut (cut_of q1_3 hwl (.inr (.inl q1_12))) | exact lookR_cut (cut_of q1_3 hwl (.inr (.inr ⟨hbs q1_16, c0⟩))) | exact lookR_old (by first | exact not_cut1 q1_3 hwl | exact not_cut2 q1_6 q1_12 (.inl (hbn q1_16)) | exact not_cut2 q1_6 q1_12 (.inr c0)) c1 (fun hh => hh.elim (hbs q1_16) c2) | exact lookR_old (by first | exact not_cut1 q1_3 hwl | exact not_cut2 q1_6 q1_12 (.inl (hbn q1_16)) | exact not_cut2 q1_6 q1_12 (.inr c0)) c1 (fun hh => hh.elim (hbs q4_3) c2) | exact lookR_end (by first | exact not_cut1 q1_3 hwl | exact not_cut2 q1_6 q1_12 (.inl (hbn q1_16)) | exact not_cut2 q1_6 q1_12 (.inr c0)) c1 (by rw [hwl]; omega))
   rw [hlk]
   exact ⟨rfl, ⟨_, _, _, _, _, _, f64, f65, f66, f67, hBe, hBl, hBm, hBo⟩, L63⟩
  refine WC.condN rfl (decide_eq_false c0) ?_
  refine WC.sn (WC.seq (WC.sr (W.run 1 rfl ?_)))
  refine W.r (.loadB (v := .int .i64 (fr)) na3 rfl (hE.h6.chP L63 hE.n6) rfl) ?_
  refine W.run 1 rfl (W.nx ?_)
  by_cases c1 : at_ = fr
  ·refine WC.condY rfl (decide_eq_true c1) ?_
   refine WC.seq (WC.sr (W.run 1 rfl ?_))
   have f68 := (b0_10.le h1_20)
   refine W.r (.loadAll ag61 (by rfl) rfl f68) ?_
   refine W.run 1 rfl ?_
   refine W.a (.buildP [.slice A n c, .slice An0_4 ((digs ((oddsR m way a x).1.n)).length) cn0_4, .slice Ad0_4 ((digs ((oddsR m way a x).1.d)).length) cd0_4, .int .i64 ((oddsR m way a x).2.1)] pl190 z190 rfl rfl) ?_
   refine W.ef rfl rfl rfl ?_
   refine Ef.allocA z190 ?_
   intro g3_4_1 w3_4_1 hg3_4_1 b3_4_1 h3_4_1
   have L69 := L63.le h3_4_1
   have b3_4_1 : Blk w3_4_1 g3_4_1 190 #[.slice none 0 0, .slice none 0 0, .slice none 0 0, .int .i64 (0)] := b3_4_1
   refine W.sA sz190 rfl rfl b3_4_1 ?_
   intro w3_5_1 b3_5_1 h3_5_1
   have b3_5_1 : Blk w3_5_1 g3_4_1 190 #[.slice A n c, .slice An0_4 ((digs ((oddsR m way a x).1.n)).length) cn0_4, .slice Ad0_4 ((digs ((oddsR m way a x).1.d)).length) cd0_4, .int .i64 ((oddsR m way a x).2.1)] := b3_5_1
   have L70 : ChP w w3_5_1 ((fun k => k = gb)) := L69.ch h3_5_1 (fun i hi hlt => by cases hi; exact absurd hlt (by have := L63.size; have := hg3_4_1; omega))
   refine W.nx (WC.sr ?_)
   refine W.a (.field0 fa190_0 rfl) ?_
   have f71 := ((f12.le (h1_20.trans h3_4_1)).ch h3_5_1 (fun h => (show g3_4_1 ≠ gb from by have := f12.lt; have := h1_20.size; omega) (Option.some.inj h)))
   refine W.r (.loadB (v := .slice Aw b.way.length cw) na32 rfl f71 rfl) ?_
   refine W.a (.isNil underlying32 rfl) ?_
   refine W.a (.dec (.move rfl) ((Bool.eq_false_iff.2 q1_16))) ?_
   refine W.g (.loadAll ag190 (by rfl) rfl b3_5_1) ?_
   refine W.g (.loadAll ag190 (by rfl) rfl f71) ?_
   have f72 := ((((hW.le (h0_4.trans h0_9)).ch h0_10 (fun q hq => by cases hq; exact (fun he => by have := (hW.row he).2; have := h0_4.size; omega))).le (h1_20.trans h3_4_1)).ch h3_5_1 (fun q hq => by cases hq; exact (fun he => by have := (hW.row he).2; have := h0_4.size; have := h0_9.size; have := h0_10.size; have := h1_20.size; omega)))
   have f73 := ((f59.le (h1_20.trans h3_4_1)).ch h3_5_1 (fun q hq => by cases hq; exact (fun he => by have := (f59.row he).2; have := h1_20.size; omega)))
   have f74 := ((f60.le (h1_20.trans h3_4_1)).ch h3_5_1 (fun q hq => by cases hq; exact (fun he => by have := (f60.row he).2; have := h1_20.size; omega)))
   have f75 := ((((hBw.le (h0_4.trans h0_9)).ch h0_10 (fun q hq => by cases hq; exact (fun he => by have := (hBw.row he).2; have := h0_4.size; omega))).le (h1_20.trans h3_4_1)).ch h3_5_1 (fun q hq => by cases hq; exact (fun he => by have := (hBw.row he).2; have := h0_4.size; have := h0_9.size; have := h0_10.size; have := h1_20.size; omega)))
   have f76 := ((f61.le (h1_20.trans h3_4_1)).ch h3_5_1 (fun q hq => by cases hq; exact (fun he => by have := (f61.row he).2; have := h1_20.size; omega)))
   have f77 := ((f62.le (h1_20.trans h3_4_1)).ch h3_5_1 (fun q hq => by cases hq; exact (fun he => by have := (f62.row he).2; have := h1_20.size; omega)))
   refine W.efg rfl rfl rfl (rfl) rfl rfl ?_
   refine Ef.call go117 rfl rfl (better_ok w3_5_1 f72.vec f73.vec f74.vec (by omega) (by omega) (by omega) f75.vec f76.vec f77.vec (by omega) (by omega) (by omega)) ?_
   rintro _ w4_6 ⟨rfl, h4_6⟩
   refine ⟨_, rfl, ?_⟩
   have L78 := L70.le h4_6
   refine W.run 1 rfl (W.nx ?_)
   by_cases c2 : (betterR (⟨way, ⟨((oddsR m way a x).1.n), ((oddsR m way a x).1.d)⟩, (oddsR m way a x).2.1⟩ : Fnd) (⟨b.way, ⟨b.odds.n, b.odds.d⟩, b.sent⟩ : Fnd)) = true
   ·refine WC.condY rfl (c2) ?_
    refine WC.region ?_
    have f79 := (b3_5_1.le h4_6)
    refine W.r (.loadAll ag190 (by rfl) rfl f79) ?_
    have f80 := (f71.le h4_6)
    refine W.sA sz190 rfl rfl f80 ?_
    intro w5_1_1 b5_1_1 h5_1_1
    have b5_1_1 : Blk w5_1_1 gb 190 #[.slice A n c, .slice An0_4 ((digs ((oddsR m way a x).1.n)).length) cn0_4, .slice Ad0_4 ((digs ((oddsR m way a x).1.d)).length) cd0_4, .int .i64 ((oddsR m way a x).2.1)] := b5_1_1
    have L81 : ChP w w5_1_1 ((fun k => k = gb)) := L78.ch h5_1_1 (fun i hi _ => by cases hi; exact rfl)
    refine W.nx (WC.ret (E.thenR ?_))
    have f82 := ((f72.le h4_6).ch h5_1_1 (fun q hq => by cases hq; exact hWg))
    have f83 := ((f73.le h4_6).ch h5_1_1 (fun q hq => by cases hq; exact (fun he => by have := (f73.row he).1; have := hB0.lt; omega)))
    have f84 := ((f74.le h4_6).ch h5_1_1 (fun q hq => by cases hq; exact (fun he => by have := (f74.row he).1; have := hB0.lt; omega)))
    refine E.ret0 rfl ?_
    have hnc : ¬ cutR way (oddsR m way a x) b := (by first | exact not_cut1 q1_3 hwl | exact not_cut2 q1_6 q1_12 (.inl (hbn q1_16)) | exact not_cut2 q1_6 q1_12 (.inr c0))
    have hwn : way ≠ [] := fun hh => by first | exact absurd ((congrArg List.length hh).symm.trans hwl) (by simp; omega) | exact absurd c1 (hfr (by omega))
    have hlk : lookR g m fr to a x (k + 1) way at_ b = (fndR way (oddsR m way a x)) := lookR_new hnc c1 (by first | exact .inl (hbn q1_16) | exact .inl (hbn q4_3) | exact .inr c2)
    rw [hlk]
    subst hwl
    exact ⟨rfl, ⟨_, _, _, _, _, _, b5_1_1, f82, (f83.mono hbs0), (f84.mono hbs0), fun h => absurd h hwn, (show way.length <= 8 by omega), hol.1, hol.2⟩, L81⟩
   refine WC.condN rfl ((Bool.eq_false_iff.2 c2)) ?_
   refine WC.sn (WC.ret (E.thenR ?_))
   have f85 := (f71.le h4_6)
   have f86 := (f75.le h4_6)
   have f87 := (f76.le h4_6)
   have f88 := (f77.le h4_6)
   refine E.ret0 rfl ?_
   have hlk : lookR g m fr to a x (k + 1) way at_ b = b := (by first | exact lookR_cut (cut_of q1_3 hwl (.inl q1_6)) | exact lookR_cut (cut_of q1_3 hwl (.inr (.inl q1_12))) | exact lookR_cut (cut_of q1_3 hwl (.inr (.inr ⟨hbs q1_16, c0⟩))) | exact lookR_old (by first | exact not_cut1 q1_3 hwl | exact not_cut2 q1_6 q1_12 (.inl (hbn q1_16)) | exact not_cut2 q1_6 q1_12 (.inr c0)) c1 (fun hh => hh.elim (hbs q1_16) c2) | exact lookR_old (by first | exact not_cut1 q1_3 hwl | exact not_cut2 q1_6 q1_12 (.inl (hbn q1_16)) | exact not_cut2 q1_6 q1_12 (.inr c0)) c1 (fun hh => hh.elim (hbs q4_3) c2) | exact lookR_end (by first | exact not_cut1 q1_3 hwl | exact not_cut2 q1_6 q1_12 (.inl (hbn q1_16)) | exact not_cut2 q1_6 q1_12 (.inr c0)) c1 (by rw [hwl]; omega))
   rw [hlk]
   exact ⟨rfl, ⟨_, _, _, _, _, _, f85, f86, f87, f88, hBe, hBl, hBm, hBo⟩, L78⟩
  refine WC.condN rfl (decide_eq_false c1) ?_
  refine WC.sn (WC.seq (WC.sr (W.run 1 rfl ?_)))
  refine W.r (.len underlying32 rfl) ?_
  refine W.run 1 rfl (W.nx ?_)
  by_cases c3 : ((n : Nat) : Int) = 8
  ·refine WC.condY rfl (decide_eq_true c3) ?_
   refine WC.ret (E.thenR ?_)
   have f89 := (f12.le h1_20)
   have f90 := (((hBw.le (h0_4.trans h0_9)).ch h0_10 (fun q hq => by cases hq; exact (fun he => by have := (hBw.row he).2; have := h0_4.size; omega))).le h1_20)
   have f91 := (f61.le h1_20)
   have f92 := (f62.le h1_20)
   refine E.ret0 rfl ?_
   have hlk : lookR g m fr to a x (k + 1) way at_ b = b := (by first | exact lookR_cut (cut_of q1_3 hwl (.inl q1_6)) | exact lookR_cut (cut_of q1_3 hwl (.inr (.inl q1_12))) | exact lookR_cut (cut_of q1_3 hwl (.inr (.inr ⟨hbs q1_16, c0⟩))) | exact lookR_old (by first | exact not_cut1 q1_3 hwl | exact not_cut2 q1_6 q1_12 (.inl (hbn q1_16)) | exact not_cut2 q1_6 q1_12 (.inr c0)) c1 (fun hh => hh.elim (hbs q1_16) c2) | exact lookR_old (by first | exact not_cut1 q1_3 hwl | exact not_cut2 q1_6 q1_12 (.inl (hbn q1_16)) | exact not_cut2 q1_6 q1_12 (.inr c0)) c1 (fun hh => hh.elim (hbs q4_3) c2) | exact lookR_end (by first | exact not_cut1 q1_3 hwl | exact not_cut2 q1_6 q1_12 (.inl (hbn q1_16)) | exact not_cut2 q1_6 q1_12 (.inr c0)) c1 (by rw [hwl]; omega))
   rw [hlk]
   exact ⟨rfl, ⟨_, _, _, _, _, _, f89, f90, f91, f92, hBe, hBl, hBm, hBo⟩, L63⟩
  refine WC.condN rfl (decide_eq_false c3) ?_
  refine WC.sn (WC.sr ?_)
  refine W.r (.loadB (v := .slice Ag ng cg) na32 rfl (hE.h7.chP L63 hE.n7) rfl) ?_
  refine W.run 1 rfl ?_
  refine W.cl go118 rfl rfl (in_ok at_ w1_20 (hE.hg.chP L63 hE.hgg) (by omega)) ?_
  rintro _ w7_2_1 ⟨Ao7_2_1, co7_2_1, rfl, oo7_2_1, h7_2_1⟩
  have L93 := L63.le h7_2_1
  refine W.r (.len underlying32 rfl) ?_
  refine W.run 1 rfl (W.nx (WC.block ?_))
  have f94 := (f12.le (h1_20.trans h7_2_1))
  have f95 := (((hBw.le (h0_4.trans h0_9)).ch h0_10 (fun q hq => by cases hq; exact (fun he => by have := (hBw.row he).2; have := h0_4.size; omega))).le (h1_20.trans h7_2_1))
  have f96 := (f61.le (h1_20.trans h7_2_1))
  have f97 := (f62.le (h1_20.trans h7_2_1))
  have f98 := (((hW.le (h0_4.trans h0_9)).ch h0_10 (fun q hq => by cases hq; exact (fun he => by have := (hW.row he).2; have := h0_4.size; omega))).le (h1_20.trans h7_2_1))
  refine WC.loop (ι := Nat × Fnd × ((Option Addr)) × Nat × ((Option Addr)) × Nat × ((Option Addr)) × Nat) (fun ⟨j, bk, Ax, cx, Ay, cy, Az, cz⟩ => [(0, .slice A n c), (8, .pointer (some ⟨b8, 0, none⟩)), (9, .pointer (some ⟨b9, 0, none⟩)), (73, .slice Ao7_2_1 ((g.filter (fun e => decide (e.t = at_))).length) co7_2_1), (74, .int .i64 ((((g.filter (fun e => decide (e.t = at_))).length : Nat) : Int))), (75, .int .i64 (((j : Nat) : Int)))]) (fun ⟨j, bk, Ax, cx, Ay, cy, Az, cz⟩ wl0 => (j <= (g.filter (fun e => decide (e.t = at_))).length) /\ (bk = ((g.filter (fun e => decide (e.t = at_))).take j).foldl (stepR (lookR g m fr to a x k) way to) b) /\ (bk.way = [] -> Ax = none) /\ (bk.way.length <= 8 /\ (digs bk.odds.n).length <= 100 /\ (digs bk.odds.d).length <= 100) /\ ChP w wl0 ((fun k => k = gb)) /\ w7_2_1.heap.size <= wl0.heap.size /\ OVec wl0 bs 81 edgeV 9 A n c way /\ OVec wl0 w1_20.heap.size 81 edgeV 9 Ao7_2_1 ((g.filter (fun e => decide (e.t = at_))).length) co7_2_1 (g.filter (fun e => decide (e.t = at_))) /\ OVec wl0 bs 81 edgeV 9 Ax bk.way.length cx bk.way /\ OVec wl0 bs 273 dv 1 Ay ((digs bk.odds.n).length) cy (digs bk.odds.n) /\ OVec wl0 bs 273 dv 1 Az ((digs bk.odds.d).length) cz (digs bk.odds.d) /\ Blk wl0 gb 190 #[.slice Ax bk.way.length cx, .slice Ay ((digs bk.odds.n).length) cy, .slice Az ((digs bk.odds.d).length) cz, .int .i64 (bk.sent)]) (fun ⟨j, bk, Ax, cx, Ay, cy, Az, cz⟩ => (g.filter (fun e => decide (e.t = at_))).length - j) (0, b, Aw, cw, An, cn, Ad, cd) ?_ ?_ ?_
  ·exact .cons rfl (.cons rfl (.cons rfl (.cons rfl (.cons rfl (.cons rfl (.nil _))))))
  ·exact ⟨Nat.zero_le _, rfl, hBe, ⟨hBl, hBm, hBo⟩, L93, Nat.le_refl _, f98, oo7_2_1, f95, f96, f97, f94⟩
  rintro ⟨j, bk, Ax, cx, Ay, cy, Az, cz⟩ wl0 ⟨hj, hbk, hbe, hbl, Ll0, zl0, f0_0, f0_1, f0_2, f0_3, f0_4, f0_5⟩
  have lb0_27 : w1_20.heap.size <= wl0.heap.size := by have := h7_2_1.size; omega
  refine WC.sr (W.run 1 rfl (W.nx (WC.seq ?_)))
  by_cases c4 : ((j : Nat) : Int) < (((g.filter (fun e => decide (e.t = at_))).length : Nat) : Int)
  ·refine WC.condY rfl (decide_eq_true c4) ?_
   refine WC.sn (WC.seq (WC.block (WC.sr ?_)))
   refine W.a (.idxS (j) underlying32 sz81 rfl rfl (oo7_2_1.vec.isSome edgeV_row (by omega)) (rfl) (by omega)) ?_
   refine W.r (.vload ag81 rfl f0_1.vec edgeV_row (getS (g.filter (fun e => decide (e.t = at_))) noEdge (by first | omega | (simp only [List.length_cons, List.length_nil]; omega)))) ?_
   refine W.ef rfl rfl rfl ?_
   refine Ef.allocA z81 ?_
   intro g9_2_1 w9_2_1 hg9_2_1 b9_2_1 h9_2_1
   have L99 := Ll0.le h9_2_1
   have b9_2_1 : Blk w9_2_1 g9_2_1 81 (edgeV noEdge).toArray := b9_2_1
   refine W.ef0 rfl rfl ?_
   refine Ef.storeAll sz81 (by rfl) rfl rfl b9_2_1 (by simp only [List.size_toArray, edgeV_row.len]) (edgeV_row.one ((g.filter (fun e => decide (e.t = at_))).getD j noEdge)) ?_
   intro w9_3_1 b9_3_1 h9_3_1
   have b9_3_1 : Blk w9_3_1 g9_2_1 81 (edgeV ((g.filter (fun e => decide (e.t = at_))).getD j noEdge)).toArray := b9_3_1
   have L100 : ChP w w9_3_1 ((fun k => k = gb)) := L99.ch h9_3_1 (fun i hi hlt => by cases hi; exact absurd hlt (by have := Ll0.size; have := hg9_2_1; omega))
   refine W.nx (WC.seq (WC.sr ?_))
   refine W.a (.field0 fa81_0 rfl) ?_
   refine W.r (.loadB (v := .int .i64 (((g.filter (fun e => decide (e.t = at_))).getD j noEdge).f)) na3 rfl b9_3_1 rfl) ?_
   refine W.r (.loadB (v := .int .i64 (to)) na3 rfl (hE.h8.chP L100 hE.n8) rfl) ?_
   refine W.run 1 rfl ?_
   by_cases q10_4 : (((g.filter (fun e => decide (e.t = at_))).getD j noEdge).f) = to
   ·refine W.dt q10_4 rfl rfl (W.run 4 rfl (W.nx (WC.condT rfl (WC.exit (E.thenX (E.blkH (E.thenN (WC.region ?_))))))))
    refine W.a (.add rfl rfl (by omega)) ?_
    refine W.run 1 rfl (W.nil ?_)
    have f101 := ((f0_0.le h9_2_1).ch h9_3_1 (fun q hq => by cases hq; exact (fun he => by have := (f0_0.row he).2; omega)))
    have f102 := ((f0_1.le h9_2_1).ch h9_3_1 (fun q hq => by cases hq; exact (fun he => by have := (f0_1.row he).2; omega)))
    have f103 := ((f0_2.le h9_2_1).ch h9_3_1 (fun q hq => by cases hq; exact (fun he => by have := (f0_2.row he).2; omega)))
    have f104 := ((f0_3.le h9_2_1).ch h9_3_1 (fun q hq => by cases hq; exact (fun he => by have := (f0_3.row he).2; omega)))
    have f105 := ((f0_4.le h9_2_1).ch h9_3_1 (fun q hq => by cases hq; exact (fun he => by have := (f0_4.row he).2; omega)))
    have f106 := ((f0_5.le h9_2_1).ch h9_3_1 (fun h => (show g9_2_1 ≠ gb from by have := f0_5.lt; omega) (Option.some.inj h)))
    refine E.again (j + 1, bk, Ax, cx, Ay, cy, Az, cz) (.cons rfl (.cons rfl (.cons rfl (.cons rfl (.cons rfl (.cons rfl (.nil _))))))) ?_ ?_
    ·exact ⟨by omega, (by rw [fold_next (z := noEdge) (l := (g.filter (fun e => decide (e.t = at_)))) (by omega), <- hbk]; exact (if_pos (by first | (unfold skipR; rw [decide_eq_true q10_4]; exact Bool.true_or _) | (unfold skipR; rw [c5]; exact Bool.or_true _))).symm), hbe, hbl, L100, by have := zl0; have := h9_2_1.size; have := h9_3_1.size; omega, f101, f102, f103, f104, f105, f106⟩
    first | omega | (simp only []; omega)
   refine W.df q10_4 rfl rfl (W.run 1 rfl ?_)
   refine W.g (Any.rd (.makeFunc rfl) _) ?_
   have f107 := ((f0_0.le h9_2_1).ch h9_3_1 (fun q hq => by cases hq; exact (fun he => by have := (f0_0.row he).2; omega)))
   refine W.efg rfl rfl rfl (rfl) rfl rfl ?_
   refine Ef.call go119 rfl rfl (rtcontains_ok (fun y => decide (y.f = ((g.filter (fun e => decide (e.t = at_))).getD j noEdge).f)) go120 w9_3_1 f107.vec (by omega) (fun y w1 hl => seen_ok y w1 (b9_3_1.le hl))) ?_
   rintro _ w10_7_1 ⟨rfl, h10_7_1⟩
   refine ⟨_, rfl, ?_⟩
   have L108 := L100.le h10_7_1
   refine W.run 1 rfl (W.nx ?_)
   by_cases c5 : (way.any (fun y => decide (y.f = ((g.filter (fun e => decide (e.t = at_))).getD j noEdge).f))) = true
   ·refine WC.condY rfl (c5) ?_
    refine WC.exit (E.thenX (E.blkH (E.thenN (WC.region ?_))))
    refine W.a (.add rfl rfl (by omega)) ?_
    refine W.run 1 rfl (W.nil ?_)
    have f109 := (f107.le h10_7_1)
    have f110 := (((f0_1.le h9_2_1).ch h9_3_1 (fun q hq => by cases hq; exact (fun he => by have := (f0_1.row he).2; omega))).le h10_7_1)
    have f111 := (((f0_2.le h9_2_1).ch h9_3_1 (fun q hq => by cases hq; exact (fun he => by have := (f0_2.row he).2; omega))).le h10_7_1)
    have f112 := (((f0_3.le h9_2_1).ch h9_3_1 (fun q hq => by cases hq; exact (fun he => by have := (f0_3.row he).2; omega))).le h10_7_1)
    have f113 := (((f0_4.le h9_2_1).ch h9_3_1 (fun q hq => by cases hq; exact (fun he => by have := (f0_4.row he).2; omega))).le h10_7_1)
    have f114 := (((f0_5.le h9_2_1).ch h9_3_1 (fun h => (show g9_2_1 ≠ gb from by have := f0_5.lt; omega) (Option.some.inj h))).le h10_7_1)
    refine E.again (j + 1, bk, Ax, cx, Ay, cy, Az, cz) (.cons rfl (.cons rfl (.cons rfl (.cons rfl (.cons rfl (.cons rfl (.nil _))))))) ?_ ?_
    ·exact ⟨by omega, (by rw [fold_next (z := noEdge) (l := (g.filter (fun e => decide (e.t = at_)))) (by omega), <- hbk]; exact (if_pos (by first | (unfold skipR; rw [decide_eq_true q10_4]; exact Bool.true_or _) | (unfold skipR; rw [c5]; exact Bool.or_true _))).symm), hbe, hbl, L108, by have := zl0; have := h9_2_1.size; have := h9_3_1.size; have := h10_7_1.size; omega, f109, f110, f111, f112, f113, f114⟩
    first | omega | (simp only []; omega)
   refine WC.condN rfl ((Bool.eq_false_iff.2 c5)) ?_
   refine WC.sn ?_
   refine WC.drawR (fun w11 w' => ChP w w' ((fun k => k = gb)) /\ Blk w' g9_2_1 81 (edgeV ((g.filter (fun e => decide (e.t = at_))).getD j noEdge)).toArray) [0, 1, 3, 5, 6, 2, 4, 7] mixed (by kernel_rfl) ?_
   intro w11 d11
   have L115 := L108.le d11
   have f116 := (b9_3_1.le (h10_7_1.trans d11))
   refine ⟨⟨L115, f116⟩, ?_⟩
   refine GR.rd rfl rfl (fun w' hs => .loadB (v := .func (.func 115) #[] #[.pointer (some ⟨b2, 0, none⟩), .pointer (some ⟨b3, 0, none⟩), .pointer (some ⟨b4, 0, none⟩), .pointer (some ⟨gb, 0, none⟩), .pointer (some ⟨b6, 0, none⟩), .pointer (some ⟨b7, 0, none⟩), .pointer (some ⟨b8, 0, none⟩), .pointer (some ⟨b9, 0, none⟩)]) na191 rfl (hE.h9.chP hs.1 hE.n9) rfl) rfl rfl rfl ?_
   refine GR.rd rfl rfl (fun w' hs => .loadAll ag81 (by rfl) rfl hs.2) rfl rfl rfl ?_
   refine GR.any rfl rfl (.move rfl) rfl rfl rfl ?_
   refine GR.any rfl rfl (.field0 fa81_0 rfl) rfl rfl rfl ?_
   refine GR.rd rfl rfl (fun w' hs => .loadB (v := .int .i64 (((g.filter (fun e => decide (e.t = at_))).getD j noEdge).f)) na3 rfl hs.2 rfl) rfl rfl rfl ?_
   refine GR.ef rfl rfl rfl rfl rfl ?_
   refine Ef.buildSliceV (len := 1) [_] underlying32 el81 rfl (by simp [Value.cells, edgeV_row.len]) rfl (by decide) (by decide) ?_
   intro g11_2_1 w11_2_1 hg11_2_1 b11_2_1 h11_2_1
   have L117 := L115.le h11_2_1
   have b11_2_1 : Blk w11_2_1 g11_2_1 81 (([(g.filter (fun e => decide (e.t = at_))).getD j noEdge]).map edgeV).flatten.toArray := b11_2_1
   have o11_2_1 : OVec w11_2_1 w11.heap.size 81 edgeV 9 (some ⟨g11_2_1, 0, none⟩) 1 1 ([(g.filter (fun e => decide (e.t = at_))).getD j noEdge]) := b11_2_1.ovec hg11_2_1 edgeV_row rfl rfl (by decide)
   have f118 := (f116.le h11_2_1)
   refine ⟨fun _ => ⟨L117, f118⟩, ?_⟩
   have f119 := (f107.le (h10_7_1.trans (d11.trans h11_2_1)))
   refine GR.ef rfl rfl rfl rfl rfl ?_
   refine Ef.vcat underlying32 el81 underlying32 edgeV_row rfl o11_2_1 rfl f119.vec (by omega) (by unfold maxLen; omega) (by have := h11_2_1.size; omega) ?_
   intro A11_4_1 c11_4_1 w11_4_1 o11_4_1 h11_4_1 at11_4_1
   have L120 : ChP w w11_4_1 ((fun k => k = gb)) := L117.ch h11_4_1 (fun i hi hlt => absurd hlt (by have := (o11_2_1.row hi).1; have := L115.size; omega))
   have f121 := (f118.ch h11_4_1 (fun he => by have := (o11_2_1.row he).1; have := f116.lt; omega))
   refine ⟨fun _ => ⟨L120, f121⟩, ?_⟩
   have f122 := ((((f0_5.le h9_2_1).ch h9_3_1 (fun h => (show g9_2_1 ≠ gb from by have := f0_5.lt; omega) (Option.some.inj h))).le (h10_7_1.trans (d11.trans h11_2_1))).ch h11_4_1 (fun he => by have := (o11_2_1.row he).1; have := f0_5.lt; have := h9_2_1.size; have := h9_3_1.size; have := h10_7_1.size; have := d11.size; omega))
   have f123 := ((((f0_2.le h9_2_1).ch h9_3_1 (fun q hq => by cases hq; exact (fun he => by have := (f0_2.row he).2; omega))).le (h10_7_1.trans (d11.trans h11_2_1))).ch h11_4_1 ((Apart.symm (fun q h1 h2 => by have := (f0_2.row h1).2; have := (o11_2_1.row h2).1; have := h9_2_1.size; have := h9_3_1.size; have := h10_7_1.size; have := d11.size; omega))))
   have f124 := ((((f0_3.le h9_2_1).ch h9_3_1 (fun q hq => by cases hq; exact (fun he => by have := (f0_3.row he).2; omega))).le (h10_7_1.trans (d11.trans h11_2_1))).ch h11_4_1 ((Apart.symm (fun q h1 h2 => by have := (f0_3.row h1).2; have := (o11_2_1.row h2).1; have := h9_2_1.size; have := h9_3_1.size; have := h10_7_1.size; have := d11.size; omega))))
   have f125 := ((((f0_4.le h9_2_1).ch h9_3_1 (fun q hq => by cases hq; exact (fun he => by have := (f0_4.row he).2; omega))).le (h10_7_1.trans (d11.trans h11_2_1))).ch h11_4_1 ((Apart.symm (fun q h1 h2 => by have := (f0_4.row h1).2; have := (o11_2_1.row h2).1; have := h9_2_1.size; have := h9_3_1.size; have := h10_7_1.size; have := d11.size; omega))))
   have zb11_7_1 : BestAt w11_4_1 bs gb bk := ⟨_, _, _, _, _, _, f122, f123, f124, f125, hbe, hbl.1, hbl.2.1, hbl.2.2⟩
   have zi11_7_1 := ih ([(g.filter (fun e => decide (e.t = at_))).getD j noEdge] ++ way) (by omega) (((g.filter (fun e => decide (e.t = at_))).getD j noEdge).f) bk w11_4_1 L120 (o11_4_1.mono (Nat.le_trans hbs0 L115.size))
   have zj11_7_1 := zi11_7_1 (by omega) (by omega) (fun he => by have := (o11_4_1.row he).1; have := f0_5.lt; have := h9_2_1.size; have := h9_3_1.size; have := h10_7_1.size; have := d11.size; omega) zb11_7_1
   refine GR.ef rfl rfl rfl rfl rfl ?_
   refine Ef.callC go115 rfl rfl rfl (zj11_7_1) ?_
   rintro _ w11_7_1 ⟨rfl, ⟨Aw11_7_1, cw11_7_1, An11_7_1, cn11_7_1, Ad11_7_1, cd11_7_1, bp11_7_1, ow11_7_1, on11_7_1, od11_7_1, he11_7_1, hl11_7_1, hm11_7_1, hd11_7_1⟩, h11_7_1⟩
   refine ⟨_, rfl, ?_⟩
   have L126 := L120.sub h11_7_1 (fun i hi hlt => (by subst hi; exact rfl))
   refine noT (by kernel_rfl) ?_
   refine GR.nil ?_
   refine E.blkN (E.thenN (WC.region ?_))
   refine W.a (.add rfl rfl (by omega)) ?_
   refine W.run 1 rfl (W.nil ?_)
   have f127 := ((f119.ch h11_4_1 ((Apart.symm (fun q h1 h2 => by have := (f107.row h1).2; have := (o11_2_1.row h2).1; have := h10_7_1.size; have := d11.size; omega)))).chP h11_7_1 (fun q hqq hF => (by subst hF; exact hWg hqq)))
   have f128 := (((((f0_1.le h9_2_1).ch h9_3_1 (fun q hq => by cases hq; exact (fun he => by have := (f0_1.row he).2; omega))).le (h10_7_1.trans (d11.trans h11_2_1))).ch h11_4_1 ((Apart.symm (fun q h1 h2 => by have := (f0_1.row h1).2; have := (o11_2_1.row h2).1; have := h9_2_1.size; have := h9_3_1.size; have := h10_7_1.size; have := d11.size; omega)))).chP h11_7_1 (fun q hqq hF => (by subst hF; exact (fun he => by have := (f0_1.row he).1; have := f12.lt; have := h1_20.size; omega) hqq)))
   refine E.again (j + 1, (lookR g m fr to a x k ([(g.filter (fun e => decide (e.t = at_))).getD j noEdge] ++ way) (((g.filter (fun e => decide (e.t = at_))).getD j noEdge).f) bk), Aw11_7_1, cw11_7_1, An11_7_1, cn11_7_1, Ad11_7_1, cd11_7_1) (.cons rfl (.cons rfl (.cons rfl (.cons rfl (.cons rfl (.cons rfl (.nil _))))))) ?_ ?_
   ·exact ⟨by omega, (by rw [fold_next (z := noEdge) (l := (g.filter (fun e => decide (e.t = at_)))) (by omega), <- hbk]; exact (if_neg (by simp only [skipR, Bool.or_eq_true, decide_eq_true_eq, not_or]; exact ⟨q10_4, c5⟩)).symm), he11_7_1, ⟨hl11_7_1, hm11_7_1, hd11_7_1⟩, L126, by have := zl0; have := h9_2_1.size; have := h9_3_1.size; have := h10_7_1.size; have := d11.size; have := h11_2_1.size; have := h11_4_1.size; have := h11_7_1.size; omega, f127, f128, ow11_7_1, on11_7_1, od11_7_1, bp11_7_1⟩
   first | omega | (simp only []; omega)
  refine WC.condN rfl (decide_eq_false c4) ?_
  refine WC.exit (E.thenX (E.thenX (E.blkH (E.end_ ?_))))
  refine E.ret0 rfl ?_
  have hnc : ¬ cutR way (oddsR m way a x) b := (by first | exact not_cut1 q1_3 hwl | exact not_cut2 q1_6 q1_12 (.inl (hbn q1_16)) | exact not_cut2 q1_6 q1_12 (.inr c0))
  have hje : j = (g.filter (fun e => decide (e.t = at_))).length := (by omega)
  have hlk : lookR g m fr to a x (k + 1) way at_ b = bk := (by rw [lookR_go hnc c1 (by rw [hwl]; omega), hbk, hje, List.take_length]; rfl)
  rw [hlk]
  exact ⟨rfl, ⟨_, _, _, _, _, _, f0_5, f0_2, f0_3, f0_4, hbe, hbl.1, hbl.2.1, hbl.2.2⟩, Ll0⟩
 refine W.df q1_3 rfl rfl (W.run 3 rfl ?_)
 refine W.skipu rfl rfl rfl rfl rfl ?_
 refine W.skipu rfl rfl rfl rfl rfl ?_
 refine W.skipu rfl rfl rfl rfl rfl ?_
 refine W.skipu rfl rfl rfl rfl rfl ?_
 refine W.run 2 rfl ?_
 refine W.skipu rfl rfl rfl rfl rfl ?_
 refine W.skipu rfl rfl rfl rfl rfl ?_
 refine W.skipu rfl rfl rfl rfl rfl ?_
 refine W.skipu rfl rfl rfl rfl rfl ?_
 refine W.skipu rfl rfl rfl rfl rfl ?_
 refine W.skipu rfl rfl rfl rfl rfl ?_
 refine W.skipu rfl rfl rfl rfl rfl ?_
 refine W.skipu rfl rfl rfl rfl rfl ?_
 refine W.skipu rfl rfl rfl rfl rfl ?_
 refine W.skipu rfl rfl rfl rfl rfl ?_
 refine W.run 2 rfl (W.nx (WC.condF rfl (WC.sn (WC.seq (WC.sr (W.run 1 rfl ?_))))))
 refine W.r (.loadB (v := .int .i64 (fr)) na3 rfl (hE.h6.chP L3 hE.n6) rfl) ?_
 refine W.run 1 rfl (W.nx ?_)
 by_cases c1 : at_ = fr
 ·refine WC.condY rfl (decide_eq_true c1) ?_
  refine WC.seq (WC.sr (W.run 1 rfl ?_))
  refine W.r (.loadAll ag61 (by rfl) rfl b0_10) ?_
  refine W.run 1 rfl ?_
  refine W.a (.buildP [.slice A n c, .slice An0_4 ((digs ((oddsR m way a x).1.n)).length) cn0_4, .slice Ad0_4 ((digs ((oddsR m way a x).1.d)).length) cd0_4, .int .i64 ((oddsR m way a x).2.1)] pl190 z190 rfl rfl) ?_
  refine W.ef rfl rfl rfl ?_
  refine Ef.allocA z190 ?_
  intro g3_4_2 w3_4_2 hg3_4_2 b3_4_2 h3_4_2
  have L129 := L3.le h3_4_2
  have b3_4_2 : Blk w3_4_2 g3_4_2 190 #[.slice none 0 0, .slice none 0 0, .slice none 0 0, .int .i64 (0)] := b3_4_2
  refine W.sA sz190 rfl rfl b3_4_2 ?_
  intro w3_5_2 b3_5_2 h3_5_2
  have b3_5_2 : Blk w3_5_2 g3_4_2 190 #[.slice A n c, .slice An0_4 ((digs ((oddsR m way a x).1.n)).length) cn0_4, .slice Ad0_4 ((digs ((oddsR m way a x).1.d)).length) cd0_4, .int .i64 ((oddsR m way a x).2.1)] := b3_5_2
  have L130 : ChP w w3_5_2 ((fun k => k = gb)) := L129.ch h3_5_2 (fun i hi hlt => by cases hi; exact absurd hlt (by have := L3.size; have := hg3_4_2; omega))
  refine W.nx (WC.sr ?_)
  refine W.a (.field0 fa190_0 rfl) ?_
  have f131 := ((((hB0.le (h0_4.trans h0_9)).ch h0_10 (fun h => (show g0_9 ≠ gb from by have := hB0.lt; have := h0_4.size; omega) (Option.some.inj h))).le h3_4_2).ch h3_5_2 (fun h => (show g3_4_2 ≠ gb from by have := hB0.lt; have := h0_4.size; have := h0_9.size; have := h0_10.size; omega) (Option.some.inj h)))
  refine W.r (.loadB (v := .slice Aw b.way.length cw) na32 rfl f131 rfl) ?_
  refine W.a (.isNil underlying32 rfl) ?_
  by_cases q4_3 : Aw.isNone = true
  ·refine W.a (.dec (.move rfl) (q4_3)) ?_
   refine W.run 4 rfl (W.nx (WC.condT rfl (WC.region ?_)))
   refine W.r (.loadAll ag190 (by rfl) rfl b3_5_2) ?_
   refine W.sA sz190 rfl rfl f131 ?_
   intro w5_1_2 b5_1_2 h5_1_2
   have b5_1_2 : Blk w5_1_2 gb 190 #[.slice A n c, .slice An0_4 ((digs ((oddsR m way a x).1.n)).length) cn0_4, .slice Ad0_4 ((digs ((oddsR m way a x).1.d)).length) cd0_4, .int .i64 ((oddsR m way a x).2.1)] := b5_1_2
   have L132 : ChP w w5_1_2 ((fun k => k = gb)) := L130.ch h5_1_2 (fun i hi _ => by cases hi; exact rfl)
   refine W.nx (WC.ret (E.thenR ?_))
   have f133 := (((((hW.le (h0_4.trans h0_9)).ch h0_10 (fun q hq => by cases hq; exact (fun he => by have := (hW.row he).2; have := h0_4.size; omega))).le h3_4_2).ch h3_5_2 (fun q hq => by cases hq; exact (fun he => by have := (hW.row he).2; have := h0_4.size; have := h0_9.size; have := h0_10.size; omega))).ch h5_1_2 (fun q hq => by cases hq; exact hWg))
   have f134 := (((((on0_4.le h0_9).ch h0_10 (fun q hq => by cases hq; exact (fun he => by have := (on0_4.row he).2; omega))).le h3_4_2).ch h3_5_2 (fun q hq => by cases hq; exact (fun he => by have := (on0_4.row he).2; have := h0_9.size; have := h0_10.size; omega))).ch h5_1_2 (fun q hq => by cases hq; exact (fun he => by have := (on0_4.row he).1; have := hB0.lt; omega)))
   have f135 := (((((od0_4.le h0_9).ch h0_10 (fun q hq => by cases hq; exact (fun he => by have := (od0_4.row he).2; omega))).le h3_4_2).ch h3_5_2 (fun q hq => by cases hq; exact (fun he => by have := (od0_4.row he).2; have := h0_9.size; have := h0_10.size; omega))).ch h5_1_2 (fun q hq => by cases hq; exact (fun he => by have := (od0_4.row he).1; have := hB0.lt; omega)))
   refine E.ret0 rfl ?_
   have hnc : ¬ cutR way (oddsR m way a x) b := (by first | exact not_cut1 q1_3 hwl | exact not_cut2 q1_6 q1_12 (.inl (hbn q1_16)) | exact not_cut2 q1_6 q1_12 (.inr c0))
   have hwn : way ≠ [] := fun hh => by first | exact absurd ((congrArg List.length hh).symm.trans hwl) (by simp; omega) | exact absurd c1 (hfr (by omega))
   have hlk : lookR g m fr to a x (k + 1) way at_ b = (fndR way (oddsR m way a x)) := lookR_new hnc c1 (by first | exact .inl (hbn q1_16) | exact .inl (hbn q4_3) | exact .inr c2)
   rw [hlk]
   subst hwl
   exact ⟨rfl, ⟨_, _, _, _, _, _, b5_1_2, f133, (f134.mono hbs0), (f135.mono hbs0), fun h => absurd h hwn, (show way.length <= 8 by omega), hol.1, hol.2⟩, L132⟩
  refine W.a (.dec (.move rfl) ((Bool.eq_false_iff.2 q4_3))) ?_
  refine W.g (.loadAll ag190 (by rfl) rfl b3_5_2) ?_
  refine W.g (.loadAll ag190 (by rfl) rfl f131) ?_
  have f136 := ((((hW.le (h0_4.trans h0_9)).ch h0_10 (fun q hq => by cases hq; exact (fun he => by have := (hW.row he).2; have := h0_4.size; omega))).le h3_4_2).ch h3_5_2 (fun q hq => by cases hq; exact (fun he => by have := (hW.row he).2; have := h0_4.size; have := h0_9.size; have := h0_10.size; omega)))
  have f137 := ((((on0_4.le h0_9).ch h0_10 (fun q hq => by cases hq; exact (fun he => by have := (on0_4.row he).2; omega))).le h3_4_2).ch h3_5_2 (fun q hq => by cases hq; exact (fun he => by have := (on0_4.row he).2; have := h0_9.size; have := h0_10.size; omega)))
  have f138 := ((((od0_4.le h0_9).ch h0_10 (fun q hq => by cases hq; exact (fun he => by have := (od0_4.row he).2; omega))).le h3_4_2).ch h3_5_2 (fun q hq => by cases hq; exact (fun he => by have := (od0_4.row he).2; have := h0_9.size; have := h0_10.size; omega)))
  have f139 := ((((hBw.le (h0_4.trans h0_9)).ch h0_10 (fun q hq => by cases hq; exact (fun he => by have := (hBw.row he).2; have := h0_4.size; omega))).le h3_4_2).ch h3_5_2 (fun q hq => by cases hq; exact (fun he => by have := (hBw.row he).2; have := h0_4.size; have := h0_9.size; have := h0_10.size; omega)))
  have f140 := ((((hBn.le (h0_4.trans h0_9)).ch h0_10 (fun q hq => by cases hq; exact (fun he => by have := (hBn.row he).2; have := h0_4.size; omega))).le h3_4_2).ch h3_5_2 (fun q hq => by cases hq; exact (fun he => by have := (hBn.row he).2; have := h0_4.size; have := h0_9.size; have := h0_10.size; omega)))
  have f141 := ((((hBd.le (h0_4.trans h0_9)).ch h0_10 (fun q hq => by cases hq; exact (fun he => by have := (hBd.row he).2; have := h0_4.size; omega))).le h3_4_2).ch h3_5_2 (fun q hq => by cases hq; exact (fun he => by have := (hBd.row he).2; have := h0_4.size; have := h0_9.size; have := h0_10.size; omega)))
  refine W.efg rfl rfl rfl (rfl) rfl rfl ?_
  refine Ef.call go117 rfl rfl (better_ok w3_5_2 f136.vec f137.vec f138.vec (by omega) (by omega) (by omega) f139.vec f140.vec f141.vec (by omega) (by omega) (by omega)) ?_
  rintro _ w4_6_1 ⟨rfl, h4_6_1⟩
  refine ⟨_, rfl, ?_⟩
  have L142 := L130.le h4_6_1
  refine W.run 1 rfl (W.nx ?_)
  by_cases c2 : (betterR (⟨way, ⟨((oddsR m way a x).1.n), ((oddsR m way a x).1.d)⟩, (oddsR m way a x).2.1⟩ : Fnd) (⟨b.way, ⟨b.odds.n, b.odds.d⟩, b.sent⟩ : Fnd)) = true
  ·refine WC.condY rfl (c2) ?_
   refine WC.region ?_
   have f143 := (b3_5_2.le h4_6_1)
   refine W.r (.loadAll ag190 (by rfl) rfl f143) ?_
   have f144 := (f131.le h4_6_1)
   refine W.sA sz190 rfl rfl f144 ?_
   intro w5_1_3 b5_1_3 h5_1_3
   have b5_1_3 : Blk w5_1_3 gb 190 #[.slice A n c, .slice An0_4 ((digs ((oddsR m way a x).1.n)).length) cn0_4, .slice Ad0_4 ((digs ((oddsR m way a x).1.d)).length) cd0_4, .int .i64 ((oddsR m way a x).2.1)] := b5_1_3
   have L145 : ChP w w5_1_3 ((fun k => k = gb)) := L142.ch h5_1_3 (fun i hi _ => by cases hi; exact rfl)
   refine W.nx (WC.ret (E.thenR ?_))
   have f146 := ((f136.le h4_6_1).ch h5_1_3 (fun q hq => by cases hq; exact hWg))
   have f147 := ((f137.le h4_6_1).ch h5_1_3 (fun q hq => by cases hq; exact (fun he => by have := (f137.row he).1; have := hB0.lt; omega)))
   have f148 := ((f138.le h4_6_1).ch h5_1_3 (fun q hq => by cases hq; exact (fun he => by have := (f138.row he).1; have := hB0.lt; omega)))
   refine E.ret0 rfl ?_
   have hnc : ¬ cutR way (oddsR m way a x) b := (by first | exact not_cut1 q1_3 hwl | exact not_cut2 q1_6 q1_12 (.inl (hbn q1_16)) | exact not_cut2 q1_6 q1_12 (.inr c0))
   have hwn : way ≠ [] := fun hh => by first | exact absurd ((congrArg List.length hh).symm.trans hwl) (by simp; omega) | exact absurd c1 (hfr (by omega))
   have hlk : lookR g m fr to a x (k + 1) way at_ b = (fndR way (oddsR m way a x)) := lookR_new hnc c1 (by first | exact .inl (hbn q1_16) | exact .inl (hbn q4_3) | exact .inr c2)
   rw [hlk]
   subst hwl
   exact ⟨rfl, ⟨_, _, _, _, _, _, b5_1_3, f146, (f147.mono hbs0), (f148.mono hbs0), fun h => absurd h hwn, (show way.length <= 8 by omega), hol.1, hol.2⟩, L145⟩
  refine WC.condN rfl ((Bool.eq_false_iff.2 c2)) ?_
  refine WC.sn (WC.ret (E.thenR ?_))
  have f149 := (f131.le h4_6_1)
  have f150 := (f139.le h4_6_1)
  have f151 := (f140.le h4_6_1)
  have f152 := (f141.le h4_6_1)
  refine E.ret0 rfl ?_
  have hlk : lookR g m fr to a x (k + 1) way at_ b = b := (by first | exact lookR_cut (cut_of q1_3 hwl (.inl q1_6)) | exact lookR_cut (cut_of q1_3 hwl (.inr (.inl q1_12))) | exact lookR_cut (cut_of q1_3 hwl (.inr (.inr ⟨hbs q1_16, c0⟩))) | exact lookR_old (by first | exact not_cut1 q1_3 hwl | exact not_cut2 q1_6 q1_12 (.inl (hbn q1_16)) | exact not_cut2 q1_6 q1_12 (.inr c0)) c1 (fun hh => hh.elim (hbs q1_16) c2) | exact lookR_old (by first | exact not_cut1 q1_3 hwl | exact not_cut2 q1_6 q1_12 (.inl (hbn q1_16)) | exact not_cut2 q1_6 q1_12 (.inr c0)) c1 (fun hh => hh.elim (hbs q4_3) c2) | exact lookR_end (by first | exact not_cut1 q1_3 hwl | exact not_cut2 q1_6 q1_12 (.inl (hbn q1_16)) | exact not_cut2 q1_6 q1_12 (.inr c0)) c1 (by rw [hwl]; omega))
  rw [hlk]
  exact ⟨rfl, ⟨_, _, _, _, _, _, f149, f150, f151, f152, hBe, hBl, hBm, hBo⟩, L142⟩
 refine WC.condN rfl (decide_eq_false c1) ?_
 refine WC.sn (WC.seq (WC.sr (W.run 1 rfl ?_)))
 refine W.r (.len underlying32 rfl) ?_
 refine W.run 1 rfl (W.nx ?_)
 by_cases c3 : ((n : Nat) : Int) = 8
 ·refine WC.condY rfl (decide_eq_true c3) ?_
  refine WC.ret (E.thenR ?_)
  have f153 := ((hB0.le (h0_4.trans h0_9)).ch h0_10 (fun h => (show g0_9 ≠ gb from by have := hB0.lt; have := h0_4.size; omega) (Option.some.inj h)))
  have f154 := ((hBw.le (h0_4.trans h0_9)).ch h0_10 (fun q hq => by cases hq; exact (fun he => by have := (hBw.row he).2; have := h0_4.size; omega)))
  have f155 := ((hBn.le (h0_4.trans h0_9)).ch h0_10 (fun q hq => by cases hq; exact (fun he => by have := (hBn.row he).2; have := h0_4.size; omega)))
  have f156 := ((hBd.le (h0_4.trans h0_9)).ch h0_10 (fun q hq => by cases hq; exact (fun he => by have := (hBd.row he).2; have := h0_4.size; omega)))
  refine E.ret0 rfl ?_
  have hlk : lookR g m fr to a x (k + 1) way at_ b = b := (by first | exact lookR_cut (cut_of q1_3 hwl (.inl q1_6)) | exact lookR_cut (cut_of q1_3 hwl (.inr (.inl q1_12))) | exact lookR_cut (cut_of q1_3 hwl (.inr (.inr ⟨hbs q1_16, c0⟩))) | exact lookR_old (by first | exact not_cut1 q1_3 hwl | exact not_cut2 q1_6 q1_12 (.inl (hbn q1_16)) | exact not_cut2 q1_6 q1_12 (.inr c0)) c1 (fun hh => hh.elim (hbs q1_16) c2) | exact lookR_old (by first | exact not_cut1 q1_3 hwl | exact not_cut2 q1_6 q1_12 (.inl (hbn q1_16)) | exact not_cut2 q1_6 q1_12 (.inr c0)) c1 (fun hh => hh.elim (hbs q4_3) c2) | exact lookR_end (by first | exact not_cut1 q1_3 hwl | exact not_cut2 q1_6 q1_12 (.inl (hbn q1_16)) | exact not_cut2 q1_6 q1_12 (.inr c0)) c1 (by rw [hwl]; omega))
  rw [hlk]
  exact ⟨rfl, ⟨_, _, _, _, _, _, f153, f154, f155, f156, hBe, hBl, hBm, hBo⟩, L3⟩
 refine WC.condN rfl (decide_eq_false c3) ?_
 refine WC.sn (WC.sr ?_)
 refine W.r (.loadB (v := .slice Ag ng cg) na32 rfl (hE.h7.chP L3 hE.n7) rfl) ?_
 refine W.run 1 rfl ?_
 refine W.cl go118 rfl rfl (in_ok at_ w0_10 (hE.hg.chP L3 hE.hgg) (by omega)) ?_
 rintro _ w7_2_2 ⟨Ao7_2_2, co7_2_2, rfl, oo7_2_2, h7_2_2⟩
 have L157 := L3.le h7_2_2
 refine W.r (.len underlying32 rfl) ?_
 refine W.run 1 rfl (W.nx (WC.block ?_))
 have f158 := (((hB0.le (h0_4.trans h0_9)).ch h0_10 (fun h => (show g0_9 ≠ gb from by have := hB0.lt; have := h0_4.size; omega) (Option.some.inj h))).le h7_2_2)
 have f159 := (((hBw.le (h0_4.trans h0_9)).ch h0_10 (fun q hq => by cases hq; exact (fun he => by have := (hBw.row he).2; have := h0_4.size; omega))).le h7_2_2)
 have f160 := (((hBn.le (h0_4.trans h0_9)).ch h0_10 (fun q hq => by cases hq; exact (fun he => by have := (hBn.row he).2; have := h0_4.size; omega))).le h7_2_2)
 have f161 := (((hBd.le (h0_4.trans h0_9)).ch h0_10 (fun q hq => by cases hq; exact (fun he => by have := (hBd.row he).2; have := h0_4.size; omega))).le h7_2_2)
 have f162 := (((hW.le (h0_4.trans h0_9)).ch h0_10 (fun q hq => by cases hq; exact (fun he => by have := (hW.row he).2; have := h0_4.size; omega))).le h7_2_2)
 refine WC.loop (ι := Nat × Fnd × ((Option Addr)) × Nat × ((Option Addr)) × Nat × ((Option Addr)) × Nat) (fun ⟨j, bk, Ax, cx, Ay, cy, Az, cz⟩ => [(0, .slice A n c), (8, .pointer (some ⟨b8, 0, none⟩)), (9, .pointer (some ⟨b9, 0, none⟩)), (73, .slice Ao7_2_2 ((g.filter (fun e => decide (e.t = at_))).length) co7_2_2), (74, .int .i64 ((((g.filter (fun e => decide (e.t = at_))).length : Nat) : Int))), (75, .int .i64 (((j : Nat) : Int)))]) (fun ⟨j, bk, Ax, cx, Ay, cy, Az, cz⟩ wl0 => (j <= (g.filter (fun e => decide (e.t = at_))).length) /\ (bk = ((g.filter (fun e => decide (e.t = at_))).take j).foldl (stepR (lookR g m fr to a x k) way to) b) /\ (bk.way = [] -> Ax = none) /\ (bk.way.length <= 8 /\ (digs bk.odds.n).length <= 100 /\ (digs bk.odds.d).length <= 100) /\ ChP w wl0 ((fun k => k = gb)) /\ w7_2_2.heap.size <= wl0.heap.size /\ OVec wl0 bs 81 edgeV 9 A n c way /\ OVec wl0 w0_10.heap.size 81 edgeV 9 Ao7_2_2 ((g.filter (fun e => decide (e.t = at_))).length) co7_2_2 (g.filter (fun e => decide (e.t = at_))) /\ OVec wl0 bs 81 edgeV 9 Ax bk.way.length cx bk.way /\ OVec wl0 bs 273 dv 1 Ay ((digs bk.odds.n).length) cy (digs bk.odds.n) /\ OVec wl0 bs 273 dv 1 Az ((digs bk.odds.d).length) cz (digs bk.odds.d) /\ Blk wl0 gb 190 #[.slice Ax bk.way.length cx, .slice Ay ((digs bk.odds.n).length) cy, .slice Az ((digs bk.odds.d).length) cz, .int .i64 (bk.sent)]) (fun ⟨j, bk, Ax, cx, Ay, cy, Az, cz⟩ => (g.filter (fun e => decide (e.t = at_))).length - j) (0, b, Aw, cw, An, cn, Ad, cd) ?_ ?_ ?_
 ·exact .cons rfl (.cons rfl (.cons rfl (.cons rfl (.cons rfl (.cons rfl (.nil _))))))
 ·exact ⟨Nat.zero_le _, rfl, hBe, ⟨hBl, hBm, hBo⟩, L157, Nat.le_refl _, f162, oo7_2_2, f159, f160, f161, f158⟩
 rintro ⟨j, bk, Ax, cx, Ay, cy, Az, cz⟩ wl0 ⟨hj, hbk, hbe, hbl, Ll0, zl0, f0_0, f0_1, f0_2, f0_3, f0_4, f0_5⟩
 have lb0_35 : w0_10.heap.size <= wl0.heap.size := by have := h7_2_2.size; omega
 refine WC.sr (W.run 1 rfl (W.nx (WC.seq ?_)))
 by_cases c4 : ((j : Nat) : Int) < (((g.filter (fun e => decide (e.t = at_))).length : Nat) : Int)
 ·refine WC.condY rfl (decide_eq_true c4) ?_
  refine WC.sn (WC.seq (WC.block (WC.sr ?_)))
  refine W.a (.idxS (j) underlying32 sz81 rfl rfl (oo7_2_2.vec.isSome edgeV_row (by omega)) (rfl) (by omega)) ?_
  refine W.r (.vload ag81 rfl f0_1.vec edgeV_row (getS (g.filter (fun e => decide (e.t = at_))) noEdge (by first | omega | (simp only [List.length_cons, List.length_nil]; omega)))) ?_
  refine W.ef rfl rfl rfl ?_
  refine Ef.allocA z81 ?_
  intro g9_2_2 w9_2_2 hg9_2_2 b9_2_2 h9_2_2
  have L163 := Ll0.le h9_2_2
  have b9_2_2 : Blk w9_2_2 g9_2_2 81 (edgeV noEdge).toArray := b9_2_2
  refine W.ef0 rfl rfl ?_
  refine Ef.storeAll sz81 (by rfl) rfl rfl b9_2_2 (by simp only [List.size_toArray, edgeV_row.len]) (edgeV_row.one ((g.filter (fun e => decide (e.t = at_))).getD j noEdge)) ?_
  intro w9_3_2 b9_3_2 h9_3_2
  have b9_3_2 : Blk w9_3_2 g9_2_2 81 (edgeV ((g.filter (fun e => decide (e.t = at_))).getD j noEdge)).toArray := b9_3_2
  have L164 : ChP w w9_3_2 ((fun k => k = gb)) := L163.ch h9_3_2 (fun i hi hlt => by cases hi; exact absurd hlt (by have := Ll0.size; have := hg9_2_2; omega))
  refine W.nx (WC.seq (WC.sr ?_))
  refine W.a (.field0 fa81_0 rfl) ?_
  refine W.r (.loadB (v := .int .i64 (((g.filter (fun e => decide (e.t = at_))).getD j noEdge).f)) na3 rfl b9_3_2 rfl) ?_
  refine W.r (.loadB (v := .int .i64 (to)) na3 rfl (hE.h8.chP L164 hE.n8) rfl) ?_
  refine W.run 1 rfl ?_
  by_cases q10_4 : (((g.filter (fun e => decide (e.t = at_))).getD j noEdge).f) = to
  ·refine W.dt q10_4 rfl rfl (W.run 4 rfl (W.nx (WC.condT rfl (WC.exit (E.thenX (E.blkH (E.thenN (WC.region ?_))))))))
   refine W.a (.add rfl rfl (by omega)) ?_
   refine W.run 1 rfl (W.nil ?_)
   have f165 := ((f0_0.le h9_2_2).ch h9_3_2 (fun q hq => by cases hq; exact (fun he => by have := (f0_0.row he).2; omega)))
   have f166 := ((f0_1.le h9_2_2).ch h9_3_2 (fun q hq => by cases hq; exact (fun he => by have := (f0_1.row he).2; omega)))
   have f167 := ((f0_2.le h9_2_2).ch h9_3_2 (fun q hq => by cases hq; exact (fun he => by have := (f0_2.row he).2; omega)))
   have f168 := ((f0_3.le h9_2_2).ch h9_3_2 (fun q hq => by cases hq; exact (fun he => by have := (f0_3.row he).2; omega)))
   have f169 := ((f0_4.le h9_2_2).ch h9_3_2 (fun q hq => by cases hq; exact (fun he => by have := (f0_4.row he).2; omega)))
   have f170 := ((f0_5.le h9_2_2).ch h9_3_2 (fun h => (show g9_2_2 ≠ gb from by have := f0_5.lt; omega) (Option.some.inj h)))
   refine E.again (j + 1, bk, Ax, cx, Ay, cy, Az, cz) (.cons rfl (.cons rfl (.cons rfl (.cons rfl (.cons rfl (.cons rfl (.nil _))))))) ?_ ?_
   ·exact ⟨by omega, (by rw [fold_next (z := noEdge) (l := (g.filter (fun e => decide (e.t = at_)))) (by omega), <- hbk]; exact (if_pos (by first | (unfold skipR; rw [decide_eq_true q10_4]; exact Bool.true_or _) | (unfold skipR; rw [c5]; exact Bool.or_true _))).symm), hbe, hbl, L164, by have := zl0; have := h9_2_2.size; have := h9_3_2.size; omega, f165, f166, f167, f168, f169, f170⟩
   first | omega | (simp only []; omega)
  refine W.df q10_4 rfl rfl (W.run 1 rfl ?_)
  refine W.g (Any.rd (.makeFunc rfl) _) ?_
  have f171 := ((f0_0.le h9_2_2).ch h9_3_2 (fun q hq => by cases hq; exact (fun he => by have := (f0_0.row he).2; omega)))
  refine W.efg rfl rfl rfl (rfl) rfl rfl ?_
  refine Ef.call go119 rfl rfl (rtcontains_ok (fun y => decide (y.f = ((g.filter (fun e => decide (e.t = at_))).getD j noEdge).f)) go120 w9_3_2 f171.vec (by omega) (fun y w1 hl => seen_ok y w1 (b9_3_2.le hl))) ?_
  rintro _ w10_7_2 ⟨rfl, h10_7_2⟩
  refine ⟨_, rfl, ?_⟩
  have L172 := L164.le h10_7_2
  refine W.run 1 rfl (W.nx ?_)
  by_cases c5 : (way.any (fun y => decide (y.f = ((g.filter (fun e => decide (e.t = at_))).getD j noEdge).f))) = true
  ·refine WC.condY rfl (c5) ?_
   refine WC.exit (E.thenX (E.blkH (E.thenN (WC.region ?_))))
   refine W.a (.add rfl rfl (by omega)) ?_
   refine W.run 1 rfl (W.nil ?_)
   have f173 := (f171.le h10_7_2)
   have f174 := (((f0_1.le h9_2_2).ch h9_3_2 (fun q hq => by cases hq; exact (fun he => by have := (f0_1.row he).2; omega))).le h10_7_2)
   have f175 := (((f0_2.le h9_2_2).ch h9_3_2 (fun q hq => by cases hq; exact (fun he => by have := (f0_2.row he).2; omega))).le h10_7_2)
   have f176 := (((f0_3.le h9_2_2).ch h9_3_2 (fun q hq => by cases hq; exact (fun he => by have := (f0_3.row he).2; omega))).le h10_7_2)
   have f177 := (((f0_4.le h9_2_2).ch h9_3_2 (fun q hq => by cases hq; exact (fun he => by have := (f0_4.row he).2; omega))).le h10_7_2)
   have f178 := (((f0_5.le h9_2_2).ch h9_3_2 (fun h => (show g9_2_2 ≠ gb from by have := f0_5.lt; omega) (Option.some.inj h))).le h10_7_2)
   refine E.again (j + 1, bk, Ax, cx, Ay, cy, Az, cz) (.cons rfl (.cons rfl (.cons rfl (.cons rfl (.cons rfl (.cons rfl (.nil _))))))) ?_ ?_
   ·exact ⟨by omega, (by rw [fold_next (z := noEdge) (l := (g.filter (fun e => decide (e.t = at_)))) (by omega), <- hbk]; exact (if_pos (by first | (unfold skipR; rw [decide_eq_true q10_4]; exact Bool.true_or _) | (unfold skipR; rw [c5]; exact Bool.or_true _))).symm), hbe, hbl, L172, by have := zl0; have := h9_2_2.size; have := h9_3_2.size; have := h10_7_2.size; omega, f173, f174, f175, f176, f177, f178⟩
   first | omega | (simp only []; omega)
  refine WC.condN rfl ((Bool.eq_false_iff.2 c5)) ?_
  refine WC.sn ?_
  refine WC.drawR (fun w11 w' => ChP w w' ((fun k => k = gb)) /\ Blk w' g9_2_2 81 (edgeV ((g.filter (fun e => decide (e.t = at_))).getD j noEdge)).toArray) [0, 1, 3, 5, 6, 2, 4, 7] mixed (by kernel_rfl) ?_
  intro w11 d11
  have L179 := L172.le d11
  have f180 := (b9_3_2.le (h10_7_2.trans d11))
  refine ⟨⟨L179, f180⟩, ?_⟩
  refine GR.rd rfl rfl (fun w' hs => .loadB (v := .func (.func 115) #[] #[.pointer (some ⟨b2, 0, none⟩), .pointer (some ⟨b3, 0, none⟩), .pointer (some ⟨b4, 0, none⟩), .pointer (some ⟨gb, 0, none⟩), .pointer (some ⟨b6, 0, none⟩), .pointer (some ⟨b7, 0, none⟩), .pointer (some ⟨b8, 0, none⟩), .pointer (some ⟨b9, 0, none⟩)]) na191 rfl (hE.h9.chP hs.1 hE.n9) rfl) rfl rfl rfl ?_
  refine GR.rd rfl rfl (fun w' hs => .loadAll ag81 (by rfl) rfl hs.2) rfl rfl rfl ?_
  refine GR.any rfl rfl (.move rfl) rfl rfl rfl ?_
  refine GR.any rfl rfl (.field0 fa81_0 rfl) rfl rfl rfl ?_
  refine GR.rd rfl rfl (fun w' hs => .loadB (v := .int .i64 (((g.filter (fun e => decide (e.t = at_))).getD j noEdge).f)) na3 rfl hs.2 rfl) rfl rfl rfl ?_
  refine GR.ef rfl rfl rfl rfl rfl ?_
  refine Ef.buildSliceV (len := 1) [_] underlying32 el81 rfl (by simp [Value.cells, edgeV_row.len]) rfl (by decide) (by decide) ?_
  intro g11_2_2 w11_2_2 hg11_2_2 b11_2_2 h11_2_2
  have L181 := L179.le h11_2_2
  have b11_2_2 : Blk w11_2_2 g11_2_2 81 (([(g.filter (fun e => decide (e.t = at_))).getD j noEdge]).map edgeV).flatten.toArray := b11_2_2
  have o11_2_2 : OVec w11_2_2 w11.heap.size 81 edgeV 9 (some ⟨g11_2_2, 0, none⟩) 1 1 ([(g.filter (fun e => decide (e.t = at_))).getD j noEdge]) := b11_2_2.ovec hg11_2_2 edgeV_row rfl rfl (by decide)
  have f182 := (f180.le h11_2_2)
  refine ⟨fun _ => ⟨L181, f182⟩, ?_⟩
  have f183 := (f171.le (h10_7_2.trans (d11.trans h11_2_2)))
  refine GR.ef rfl rfl rfl rfl rfl ?_
  refine Ef.vcat underlying32 el81 underlying32 edgeV_row rfl o11_2_2 rfl f183.vec (by omega) (by unfold maxLen; omega) (by have := h11_2_2.size; omega) ?_
  intro A11_4_2 c11_4_2 w11_4_2 o11_4_2 h11_4_2 at11_4_2
  have L184 : ChP w w11_4_2 ((fun k => k = gb)) := L181.ch h11_4_2 (fun i hi hlt => absurd hlt (by have := (o11_2_2.row hi).1; have := L179.size; omega))
  have f185 := (f182.ch h11_4_2 (fun he => by have := (o11_2_2.row he).1; have := f180.lt; omega))
  refine ⟨fun _ => ⟨L184, f185⟩, ?_⟩
  have f186 := ((((f0_5.le h9_2_2).ch h9_3_2 (fun h => (show g9_2_2 ≠ gb from by have := f0_5.lt; omega) (Option.some.inj h))).le (h10_7_2.trans (d11.trans h11_2_2))).ch h11_4_2 (fun he => by have := (o11_2_2.row he).1; have := f0_5.lt; have := h9_2_2.size; have := h9_3_2.size; have := h10_7_2.size; have := d11.size; omega))
  have f187 := ((((f0_2.le h9_2_2).ch h9_3_2 (fun q hq => by cases hq; exact (fun he => by have := (f0_2.row he).2; omega))).le (h10_7_2.trans (d11.trans h11_2_2))).ch h11_4_2 ((Apart.symm (fun q h1 h2 => by have := (f0_2.row h1).2; have := (o11_2_2.row h2).1; have := h9_2_2.size; have := h9_3_2.size; have := h10_7_2.size; have := d11.size; omega))))
  have f188 := ((((f0_3.le h9_2_2).ch h9_3_2 (fun q hq => by cases hq; exact (fun he => by have := (f0_3.row he).2; omega))).le (h10_7_2.trans (d11.trans h11_2_2))).ch h11_4_2 ((Apart.symm (fun q h1 h2 => by have := (f0_3.row h1).2; have := (o11_2_2.row h2).1; have := h9_2_2.size; have := h9_3_2.size; have := h10_7_2.size; have := d11.size; omega))))
  have f189 := ((((f0_4.le h9_2_2).ch h9_3_2 (fun q hq => by cases hq; exact (fun he => by have := (f0_4.row he).2; omega))).le (h10_7_2.trans (d11.trans h11_2_2))).ch h11_4_2 ((Apart.symm (fun q h1 h2 => by have := (f0_4.row h1).2; have := (o11_2_2.row h2).1; have := h9_2_2.size; have := h9_3_2.size; have := h10_7_2.size; have := d11.size; omega))))
  have zb11_7_2 : BestAt w11_4_2 bs gb bk := ⟨_, _, _, _, _, _, f186, f187, f188, f189, hbe, hbl.1, hbl.2.1, hbl.2.2⟩
  have zi11_7_2 := ih ([(g.filter (fun e => decide (e.t = at_))).getD j noEdge] ++ way) (by omega) (((g.filter (fun e => decide (e.t = at_))).getD j noEdge).f) bk w11_4_2 L184 (o11_4_2.mono (Nat.le_trans hbs0 L179.size))
  have zj11_7_2 := zi11_7_2 (by omega) (by omega) (fun he => by have := (o11_4_2.row he).1; have := f0_5.lt; have := h9_2_2.size; have := h9_3_2.size; have := h10_7_2.size; have := d11.size; omega) zb11_7_2
  refine GR.ef rfl rfl rfl rfl rfl ?_
  refine Ef.callC go115 rfl rfl rfl (zj11_7_2) ?_
  rintro _ w11_7_2 ⟨rfl, ⟨Aw11_7_2, cw11_7_2, An11_7_2, cn11_7_2, Ad11_7_2, cd11_7_2, bp11_7_2, ow11_7_2, on11_7_2, od11_7_2, he11_7_2, hl11_7_2, hm11_7_2, hd11_7_2⟩, h11_7_2⟩
  refine ⟨_, rfl, ?_⟩
  have L190 := L184.sub h11_7_2 (fun i hi hlt => (by subst hi; exact rfl))
  refine noT (by kernel_rfl) ?_
  refine GR.nil ?_
  refine E.blkN (E.thenN (WC.region ?_))
  refine W.a (.add rfl rfl (by omega)) ?_
  refine W.run 1 rfl (W.nil ?_)
  have f191 := ((f183.ch h11_4_2 ((Apart.symm (fun q h1 h2 => by have := (f171.row h1).2; have := (o11_2_2.row h2).1; have := h10_7_2.size; have := d11.size; omega)))).chP h11_7_2 (fun q hqq hF => (by subst hF; exact hWg hqq)))
  have f192 := (((((f0_1.le h9_2_2).ch h9_3_2 (fun q hq => by cases hq; exact (fun he => by have := (f0_1.row he).2; omega))).le (h10_7_2.trans (d11.trans h11_2_2))).ch h11_4_2 ((Apart.symm (fun q h1 h2 => by have := (f0_1.row h1).2; have := (o11_2_2.row h2).1; have := h9_2_2.size; have := h9_3_2.size; have := h10_7_2.size; have := d11.size; omega)))).chP h11_7_2 (fun q hqq hF => (by subst hF; exact (fun he => by have := (f0_1.row he).1; have := hB0.lt; have := h0_4.size; have := h0_9.size; have := h0_10.size; omega) hqq)))
  refine E.again (j + 1, (lookR g m fr to a x k ([(g.filter (fun e => decide (e.t = at_))).getD j noEdge] ++ way) (((g.filter (fun e => decide (e.t = at_))).getD j noEdge).f) bk), Aw11_7_2, cw11_7_2, An11_7_2, cn11_7_2, Ad11_7_2, cd11_7_2) (.cons rfl (.cons rfl (.cons rfl (.cons rfl (.cons rfl (.cons rfl (.nil _))))))) ?_ ?_
  ·exact ⟨by omega, (by rw [fold_next (z := noEdge) (l := (g.filter (fun e => decide (e.t = at_)))) (by omega), <- hbk]; exact (if_neg (by simp only [skipR, Bool.or_eq_true, decide_eq_true_eq, not_or]; exact ⟨q10_4, c5⟩)).symm), he11_7_2, ⟨hl11_7_2, hm11_7_2, hd11_7_2⟩, L190, by have := zl0; have := h9_2_2.size; have := h9_3_2.size; have := h10_7_2.size; have := d11.size; have := h11_2_2.size; have := h11_4_2.size; have := h11_7_2.size; omega, f191, f192, ow11_7_2, on11_7_2, od11_7_2, bp11_7_2⟩
  first | omega | (simp only []; omega)
 refine WC.condN rfl (decide_eq_false c4) ?_
 refine WC.exit (E.thenX (E.thenX (E.blkH (E.end_ ?_))))
 refine E.ret0 rfl ?_
 have hnc : ¬ cutR way (oddsR m way a x) b := (by first | exact not_cut1 q1_3 hwl | exact not_cut2 q1_6 q1_12 (.inl (hbn q1_16)) | exact not_cut2 q1_6 q1_12 (.inr c0))
 have hje : j = (g.filter (fun e => decide (e.t = at_))).length := (by omega)
 have hlk : lookR g m fr to a x (k + 1) way at_ b = bk := (by rw [lookR_go hnc c1 (by rw [hwl]; omega), hbk, hje, List.take_length]; rfl)
 rw [hlk]
 exact ⟨rfl, ⟨_, _, _, _, _, _, f0_5, f0_2, f0_3, f0_4, hbe, hbl.1, hbl.2.1, hbl.2.2⟩, Ll0⟩


theorem look_ok {bs base gp ng cg b2 b3 b4 gb b6 b7 b8 b9 : Nat} {F : Nat -> Prop} {m : MF} {Ag : Option Addr} {g : List Gsp.Edge} {fr to a x : Int} : ∀ (k : Nat) (way : List Gsp.Edge) {A : Option Addr} {n c : Nat} (hk1 : 1 <= k) (at_ : Int) (b : Fnd) (w : World), LookE w base gp F m Ag ng cg g fr to a x b2 b3 b4 gb b6 b7 b8 b9 -> bs <= w.heap.size -> OVec w bs 81 edgeV 9 A n c way -> n + k = 9 -> (n = 0 -> A = none) -> (n = 0 -> at_ ≠ fr) -> rowOf A c ≠ some gb -> BestAt w bs gb b ->
    Calls prog 115 #[.slice A n c, .int .i64 at_, .pointer (some ⟨b2, 0, none⟩), .pointer (some ⟨b3, 0, none⟩), .pointer (some ⟨b4, 0, none⟩), .pointer (some ⟨gb, 0, none⟩), .pointer (some ⟨b6, 0, none⟩), .pointer (some ⟨b7, 0, none⟩), .pointer (some ⟨b8, 0, none⟩), .pointer (some ⟨b9, 0, none⟩)] w fun r w2 => r = .returned (.tuple #[]) /\ BestAt w2 bs gb (lookR g m fr to a x k way at_ b) /\ ChP w w2 (fun k => k = gb)
  | 0, _, _, _, _, h, _, _, _, _, _, _, _, _, _, _, _ => absurd h (by decide)
  | k + 1, way, A, n, c, _, at_, b, w, hE, hbs, hW, hnk, hn0, hnf, hWg, hB => by
    obtain ⟨Aw, cw, An, cn, Ad, cd, hB⟩ := hB
    refine look_step at_ w hE (fun way' A' n' c' hk1 at' b' w1 hc hW' hn' h1 hg' hB' => look_ok k way' hk1 at' b' w1 (hE.chP hc) (Nat.le_trans hbs hc.size) hW' hn' (fun h => by omega) (fun h => by omega) hg' hB') hbs hW hWg (by omega) hB hn0 hnf

end Go.Proofs.YtocheaahlpiajaaGreatDoor

namespace Go.Proofs.YtocheaahlpiajaaGreatDoor
open Tryz
open Go Go.Sx Go.Num Go.Gsp Go.Nsp Go.Msp Go.Rtp
set_option maxRecDepth 20000
set_option maxHeartbeats 4000000
theorem best_none {w : World} {bs gb : Nat} (h : Blk w gb 190 #[.slice none 0 0, .slice none 0 0, .slice none 0 0, .int .i64 0]) : BestAt w bs gb noFnd := by
  refine ⟨none, 0, none, 0, none, 0, ?_, OVec.nil _ _ _ _ _ _, ?_, ?_, fun _ => rfl, by decide, ?_, ?_⟩
  · show Blk w gb 190 #[.slice none 0 0, .slice none (digs 0).length 0, .slice none (digs 0).length 0, .int .i64 0]
    rw [digs_zero]; exact h
  · show OVec w bs 273 dv 1 none (digs 0).length 0 (digs 0)
    rw [digs_zero]; exact OVec.nil _ _ _ _ _ _
  · show OVec w bs 273 dv 1 none (digs 0).length 0 (digs 0)
    rw [digs_zero]; exact OVec.nil _ _ _ _ _ _
  · show (digs 0).length <= 100
    rw [digs_zero]; decide
  · show (digs 0).length <= 100
    rw [digs_zero]; decide
theorem bestR_none {g : List Gsp.Edge} {m : MF} {fr to a x : Int} (hb : badR g fr to a x = false) (h : (lookR g m fr to a x 9 [] to noFnd).way = []) : bestR g m fr to a x = ([], ⟨0, 0⟩, 19) := by unfold bestR; rw [if_neg (by rw [hb]; decide), if_pos h]
theorem bestR_some {g : List Gsp.Edge} {m : MF} {fr to a x : Int} (hb : badR g fr to a x = false) (h : (lookR g m fr to a x 9 [] to noFnd).way ≠ []) : bestR g m fr to a x = ((lookR g m fr to a x 9 [] to noFnd).way, (lookR g m fr to a x 9 [] to noFnd).odds, 0) := by unfold bestR; rw [if_neg (by rw [hb]; decide), if_neg h]
theorem rbest_ok {base gp : Nat} {F : Nat -> Prop} {m : MF} (fr to a x : Int) {A : Option Addr} {n c : Nat} {g : List Gsp.Edge} (w : World) (hP : MPool w base gp F m) (hV : Vec w edgeV 9 A n g) (hn : n <= 1000000) : Calls prog 46 #[.slice A n c, .pointer (some ⟨gp, 0, none⟩), .int .i64 (fr), .int .i64 (to), .int .i64 (a), .int .i64 (x)] w fun r w' => ∃ Aw cw An cn Ad cd, r = .returned (.tuple #[.slice Aw (bestR g m fr to a x).1.length cw, .agg #[.slice An (digs (bestR g m fr to a x).2.1.n).length cn, .slice Ad (digs (bestR g m fr to a x).2.1.d).length cd], .int .i64 (bestR g m fr to a x).2.2]) /\ OVec w' w.heap.size 81 edgeV 9 Aw (bestR g m fr to a x).1.length cw (bestR g m fr to a x).1 /\ OVec w' w.heap.size 273 dv 1 An (digs (bestR g m fr to a x).2.1.n).length cn (digs (bestR g m fr to a x).2.1.n) /\ OVec w' w.heap.size 273 dv 1 Ad (digs (bestR g m fr to a x).2.1.d).length cd (digs (bestR g m fr to a x).2.1.d) /\ Le w w' := by
 have hl := hV.1
 have hgm := hP.good
 refine enter func46 rfl rfl ?_
 have L0 := Le.refl w
 refine WC.sr (W.ef rfl rfl rfl ?_)
 refine Ef.box rfl ?_
 intro g0_0 w0_0 hg0_0 b0_0 h0_0
 have L1 := L0.trans h0_0
 have b0_0 : Blk w0_0 g0_0 32 #[.slice A n c] := b0_0
 refine W.ef rfl rfl rfl ?_
 refine Ef.box rfl ?_
 intro g0_1 w0_1 hg0_1 b0_1 h0_1
 have L2 := L1.trans h0_1
 have b0_1 : Blk w0_1 g0_1 55 #[.pointer (some ⟨gp, 0, none⟩)] := b0_1
 refine W.ef rfl rfl rfl ?_
 refine Ef.box rfl ?_
 intro g0_2 w0_2 hg0_2 b0_2 h0_2
 have L3 := L2.trans h0_2
 have b0_2 : Blk w0_2 g0_2 3 #[.int .i64 (fr)] := b0_2
 refine W.ef rfl rfl rfl ?_
 refine Ef.box rfl ?_
 intro g0_3 w0_3 hg0_3 b0_3 h0_3
 have L4 := L3.trans h0_3
 have b0_3 : Blk w0_3 g0_3 3 #[.int .i64 (to)] := b0_3
 refine W.ef rfl rfl rfl ?_
 refine Ef.box rfl ?_
 intro g0_4 w0_4 hg0_4 b0_4 h0_4
 have L5 := L4.trans h0_4
 have b0_4 : Blk w0_4 g0_4 3 #[.int .i64 (a)] := b0_4
 refine W.ef rfl rfl rfl ?_
 refine Ef.box rfl ?_
 intro g0_5 w0_5 hg0_5 b0_5 h0_5
 have L6 := L5.trans h0_5
 have b0_5 : Blk w0_5 g0_5 3 #[.int .i64 (x)] := b0_5
 refine W.run 1 rfl (W.ef rfl rfl rfl ?_)
 refine Ef.allocA z61 ?_
 intro g0_7 w0_7 hg0_7 b0_7 h0_7
 have L7 := L6.trans h0_7
 have b0_7 : Blk w0_7 g0_7 61 #[.slice none 0 0, .slice none 0 0] := b0_7
 refine W.run 1 rfl (W.nx (WC.seq (WC.sr ?_)))
 have f8 := (b0_0.le (h0_1.trans (h0_2.trans (h0_3.trans (h0_4.trans (h0_5.trans h0_7))))))
 refine W.r (.loadB (v := .slice A n c) na32 rfl f8 rfl) ?_
 refine W.cl go68 rfl rfl (gright_ok w0_7 (hV.le L7) (by omega)) ?_
 rintro _ w1_1 ⟨rfl, h1_1⟩
 have L9 := L7.trans h1_1
 refine W.run 1 rfl ?_
 by_cases q1_3 : (rightG g) = true
 ·refine W.a (.dec (.move rfl) (congrArg not (q1_3))) ?_
  have f10 := (b0_2.le (h0_3.trans (h0_4.trans (h0_5.trans (h0_7.trans h1_1)))))
  refine W.g (.loadB (v := .int .i64 (fr)) na3 rfl f10 rfl) ?_
  refine W.efg rfl rfl rfl (rfl) rfl rfl ?_
  refine Ef.call go114 rfl rfl (rtwithin_ok fr 0 11 w1_1) ?_
  rintro _ w1_5 ⟨rfl, h1_5⟩
  refine ⟨_, rfl, ?_⟩
  have L11 := L9.trans h1_5
  refine W.run 2 rfl ?_
  by_cases q1_8 : (inB fr 0 11) = true
  ·refine W.a (.dec (.move rfl) (congrArg not (q1_8))) ?_
   have f12 := (b0_3.le (h0_4.trans (h0_5.trans (h0_7.trans (h1_1.trans h1_5)))))
   refine W.g (.loadB (v := .int .i64 (to)) na3 rfl f12 rfl) ?_
   refine W.efg rfl rfl rfl (rfl) rfl rfl ?_
   refine Ef.call go114 rfl rfl (rtwithin_ok to 0 11 w1_5) ?_
   rintro _ w1_10 ⟨rfl, h1_10⟩
   refine ⟨_, rfl, ?_⟩
   have L13 := L11.trans h1_10
   refine W.run 2 rfl ?_
   by_cases q1_13 : (inB to 0 11) = true
   ·refine W.a (.dec (.move rfl) (congrArg not (q1_13))) ?_
    have f14 := (f10.le (h1_5.trans h1_10))
    refine W.g (.loadB (v := .int .i64 (fr)) na3 rfl f14 rfl) ?_
    have f15 := (f12.le h1_10)
    refine W.g (.loadB (v := .int .i64 (to)) na3 rfl f15 rfl) ?_
    refine W.run 2 rfl ?_
    by_cases q1_18 : fr = to
    ·refine W.dt q1_18 rfl rfl (W.run 9 rfl (W.nx (WC.condT rfl (WC.sr ?_))))
     refine W.a (.buildP [.slice none 0 0, .slice none 0 0] pl61 z61 rfl rfl) ?_
     refine W.run 1 rfl ?_
     have f16 := (b0_7.le (h1_1.trans (h1_5.trans h1_10)))
     refine W.sA sz61 rfl rfl f16 ?_
     intro w2_2 b2_2 h2_2
     have b2_2 : Blk w2_2 g0_7 61 #[.slice none 0 0, .slice none 0 0] := b2_2
     have L17 := L13.tb h2_2 L6 hg0_7
     refine W.run 1 rfl (W.nx (WC.ret (E.thenR ?_)))
     refine E.retG3 rfl rfl (resA rfl b2_2 ag61 (by rfl)) rfl ?_
     rw [bestR_bad (by unfold badR; simp [q1_3, q1_8, q1_13, q1_18])]
     exact ⟨none, 0, none, 0, none, 0, by simp only [digs_zero]; rfl, OVec.nil _ _ _ _ _ _, by simp only [digs_zero]; exact OVec.nil _ _ _ _ _ _, by simp only [digs_zero]; exact OVec.nil _ _ _ _ _ _, L17⟩
    refine W.df q1_18 rfl rfl ?_
    have f18 := (b0_4.le (h0_5.trans (h0_7.trans (h1_1.trans (h1_5.trans h1_10)))))
    refine W.g (.loadB (v := .int .i64 (a)) na3 rfl f18 rfl) ?_
    refine W.efg rfl rfl rfl (rfl) rfl rfl ?_
    refine Ef.call go114 rfl rfl (rtwithin_ok a 1 1125899906842624 w1_10) ?_
    rintro _ w1_20 ⟨rfl, h1_20⟩
    refine ⟨_, rfl, ?_⟩
    have L19 := L13.trans h1_20
    refine W.run 2 rfl ?_
    by_cases q1_23 : (inB a 1 1125899906842624) = true
    ·refine W.a (.dec (.move rfl) (congrArg not (q1_23))) ?_
     have f20 := (b0_5.le (h0_7.trans (h1_1.trans (h1_5.trans (h1_10.trans h1_20)))))
     refine W.g (.loadB (v := .int .i64 (x)) na3 rfl f20 rfl) ?_
     refine W.efg rfl rfl rfl (rfl) rfl rfl ?_
     refine Ef.call go114 rfl rfl (rtwithin_ok x 1 1048576 w1_20) ?_
     rintro _ w1_25 ⟨rfl, h1_25⟩
     refine ⟨_, rfl, ?_⟩
     have L21 := L19.trans h1_25
     refine W.run 2 rfl (W.nx ?_)
     by_cases c0 : (inB x 1 1048576) = true
     ·refine WC.condN rfl (congrArg not (c0)) ?_
      have hbad : badR g fr to a x = false := by unfold badR; simp [q1_3, q1_8, q1_13, q1_18, q1_23, c0]
      have hft := (bad_T hbad).2.2.2.1
      refine WC.sn (WC.sr (W.ef rfl rfl rfl ?_))
      refine Ef.allocA z190 ?_
      intro g3_0 w3_0 hg3_0 b3_0 h3_0
      have L22 := L21.trans h3_0
      have b3_0 : Blk w3_0 g3_0 190 #[.slice none 0 0, .slice none 0 0, .slice none 0 0, .int .i64 (0)] := b3_0
      refine W.nx (WC.sr (W.ef rfl rfl rfl ?_))
      refine Ef.alloc z191 ?_
      intro g4_0 w4_0 hg4_0 b4_0 h4_0
      have L23 := L22.trans h4_0
      have b4_0 : Blk w4_0 g4_0 191 #[.nilFunc] := b4_0
      refine W.nx (WC.sr ?_)
      refine W.a (.makeFunc rfl) ?_
      refine W.ef0 rfl rfl ?_
      refine Ef.store sz191 rfl rfl b4_0 (by first | decide | (simp; done)) (rfl) ?_
      intro w5_1 b5_1 h5_1
      have b5_1 : Blk w5_1 g4_0 191 #[.func (.func 115) #[] #[.pointer (some ⟨g0_1, 0, none⟩), .pointer (some ⟨g0_4, 0, none⟩), .pointer (some ⟨g0_5, 0, none⟩), .pointer (some ⟨g3_0, 0, none⟩), .pointer (some ⟨g0_2, 0, none⟩), .pointer (some ⟨g0_0, 0, none⟩), .pointer (some ⟨g0_3, 0, none⟩), .pointer (some ⟨g4_0, 0, none⟩)]] := b5_1
      have L24 := L23.tb h5_1 L22 hg4_0
      refine W.nx (WC.sr ?_)
      refine W.r (.loadB (v := .func (.func 115) #[] #[.pointer (some ⟨g0_1, 0, none⟩), .pointer (some ⟨g0_4, 0, none⟩), .pointer (some ⟨g0_5, 0, none⟩), .pointer (some ⟨g3_0, 0, none⟩), .pointer (some ⟨g0_2, 0, none⟩), .pointer (some ⟨g0_0, 0, none⟩), .pointer (some ⟨g0_3, 0, none⟩), .pointer (some ⟨g4_0, 0, none⟩)]) na191 rfl b5_1 rfl) ?_
      have f25 := ((f15.le (h1_20.trans (h1_25.trans (h3_0.trans h4_0)))).ch h5_1 (fun h => (show g4_0 ≠ g0_3 from by have := f15.lt; have := h1_20.size; have := h1_25.size; have := h3_0.size; omega) (Option.some.inj h)))
      refine W.r (.loadB (v := .int .i64 (to)) na3 rfl f25 rfl) ?_
      have f26 := ((b0_1.le (h0_2.trans (h0_3.trans (h0_4.trans (h0_5.trans (h0_7.trans (h1_1.trans (h1_5.trans (h1_10.trans (h1_20.trans (h1_25.trans (h3_0.trans h4_0)))))))))))).ch h5_1 (fun h => (show g4_0 ≠ g0_1 from by have := b0_1.lt; have := h0_2.size; have := h0_3.size; have := h0_4.size; have := h0_5.size; have := h0_7.size; have := h1_1.size; have := h1_5.size; have := h1_10.size; have := h1_20.size; have := h1_25.size; have := h3_0.size; omega) (Option.some.inj h)))
      have f27 := ((f18.le (h1_20.trans (h1_25.trans (h3_0.trans h4_0)))).ch h5_1 (fun h => (show g4_0 ≠ g0_4 from by have := f18.lt; have := h1_20.size; have := h1_25.size; have := h3_0.size; omega) (Option.some.inj h)))
      have f28 := ((f20.le (h1_25.trans (h3_0.trans h4_0))).ch h5_1 (fun h => (show g4_0 ≠ g0_5 from by have := f20.lt; have := h1_25.size; have := h3_0.size; omega) (Option.some.inj h)))
      have f29 := ((b3_0.le h4_0).ch h5_1 (fun h => (show g4_0 ≠ g3_0 from by have := b3_0.lt; omega) (Option.some.inj h)))
      have f30 := ((f14.le (h1_20.trans (h1_25.trans (h3_0.trans h4_0)))).ch h5_1 (fun h => (show g4_0 ≠ g0_2 from by have := f14.lt; have := h1_20.size; have := h1_25.size; have := h3_0.size; omega) (Option.some.inj h)))
      have f31 := ((f8.le (h1_1.trans (h1_5.trans (h1_10.trans (h1_20.trans (h1_25.trans (h3_0.trans h4_0))))))).ch h5_1 (fun h => (show g4_0 ≠ g0_0 from by have := f8.lt; have := h1_1.size; have := h1_5.size; have := h1_10.size; have := h1_20.size; have := h1_25.size; have := h3_0.size; omega) (Option.some.inj h)))
      have f32 := ((hP.le (h0_0.trans (h0_1.trans (h0_2.trans (h0_3.trans (h0_4.trans (h0_5.trans (h0_7.trans (h1_1.trans (h1_5.trans (h1_10.trans (h1_20.trans (h1_25.trans (h3_0.trans h4_0)))))))))))))).ch h5_1 (fun q hqq hF => by cases hqq; have := hP.lt hF; have := h0_0.size; have := h0_1.size; have := h0_2.size; have := h0_3.size; have := h0_4.size; have := h0_5.size; have := h0_7.size; have := h1_1.size; have := h1_5.size; have := h1_10.size; have := h1_20.size; have := h1_25.size; have := h3_0.size; have := hg4_0; omega))
      have zE6_2 : LookE w5_1 base gp F m A n c g fr to a x g0_1 g0_4 g0_5 g3_0 g0_2 g0_0 g0_3 g4_0 := ⟨f26, f27, f28, f30, f31, f25, b5_1, f32, (hV.le L24), (show g0_1 ≠ g3_0 from by have := b0_1.lt; have := h0_2.size; have := h0_3.size; have := h0_4.size; have := h0_5.size; have := h0_7.size; have := h1_1.size; have := h1_5.size; have := h1_10.size; have := h1_20.size; have := h1_25.size; omega), (show g0_4 ≠ g3_0 from by have := f18.lt; have := h1_20.size; have := h1_25.size; omega), (show g0_5 ≠ g3_0 from by have := f20.lt; have := h1_25.size; omega), (show g0_2 ≠ g3_0 from by have := f14.lt; have := h1_20.size; have := h1_25.size; omega), (show g0_0 ≠ g3_0 from by have := f8.lt; have := h1_1.size; have := h1_5.size; have := h1_10.size; have := h1_20.size; have := h1_25.size; omega), (show g0_3 ≠ g3_0 from by have := f15.lt; have := h1_20.size; have := h1_25.size; omega), (show g4_0 ≠ g3_0 from by have := b3_0.lt; omega), (fun k hk he => (show ¬ F g3_0 from (fun hF => by have := hP.lt hF; have := h0_0.size; have := h0_1.size; have := h0_2.size; have := h0_3.size; have := h0_4.size; have := h0_5.size; have := h0_7.size; have := h1_1.size; have := h1_5.size; have := h1_10.size; have := h1_20.size; have := h1_25.size; have := hg3_0; omega)) (he ▸ hk)), (fun q h1 h2 _ he => by have := hV.blk_lt edgeV_row h2 h1; have := L21.size; have := hg3_0; omega), hn⟩
      have zi6_2 := look_ok 9 [] (by decide) to noFnd w5_1 zE6_2 (bs := w5_1.heap.size) (Nat.le_refl _) (OVec.nil _ _ _ _ _ _) (by decide) (fun _ => rfl) (fun _ h => hft h.symm) (by simp [rowOf]) (best_none f29)
      refine W.ef rfl rfl rfl ?_
      refine Ef.callC go115 rfl rfl rfl (zi6_2) ?_
      rintro _ w6_2 ⟨rfl, ⟨Aw6_2, cw6_2, An6_2, cn6_2, Ad6_2, cd6_2, bp6_2, ow6_2, on6_2, od6_2, he6_2, hl6_2, hm6_2, hd6_2⟩, h6_2⟩
      refine ⟨_, rfl, ?_⟩
      have L33 := L24.chP_then h6_2 (fun i hi => (by subst hi; exact Nat.le_trans L21.size hg3_0))
      refine W.nx (WC.seq (WC.sr ?_))
      refine W.a (.field0 fa190_0 rfl) ?_
      refine W.r (.loadB (v := .slice Aw6_2 ((lookR g m fr to a x 9 [] to noFnd).way.length) cw6_2) na32 rfl bp6_2 rfl) ?_
      refine W.a (.isNil underlying32 rfl) ?_
      refine W.nx ?_
      by_cases c1 : Aw6_2.isNone = true
      ·refine WC.condY rfl (c1) ?_
       refine WC.sr ?_
       refine W.a (.buildP [.slice none 0 0, .slice none 0 0] pl61 z61 rfl rfl) ?_
       refine W.run 1 rfl ?_
       have f34 := (((b0_7.le (h1_1.trans (h1_5.trans (h1_10.trans (h1_20.trans (h1_25.trans (h3_0.trans h4_0))))))).ch h5_1 (fun h => (show g4_0 ≠ g0_7 from by have := b0_7.lt; have := h1_1.size; have := h1_5.size; have := h1_10.size; have := h1_20.size; have := h1_25.size; have := h3_0.size; omega) (Option.some.inj h))).chP h6_2 (fun hF => (show g0_7 ≠ g3_0 from by have := b0_7.lt; have := h1_1.size; have := h1_5.size; have := h1_10.size; have := h1_20.size; have := h1_25.size; omega) hF))
       refine W.sA sz61 rfl rfl f34 ?_
       intro w8_2 b8_2 h8_2
       have b8_2 : Blk w8_2 g0_7 61 #[.slice none 0 0, .slice none 0 0] := b8_2
       have L35 := L33.tb h8_2 L6 hg0_7
       refine W.run 1 rfl (W.nx (WC.ret (E.thenR ?_)))
       refine E.retG3 rfl rfl (resA rfl b8_2 ag61 (by rfl)) rfl ?_
       rw [bestR_none hbad (Decidable.byContradiction fun hh => by have hs := ow6_2.vec.isSome edgeV_row (List.length_pos_iff.2 hh); have hc := c1; revert hc hs; cases Aw6_2 <;> simp)]
       exact ⟨none, 0, none, 0, none, 0, by simp only [digs_zero]; rfl, OVec.nil _ _ _ _ _ _, by simp only [digs_zero]; exact OVec.nil _ _ _ _ _ _, by simp only [digs_zero]; exact OVec.nil _ _ _ _ _ _, L35⟩
      refine WC.condN rfl ((Bool.eq_false_iff.2 c1)) ?_
      refine WC.sn (WC.seq ?_)
      refine WC.draw [0, 1, 2, 3, 4, 5, 6] mixed (by kernel_rfl) ?_
      intro w9 d9
      have L36 := L33.trans d9
      refine G.a rfl (.field0 fa190_0 rfl) ?_
      have f37 := (bp6_2.le d9)
      refine G.r rfl (.loadB (v := .slice Aw6_2 ((lookR g m fr to a x 9 [] to noFnd).way.length) cw6_2) na32 rfl f37 rfl) ?_
      refine G.a rfl (.field0 fa190_1 rfl) ?_
      refine G.r rfl (.bpart [.slice An6_2 ((digs (lookR g m fr to a x 9 [] to noFnd).odds.n).length) cn6_2, .slice Ad6_2 ((digs (lookR g m fr to a x 9 [] to noFnd).odds.d).length) cd6_2] ag61 rfl (by decide) rfl f37 rfl) ?_
      refine G.run 1 rfl ?_
      have f38 := ((((b0_7.le (h1_1.trans (h1_5.trans (h1_10.trans (h1_20.trans (h1_25.trans (h3_0.trans h4_0))))))).ch h5_1 (fun h => (show g4_0 ≠ g0_7 from by have := b0_7.lt; have := h1_1.size; have := h1_5.size; have := h1_10.size; have := h1_20.size; have := h1_25.size; have := h3_0.size; omega) (Option.some.inj h))).chP h6_2 (fun hF => (show g0_7 ≠ g3_0 from by have := b0_7.lt; have := h1_1.size; have := h1_5.size; have := h1_10.size; have := h1_20.size; have := h1_25.size; omega) hF)).le d9)
      refine G.ef0 rfl rfl rfl rfl ?_
      refine Ef.storeAll sz61 (by rfl) rfl rfl f38 (by rfl) (by simp [Value.oneCell']) ?_
      intro w9_5 b9_5 h9_5
      refine noT (by kernel_rfl) ?_
      have b9_5 : Blk w9_5 g0_7 61 #[.slice An6_2 ((digs (lookR g m fr to a x 9 [] to noFnd).odds.n).length) cn6_2, .slice Ad6_2 ((digs (lookR g m fr to a x 9 [] to noFnd).odds.d).length) cd6_2] := b9_5
      have L39 := L36.tb h9_5 L6 hg0_7
      refine G.run 1 rfl (G.nil (E.thenN (WC.ret ?_)))
      have f40 := ((ow6_2.le d9).ch h9_5 (fun q hq => by cases hq; exact (fun he => by have := (ow6_2.row he).1; have := b0_7.lt; have := h1_1.size; have := h1_5.size; have := h1_10.size; have := h1_20.size; have := h1_25.size; have := h3_0.size; have := h4_0.size; have := h5_1.size; omega)))
      have f41 := ((on6_2.le d9).ch h9_5 (fun q hq => by cases hq; exact (fun he => by have := (on6_2.row he).1; have := b0_7.lt; have := h1_1.size; have := h1_5.size; have := h1_10.size; have := h1_20.size; have := h1_25.size; have := h3_0.size; have := h4_0.size; have := h5_1.size; omega)))
      have f42 := ((od6_2.le d9).ch h9_5 (fun q hq => by cases hq; exact (fun he => by have := (od6_2.row he).1; have := b0_7.lt; have := h1_1.size; have := h1_5.size; have := h1_10.size; have := h1_20.size; have := h1_25.size; have := h3_0.size; have := h4_0.size; have := h5_1.size; omega)))
      refine E.retG3 rfl rfl (resA rfl b9_5 ag61 (by rfl)) rfl ?_
      rw [bestR_some hbad (fun hh => c1 (by rw [he6_2 hh]; rfl))]
      exact ⟨_, _, _, _, _, _, rfl, (f40.mono L24.size), (f41.mono L24.size), (f42.mono L24.size), L39⟩
     refine WC.condY rfl (congrArg not ((Bool.eq_false_iff.2 c0))) ?_
     refine WC.sr ?_
     refine W.a (.buildP [.slice none 0 0, .slice none 0 0] pl61 z61 rfl rfl) ?_
     refine W.run 1 rfl ?_
     have f43 := (b0_7.le (h1_1.trans (h1_5.trans (h1_10.trans (h1_20.trans h1_25)))))
     refine W.sA sz61 rfl rfl f43 ?_
     intro w2_2_1 b2_2_1 h2_2_1
     have b2_2_1 : Blk w2_2_1 g0_7 61 #[.slice none 0 0, .slice none 0 0] := b2_2_1
     have L44 := L21.tb h2_2_1 L6 hg0_7
     refine W.run 1 rfl (W.nx (WC.ret (E.thenR ?_)))
     refine E.retG3 rfl rfl (resA rfl b2_2_1 ag61 (by rfl)) rfl ?_
     rw [bestR_bad (by unfold badR; simp [q1_3, q1_8, q1_13, q1_18, q1_23, c0])]
     exact ⟨none, 0, none, 0, none, 0, by simp only [digs_zero]; rfl, OVec.nil _ _ _ _ _ _, by simp only [digs_zero]; exact OVec.nil _ _ _ _ _ _, by simp only [digs_zero]; exact OVec.nil _ _ _ _ _ _, L44⟩
    refine W.a (.dec (.move rfl) (congrArg not ((Bool.eq_false_iff.2 q1_23)))) ?_
    refine W.run 4 rfl (W.nx (WC.condT rfl (WC.sr ?_)))
    refine W.a (.buildP [.slice none 0 0, .slice none 0 0] pl61 z61 rfl rfl) ?_
    refine W.run 1 rfl ?_
    have f45 := (b0_7.le (h1_1.trans (h1_5.trans (h1_10.trans h1_20))))
    refine W.sA sz61 rfl rfl f45 ?_
    intro w2_2_2 b2_2_2 h2_2_2
    have b2_2_2 : Blk w2_2_2 g0_7 61 #[.slice none 0 0, .slice none 0 0] := b2_2_2
    have L46 := L19.tb h2_2_2 L6 hg0_7
    refine W.run 1 rfl (W.nx (WC.ret (E.thenR ?_)))
    refine E.retG3 rfl rfl (resA rfl b2_2_2 ag61 (by rfl)) rfl ?_
    rw [bestR_bad (by unfold badR; simp [q1_3, q1_8, q1_13, q1_18, q1_23])]
    exact ⟨none, 0, none, 0, none, 0, by simp only [digs_zero]; rfl, OVec.nil _ _ _ _ _ _, by simp only [digs_zero]; exact OVec.nil _ _ _ _ _ _, by simp only [digs_zero]; exact OVec.nil _ _ _ _ _ _, L46⟩
   refine W.a (.dec (.move rfl) (congrArg not ((Bool.eq_false_iff.2 q1_13)))) ?_
   refine W.run 14 rfl (W.nx (WC.condT rfl (WC.sr ?_)))
   refine W.a (.buildP [.slice none 0 0, .slice none 0 0] pl61 z61 rfl rfl) ?_
   refine W.run 1 rfl ?_
   have f47 := (b0_7.le (h1_1.trans (h1_5.trans h1_10)))
   refine W.sA sz61 rfl rfl f47 ?_
   intro w2_2_3 b2_2_3 h2_2_3
   have b2_2_3 : Blk w2_2_3 g0_7 61 #[.slice none 0 0, .slice none 0 0] := b2_2_3
   have L48 := L13.tb h2_2_3 L6 hg0_7
   refine W.run 1 rfl (W.nx (WC.ret (E.thenR ?_)))
   refine E.retG3 rfl rfl (resA rfl b2_2_3 ag61 (by rfl)) rfl ?_
   rw [bestR_bad (by unfold badR; simp [q1_3, q1_8, q1_13])]
   exact ⟨none, 0, none, 0, none, 0, by simp only [digs_zero]; rfl, OVec.nil _ _ _ _ _ _, by simp only [digs_zero]; exact OVec.nil _ _ _ _ _ _, by simp only [digs_zero]; exact OVec.nil _ _ _ _ _ _, L48⟩
  refine W.a (.dec (.move rfl) (congrArg not ((Bool.eq_false_iff.2 q1_8)))) ?_
  refine W.run 19 rfl (W.nx (WC.condT rfl (WC.sr ?_)))
  refine W.a (.buildP [.slice none 0 0, .slice none 0 0] pl61 z61 rfl rfl) ?_
  refine W.run 1 rfl ?_
  have f49 := (b0_7.le (h1_1.trans h1_5))
  refine W.sA sz61 rfl rfl f49 ?_
  intro w2_2_4 b2_2_4 h2_2_4
  have b2_2_4 : Blk w2_2_4 g0_7 61 #[.slice none 0 0, .slice none 0 0] := b2_2_4
  have L50 := L11.tb h2_2_4 L6 hg0_7
  refine W.run 1 rfl (W.nx (WC.ret (E.thenR ?_)))
  refine E.retG3 rfl rfl (resA rfl b2_2_4 ag61 (by rfl)) rfl ?_
  rw [bestR_bad (by unfold badR; simp [q1_3, q1_8])]
  exact ⟨none, 0, none, 0, none, 0, by simp only [digs_zero]; rfl, OVec.nil _ _ _ _ _ _, by simp only [digs_zero]; exact OVec.nil _ _ _ _ _ _, by simp only [digs_zero]; exact OVec.nil _ _ _ _ _ _, L50⟩
 refine W.a (.dec (.move rfl) (congrArg not ((Bool.eq_false_iff.2 q1_3)))) ?_
 refine W.run 24 rfl (W.nx (WC.condT rfl (WC.sr ?_)))
 refine W.a (.buildP [.slice none 0 0, .slice none 0 0] pl61 z61 rfl rfl) ?_
 refine W.run 1 rfl ?_
 have f51 := (b0_7.le h1_1)
 refine W.sA sz61 rfl rfl f51 ?_
 intro w2_2_5 b2_2_5 h2_2_5
 have b2_2_5 : Blk w2_2_5 g0_7 61 #[.slice none 0 0, .slice none 0 0] := b2_2_5
 have L52 := L9.tb h2_2_5 L6 hg0_7
 refine W.run 1 rfl (W.nx (WC.ret (E.thenR ?_)))
 refine E.retG3 rfl rfl (resA rfl b2_2_5 ag61 (by rfl)) rfl ?_
 rw [bestR_bad (by unfold badR; simp [q1_3])]
 exact ⟨none, 0, none, 0, none, 0, by simp only [digs_zero]; rfl, OVec.nil _ _ _ _ _ _, by simp only [digs_zero]; exact OVec.nil _ _ _ _ _ _, by simp only [digs_zero]; exact OVec.nil _ _ _ _ _ _, L52⟩
end Go.Proofs.YtocheaahlpiajaaGreatDoor

namespace Go.Proofs.YtocheaahlpiajaaGreatDoor
open Tryz
open Go Go.Sx Go.Num Go.Gsp Go.Nsp Go.Msp Go.Rtp
set_option maxRecDepth 20000
theorem edge39_ok (c f t ro m : Int) (w : World) : Calls prog 43 #[.int .i64 (c), .int .i64 (f), .int .i64 (t), .int .i64 (ro), .int .i64 (m)] w fun r w' => r = .returned (.agg (edgeV ⟨f, t, c, ro, ⟨0, 0, 5, 1, m⟩⟩).toArray) /\ Le w w' := by
 refine enter func43 rfl rfl ?_
 have L0 := Le.refl w
 refine WC.sr (W.ef rfl rfl rfl ?_)
 refine Ef.allocA z81 ?_
 intro g0_0 w0_0 hg0_0 b0_0 h0_0
 have L1 := L0.trans h0_0
 have b0_0 : Blk w0_0 g0_0 81 (edgeV noEdge).toArray := b0_0
 refine W.nx (WC.sr (W.run 5 rfl ?_))
 refine W.a (.buildP (polV (⟨0, 0, 5, 1, m⟩)) pl79 z79 rfl rfl) ?_
 refine W.a (.buildP (edgeV (⟨f, t, c, ro, ⟨0, 0, 5, 1, m⟩⟩)) pl81 z81 rfl rfl) ?_
 refine W.ef0 rfl rfl ?_
 refine Ef.storeAll sz81 (by rfl) rfl rfl b0_0 (by simp only [List.size_toArray, edgeV_row.len]) (edgeV_row.one (⟨f, t, c, ro, ⟨0, 0, 5, 1, m⟩⟩)) ?_
 intro w1_7 b1_7 h1_7
 have b1_7 : Blk w1_7 g0_0 81 (edgeV (⟨f, t, c, ro, ⟨0, 0, 5, 1, m⟩⟩)).toArray := b1_7
 have L2 := L1.tb h1_7 L0 hg0_0
 refine W.nx (WC.ret ?_)
 refine E.retG1 rfl (resA rfl b1_7 ag81 (by rfl)) ?_
 exact ⟨rfl, L2⟩

end Go.Proofs.YtocheaahlpiajaaGreatDoor

namespace Go.Proofs.YtocheaahlpiajaaGreatDoor
open Tryz
open Go Go.Sx Go.Num Go.Gsp Go.Nsp Go.Msp Go.Rtp
set_option maxRecDepth 20000
theorem share_set {o : List Int} {a n v : Int} {i nn : Nat} (hl : o.length = nn) (hi : i < nn) (h : ∀ j, j < i -> o.getD j 0 = shareI a n j) (hv : v = shareI a n i) : ∀ j, j < i + 1 -> (o.set i v).getD j 0 = shareI a n j := by
  intro j hj
  by_cases e : j = i
  · subst e; rw [hv]; simp [List.getD, hl, hi]
  · rw [<- h j (by omega)]
    simp [List.getD, List.getElem?_set_ne (Ne.symm e)]
theorem set_get {o : List Int} {i : Nat} {v : Int} (h : i < o.length) : (o.set i v).getD i 0 = v := by
  rw [List.getD_eq_getElem?_getD, List.getElem?_set_self h]
  rfl
theorem share_up {a n : Int} (h0 : 0 <= a / n) (h1 : 1 <= n) (hr : 0 < a % n) : a / n + 1 <= a := by
  have hd := Int.mul_ediv_add_emod a n
  have hq : 1 * (a / n) <= n * (a / n) := Int.mul_le_mul_of_nonneg_right h1 h0
  rw [Int.one_mul] at hq
  omega
theorem shares_all {o : List Int} {a n : Int} (h1 : 1 <= n) (h8 : n <= 8) (h3 : n <= a) (hl : o.length = n.toNat) (h : ∀ j, j < n.toNat -> o.getD j 0 = shareI a n j) : o = sharesL a n := by
  obtain ⟨k1, _, k3, _⟩ := sharesL_ok h1 h8 h3
  refine List.ext_getElem (by rw [hl, k1]) fun i q1 q2 => ?_
  have e1 := h i (by omega)
  have e2 := k3 i (by omega)
  rw [<- e2] at e1
  simpa [List.getD, q1, q2] using e1
theorem shares_ok (a n : Int) (w : World) (ha : a <= 9223372036854775807) : Calls prog 14 #[.int .i64 (a), .int .i64 (n)] w fun r w' => ∃ A c, r = .returned (.slice A (sharesL a n).length c) /\ OVec w' w.heap.size 3 iv 1 A (sharesL a n).length c (sharesL a n) /\ A.isNone = decide (sharesL a n = []) /\ Le w w' := by
 refine enter func14 rfl rfl ?_
 have L0 := Le.refl w
 refine WC.sr (W.run 1 rfl (W.nx (WC.seq (WC.sr (W.run 2 rfl ?_)))))
 by_cases q1_2 : n < 1
 ·refine W.dt q1_2 rfl rfl (W.run 8 rfl (W.nx (WC.condT rfl (WC.sr (W.run 1 rfl (W.nx (WC.ret (E.thenR ?_))))))))
  refine E.retG1 rfl rfl ?_
  have hz : sharesL a n = [] := (by unfold sharesL; rw [if_pos (by omega)])
  rw [hz]
  exact ⟨none, 0, rfl, OVec.nil _ _ _ _ _ _, rfl, L0⟩
 refine W.df q1_2 rfl rfl (W.run 3 rfl ?_)
 by_cases q1_6 : 8 < n
 ·refine W.dt q1_6 rfl rfl (W.run 4 rfl (W.nx (WC.condT rfl (WC.sr (W.run 1 rfl (W.nx (WC.ret (E.thenR ?_))))))))
  refine E.retG1 rfl rfl ?_
  have hz : sharesL a n = [] := (by unfold sharesL; rw [if_pos (by omega)])
  rw [hz]
  exact ⟨none, 0, rfl, OVec.nil _ _ _ _ _ _, rfl, L0⟩
 refine W.df q1_6 rfl rfl (W.run 4 rfl (W.nx ?_))
 by_cases c0 : a < n
 ·refine WC.condY rfl (decide_eq_true c0) ?_
  refine WC.sr (W.run 1 rfl (W.nx (WC.ret (E.thenR ?_))))
  refine E.retG1 rfl rfl ?_
  have hz : sharesL a n = [] := (by unfold sharesL; rw [if_pos (by omega)])
  rw [hz]
  exact ⟨none, 0, rfl, OVec.nil _ _ _ _ _ _, rfl, L0⟩
 refine WC.condN rfl (decide_eq_false c0) ?_
 have hqa := Int.ediv_le_self n (show 0 <= a by omega)
 have hq0 := Int.ediv_nonneg (show 0 <= a by omega) (show 0 <= n by omega)
 refine WC.sn (WC.sr ?_)
 refine W.a (.as (.move rfl) (int_eq (b := ((n.toNat : Nat) : Int)) (by omega))) ?_
 refine W.ef rfl rfl rfl ?_
 refine Ef.vmake 0 n.toNat underlying23 el3 iv_row rfl rfl (rfl) rfl (rfl) (by omega) (by unfold maxLen; omega) ?_
 intro g3_1 w3_1 hg3_1 o3_1 h3_1
 have L1 := L0.trans h3_1
 refine W.run 1 rfl (W.nx (WC.seq (WC.sr (W.run 2 rfl (W.nx (WC.block ?_))))))
 refine WC.loop (ι := Nat × (List Int)) (fun ⟨i, o⟩ => [(0, .int .i64 (a)), (1, .int .i64 (n)), (5, .slice (some ⟨g3_1, 0, none⟩) n.toNat n.toNat), (20, .int .i64 (n)), (21, .int .i64 (((i : Nat) : Int)))]) (fun ⟨i, o⟩ wl0 => (i <= n.toNat) /\ (o.length = n.toNat) /\ (∀ j, j < i -> o.getD j 0 = shareI a n j) /\ Le w wl0 /\ w3_1.heap.size <= wl0.heap.size /\ OVec wl0 w.heap.size 3 iv 1 (some ⟨g3_1, 0, none⟩) n.toNat n.toNat o) (fun ⟨i, o⟩ => n.toNat - i) (0, (List.replicate n.toNat 0)) ?_ ?_ ?_
 ·exact .cons rfl (.cons rfl (.cons rfl (.cons rfl (.cons rfl (.nil _)))))
 ·exact ⟨Nat.zero_le _, List.length_replicate, fun j hj => absurd hj (Nat.not_lt_zero _), L1, Nat.le_refl _, o3_1⟩
 rintro ⟨i, o⟩ wl0 ⟨hi, hol, hos, Ll0, zl0, f0_0⟩
 have lb0_1 : w.heap.size <= wl0.heap.size := by have := h3_1.size; omega
 refine WC.sr (W.run 1 rfl (W.nx (WC.seq ?_)))
 by_cases c1 : ((i : Nat) : Int) < n
 ·refine WC.condY rfl (decide_eq_true c1) ?_
  refine WC.sn (WC.seq (WC.block (WC.sr (W.run 2 rfl (W.nx (WC.sr (W.run 4 rfl ?_)))))))
  refine W.a (.quo rfl rfl (by omega)) ?_
  refine W.a (.idxS (i) underlying23 sz3 rfl rfl (o3_1.vec.isSome iv_row (by omega)) (rfl) (by omega)) ?_
  refine W.ef0 rfl rfl ?_
  refine Ef.vset (j := i) (o := 0) (a / n) sz3 rfl (by omega) rfl f0_0 iv_row (getS o 0 (by omega)) (by decide) rfl rfl ?_
  intro w7_6 o7_6 h7_6
  have L2 := Ll0.then_ h7_6 (fun q hq => Nat.le_trans L0.size (f0_0.row hq).1)
  refine W.nx (WC.sr (W.run 3 rfl ?_))
  refine W.a (.rem rfl rfl (by omega)) ?_
  refine W.run 1 rfl (W.nx ?_)
  by_cases c2 : ((i : Nat) : Int) < (a % n)
  ·refine WC.condY rfl (decide_eq_true c2) ?_
   refine WC.region (W.run 2 rfl ?_)
   have hls : (o.set i (a / n)).length = n.toNat := by rw [List.length_set]; exact hol
   refine W.a (.idxS (i) underlying23 sz3 rfl rfl (o3_1.vec.isSome iv_row (by omega)) (rfl) (by omega)) ?_
   refine W.r (.vone (v := .int .i64 (((o.set i (a / n)).getD i 0))) na3 rfl o7_6.vec iv_row (getS (o.set i (a / n)) 0 (by first | omega | (simp only [List.length_cons, List.length_nil]; omega))) rfl) ?_
   have hgs := set_get (v := a / n) (show i < o.length by omega)
   have hsu := share_up hq0 (show 1 <= n by omega) (by omega)
   refine W.a (.add rfl rfl (by omega)) ?_
   refine W.a (.idxS (i) underlying23 sz3 rfl rfl (o3_1.vec.isSome iv_row (by omega)) (rfl) (by omega)) ?_
   refine W.ef0 rfl rfl ?_
   refine Ef.vset (j := i) (o := 0) (((o.set i (a / n)).getD i 0) + 1) sz3 rfl (by omega) rfl o7_6 iv_row (getS (o.set i (a / n)) 0 (by omega)) (by decide) rfl rfl ?_
   intro w9_6 o9_6 h9_6
   have L3 := L2.then_ h9_6 (fun q hq => Nat.le_trans L0.size (o7_6.row hq).1)
   refine W.nil (E.blkN (E.thenN (WC.region ?_)))
   refine W.a (.add rfl rfl (by omega)) ?_
   refine W.run 1 rfl (W.nil ?_)
   refine E.again (i + 1, (o.set i (a / n + 1))) (.cons rfl (.cons rfl (.cons rfl (.cons rfl (.cons rfl (.nil _)))))) ?_ ?_
   ·exact ⟨by omega, by simp [hol], share_set hol (by omega) hos (by unfold shareI; rw [if_pos (by omega)]), L3, by have := zl0; have := h7_6.size; have := h9_6.size; omega, (o9_6.cast rfl (by rw [hgs, List.set_set]))⟩
   first | omega | (simp only []; omega)
  refine WC.condN rfl (decide_eq_false c2) ?_
  refine WC.skip (E.blkN (E.thenN (WC.region ?_)))
  refine W.a (.add rfl rfl (by omega)) ?_
  refine W.run 1 rfl (W.nil ?_)
  refine E.again (i + 1, (o.set i (a / n))) (.cons rfl (.cons rfl (.cons rfl (.cons rfl (.cons rfl (.nil _)))))) ?_ ?_
  ·exact ⟨by omega, by simp [hol], share_set hol (by omega) hos (by unfold shareI; rw [if_neg (by omega)]; omega), L2, by have := zl0; have := h7_6.size; omega, o7_6⟩
  first | omega | (simp only []; omega)
 refine WC.condN rfl (decide_eq_false c1) ?_
 refine WC.exit (E.thenX (E.thenX (E.blkH (E.thenN (WC.sr (W.run 2 rfl (W.nx (WC.ret ?_))))))))
 refine E.retG1 rfl rfl ?_
 have hin : i = n.toNat := (by omega)
 have hos' := shares_all (by omega) (by omega) (by omega) hol (fun j hj => hos j (by omega))
 have hsl := sharesL_ok (a := a) (n := n) (by omega) (by omega) (by omega)
 rw [decide_eq_false hsl.2.2.2, hsl.1]
 subst hos'
 exact ⟨_, _, rfl, (f0_0.mono L0.size), rfl, Ll0⟩
end Go.Proofs.YtocheaahlpiajaaGreatDoor

namespace Go.Sx
open Go Go.RowKit
section
variable {α β : Type} {w w' : World} {b1 b2 e1 e2 s1 s2 n1 n2 c d : Nat} {f : α -> List Value} {g : β -> List Value} {A B : Option Addr} {xs : List α} {ys : List β}
theorem OVec.apart_ty (h1 : OVec w b1 e1 f s1 A n1 c xs) (h2 : OVec w b2 e2 g s2 B n2 d ys) (hne : e1 ≠ e2) : Apart A c B d := fun q hA hB => by
  rcases h2.2.2 with ⟨_, rfl⟩ | ⟨g', cur, rfl, _, hh, _⟩
  · rw [rowOf_zero] at hB; cases hB
  · have := rowOf_lit hB
    subst this
    exact OVec.ne_blk h1 (show Blk w _ e2 cur from hh) hne hA
theorem OVec.ch_ty (h1 : OVec w b1 e1 f s1 A n1 c xs) (hc : Ch w w' (rowOf B d)) (h2 : OVec w b2 e2 g s2 B n2 d ys) (hne : e1 ≠ e2) : OVec w' b1 e1 f s1 A n1 c xs := h1.ch hc fun q hq ha => h1.apart_ty h2 hne q ha hq
theorem OVec.ch_blk {t k : Nat} {cs : Array Value} (h1 : OVec w b1 e1 f s1 A n1 c xs) (hc : Ch w w' (some k)) (h2 : Blk w k t cs) (hne : e1 ≠ t) : OVec w' b1 e1 f s1 A n1 c xs := h1.ch hc fun q hq ha => by
  cases hq
  exact h1.ne_blk h2 hne ha
end
end Go.Sx
namespace Go.Proofs.YtocheaahlpiajaaGreatDoor
open Go Go.Sx Go.Num Go.Gsp Go.Nsp Go.Msp Go.Rtp
set_option maxRecDepth 20000
structure PaR where
  amt : Int
  wA : Option Addr
  wN : Nat
  wC : Nat
  sA : Option Addr
  sN : Nat
  sC : Nat
  tA : Option Addr
  tN : Nat
  tC : Nat
def noPaR : PaR := ⟨0, none, 0, 0, none, 0, 0, none, 0, 0⟩
def prV (r : PaR) : List Value := [.int .i64 r.amt, .slice r.wA r.wN r.wC, .slice r.sA r.sN r.sC, .slice r.tA r.tN r.tC]
theorem prV_row : RowF prV 4 := ⟨fun _ => rfl, fun x v hv => by simp [prV] at hv; rcases hv with rfl | rfl | rfl | rfl <;> rfl, by decide⟩
structure PaAt (w : World) (bs : Nat) (r : PaR) (p : Prt) : Prop where
  amt : r.amt = p.amt
  way : OVec w bs 81 edgeV 9 r.wA r.wN r.wC p.way
  sent : OVec w bs 3 iv 1 r.sA r.sN r.sC p.sent
  till : OVec w bs 3 iv 1 r.tA r.tN r.tC p.till
def PasAt (w : World) (bs : Nat) (rs : List PaR) (ps : List Prt) : Prop := rs.length = ps.length /\ ∀ i, i < ps.length -> PaAt w bs (rs.getD i noPaR) (ps.getD i noPrt)
section
variable {w w' : World} {bs bs' : Nat} {r : PaR} {p : Prt} {rs : List PaR} {ps : List Prt} {F : Nat -> Prop}
theorem PaAt.le (h : PaAt w bs r p) (k : Le w w') : PaAt w' bs r p := ⟨h.1, h.2.le k, h.3.le k, h.4.le k⟩
theorem PaAt.mono (h : PaAt w bs r p) (k : bs' <= bs) : PaAt w bs' r p := ⟨h.1, h.2.mono k, h.3.mono k, h.4.mono k⟩
theorem PaAt.chP (h : PaAt w bs r p) (k : ChP w w' F) (hF : ∀ i, F i -> i < bs) : PaAt w' bs r p :=
  ⟨h.1, h.2.chP k fun g hg hf => by have := (h.2.row hg).1; have := hF g hf; omega, h.3.chP k fun g hg hf => by have := (h.3.row hg).1; have := hF g hf; omega, h.4.chP k fun g hg hf => by have := (h.4.row hg).1; have := hF g hf; omega⟩
theorem PaAt.chO {b e s n c : Nat} {α : Type} {f : α -> List Value} {A : Option Addr} {xs : List α} (h : PaAt w bs r p) (k : Ch w w' (rowOf A c)) (o : OVec w b e f s A n c xs) (h1 : 81 ≠ e) (h2 : 3 ≠ e) : PaAt w' bs r p :=
  ⟨h.1, h.2.ch_ty k o h1, h.3.ch_ty k o h2, h.4.ch_ty k o h2⟩
theorem PaAt.chB {g t : Nat} {cs : Array Value} (h : PaAt w bs r p) (k : Ch w w' (some g)) (o : Blk w g t cs) (h1 : 81 ≠ t) (h2 : 3 ≠ t) : PaAt w' bs r p :=
  ⟨h.1, h.2.ch_blk k o h1, h.3.ch_blk k o h2, h.4.ch_blk k o h2⟩
theorem PasAt.nil (w : World) (bs : Nat) : PasAt w bs [] [] := ⟨rfl, fun i hi => absurd hi (Nat.not_lt_zero _)⟩
theorem PasAt.le (h : PasAt w bs rs ps) (k : Le w w') : PasAt w' bs rs ps := ⟨h.1, fun i hi => (h.2 i hi).le k⟩
theorem PasAt.mono (h : PasAt w bs rs ps) (k : bs' <= bs) : PasAt w bs' rs ps := ⟨h.1, fun i hi => (h.2 i hi).mono k⟩
theorem PasAt.chP (h : PasAt w bs rs ps) (k : ChP w w' F) (hF : ∀ i, F i -> i < bs) : PasAt w' bs rs ps := ⟨h.1, fun i hi => (h.2 i hi).chP k hF⟩
theorem PasAt.chO {b e s n c : Nat} {α : Type} {f : α -> List Value} {A : Option Addr} {xs : List α} (h : PasAt w bs rs ps) (k : Ch w w' (rowOf A c)) (o : OVec w b e f s A n c xs) (h1 : 81 ≠ e) (h2 : 3 ≠ e) : PasAt w' bs rs ps := ⟨h.1, fun i hi => (h.2 i hi).chO k o h1 h2⟩
theorem PasAt.chB {g t : Nat} {cs : Array Value} (h : PasAt w bs rs ps) (k : Ch w w' (some g)) (o : Blk w g t cs) (h1 : 81 ≠ t) (h2 : 3 ≠ t) : PasAt w' bs rs ps := ⟨h.1, fun i hi => (h.2 i hi).chB k o h1 h2⟩
theorem getD_app1 {α : Type} {z x : α} {l : List α} {i : Nat} (h : i < l.length) : (l ++ [x]).getD i z = l.getD i z := by
  rw [List.getD_eq_getElem?_getD, List.getD_eq_getElem?_getD, List.getElem?_append_left h]
theorem getD_app2 {α : Type} {z x : α} {l : List α} : (l ++ [x]).getD l.length z = x := by
  rw [List.getD_eq_getElem?_getD, List.getElem?_append_right (Nat.le_refl _), Nat.sub_self]
  rfl
theorem PasAt.push (h : PasAt w bs rs ps) (k : PaAt w bs r p) : PasAt w bs (rs ++ [r]) (ps ++ [p]) := by
  refine ⟨by simp [h.1], fun i hi => ?_⟩
  simp only [List.length_append, List.length_cons, List.length_nil] at hi
  by_cases e : i < ps.length
  · rw [getD_app1 e, getD_app1 (by rw [h.1]; exact e)]
    exact h.2 i e
  · have : i = ps.length := by omega
    subst this
    rw [getD_app2, <- h.1, getD_app2]
    exact k
theorem PasAt.cast {ps' : List Prt} (h : PasAt w bs rs ps) (e : ps = ps') : PasAt w bs rs ps' := e ▸ h
end
end Go.Proofs.YtocheaahlpiajaaGreatDoor

namespace Go.Proofs.YtocheaahlpiajaaGreatDoor
open Tryz
open Go Go.Sx Go.Num Go.Gsp Go.Nsp Go.Msp Go.Rtp
set_option maxRecDepth 20000
set_option maxHeartbeats 4000000
structure SendE (w : World) (F : Nat -> Prop) (gp : Nat) (Ag : Option Addr) (ng cg : Nat) (g : List Gsp.Edge) (fr to x : Int) (b1 b2 b3 b4 b5 b6 : Nat) : Prop where
  h1 : Blk w b1 32 #[.slice Ag ng cg]
  h2 : Blk w b2 55 #[.pointer (some ⟨gp, 0, none⟩)]
  h3 : Blk w b3 3 #[.int .i64 fr]
  h4 : Blk w b4 3 #[.int .i64 to]
  h5 : Blk w b5 3 #[.int .i64 x]
  hg : Vec w edgeV 9 Ag ng g
  n1 : ¬ (F b1 \/ b1 = b6)
  n2 : ¬ (F b2 \/ b2 = b6)
  n3 : ¬ (F b3 \/ b3 = b6)
  n4 : ¬ (F b4 \/ b4 = b6)
  n5 : ¬ (F b5 \/ b5 = b6)
  n6 : ¬ F b6
  ngg : ∀ q, blkOf Ag = some q -> 0 < ng -> q < w.heap.size -> ¬ (F q \/ q = b6)
  hng : ng <= 1000000
def OddAt (w : World) (bs b6 : Nat) (p : Fr × (Nat -> Prop)) : Prop := ∃ An cn Ad cd, Blk w b6 61 #[.slice An (digs p.1.n).length cn, .slice Ad (digs p.1.d).length cd] /\ OVec w bs 273 dv 1 An (digs p.1.n).length cn (digs p.1.n) /\ OVec w bs 273 dv 1 Ad (digs p.1.d).length cd (digs p.1.d) /\ (∀ q, rowOf An cn = some q -> ¬ p.2 q) /\ (∀ q, rowOf Ad cd = some q -> ¬ p.2 q) /\ rowOf An cn ≠ some b6 /\ rowOf Ad cd ≠ some b6
section
variable {w w' : World} {bs b6 : Nat} {p : Fr × (Nat -> Prop)}
theorem OddAt.lt (h : OddAt w bs b6 p) : b6 < w.heap.size := by
  obtain ⟨_, _, _, _, h1, _⟩ := h
  exact h1.lt
theorem OddAt.le (h : OddAt w bs b6 p) (k : Le w w') : OddAt w' bs b6 p := by
  obtain ⟨An, cn, Ad, cd, h1, h2, h3, h4⟩ := h
  exact ⟨An, cn, Ad, cd, h1.le k, h2.le k, h3.le k, h4⟩
theorem OddAt.chB {g t : Nat} {cs : Array Value} (h : OddAt w bs b6 p) (k : Ch w w' (some g)) (o : Blk w g t cs) (h1 : 61 ≠ t) (h2 : 273 ≠ t) : OddAt w' bs b6 p := by
  obtain ⟨An, cn, Ad, cd, k1, k2, k3, k4⟩ := h
  refine ⟨An, cn, Ad, cd, k1.ch k (fun he => ?_), k2.ch_blk k o h2, k3.ch_blk k o h2, k4⟩
  have he' := Option.some.inj he
  subst he'
  have e1 : w.heap[g]? = _ := k1
  have e2 : w.heap[g]? = _ := o
  rw [e1] at e2
  injection e2 with e3
  injection e3 with _ e4 _
  exact h1 e4
theorem OddAt.chO {b e s n c : Nat} {α : Type} {f : α -> List Value} {A : Option Addr} {xs : List α} (h : OddAt w bs b6 p) (k : Ch w w' (rowOf A c)) (o : OVec w b e f s A n c xs) (h1 : 61 ≠ e) (h2 : 273 ≠ e) : OddAt w' bs b6 p := by
  obtain ⟨An, cn, Ad, cd, k1, k2, k3, k4⟩ := h
  exact ⟨An, cn, Ad, cd, k1.ch k (fun he => o.ne_blk k1 (Ne.symm h1) he), k2.ch_ty k o h2, k3.ch_ty k o h2, k4⟩
end
def stepT (g : List Gsp.Edge) (fr to x : Int) (s : TrS) (share : Int) : TrS := ⟨s.out ++ [⟨share, (bestR g s.m fr to share x).1, (costG (bestR g s.m fr to share x).1 share x).1, (costG (bestR g s.m fr to share x).1 share x).2.1⟩],
      mulF s.odds (bestR g s.m fr to share x).2.1, sentK s.m (bestR g s.m fr to share x).1 (costG (bestR g s.m fr to share x).1 share x).1 (bestR g s.m fr to share x).1.length⟩
theorem tryS_yes {g : List Gsp.Edge} {fr to x share : Int} {s : TrS} (h : (bestR g s.m fr to share x).2.2 = 0) : tryS g fr to x (some s) share = some (stepT g fr to x s share) := by
  unfold tryS stepT; simp only; rw [if_pos h]
theorem tryS_no {g : List Gsp.Edge} {fr to x share : Int} {s : TrS} (h : (bestR g s.m fr to share x).2.2 ≠ 0) : tryS g fr to x (some s) share = none := by
  unfold tryS; simp only; rw [if_neg h]
theorem send_step {base bs gp ng cg cn cd b1 b2 b3 b4 b5 b6 : Nat} {F : Nat -> Prop} {m : MF} {o : Fr} {out : List Prt} {Ag An Ad : Option Addr} {g : List Gsp.Edge} {fr to x : Int} (share : Int) (w : World) (hE : SendE w F gp Ag ng cg g fr to x b1 b2 b3 b4 b5 b6) (hP : MPool w base gp F m) (hB0 : Blk w b6 61 #[.slice An (digs o.n).length cn, .slice Ad (digs o.d).length cd]) (hBn : OVec w bs 273 dv 1 An (digs o.n).length cn (digs o.n)) (hBd : OVec w bs 273 dv 1 Ad (digs o.d).length cd (digs o.d)) (hBnF : ∀ q, rowOf An cn = some q -> ¬ F q) (hBdF : ∀ q, rowOf Ad cd = some q -> ¬ F q) (hBnb : rowOf An cn ≠ some b6) (hBdb : rowOf Ad cd ≠ some b6) (hol : LenF o 5000) (hok : okF o) (hbs : bs <= w.heap.size) : Calls prog 86 #[.int .i64 (share), .pointer (some ⟨b1, 0, none⟩), .pointer (some ⟨b2, 0, none⟩), .pointer (some ⟨b3, 0, none⟩), .pointer (some ⟨b4, 0, none⟩), .pointer (some ⟨b5, 0, none⟩), .pointer (some ⟨b6, 0, none⟩)] w fun r w' => ChP w w' (fun k => F k \/ k = b6) /\ (((bestR g m fr to share x).2.2 ≠ 0 /\ r = .returned (.tuple #[.agg (prV noPaR).toArray, .bool false])) \/ ((bestR g m fr to share x).2.2 = 0 /\ ∃ r1, r = .returned (.tuple #[.agg (prV r1).toArray, .bool true]) /\ PaAt w' w.heap.size r1 ⟨share, (bestR g m fr to share x).1, (costG (bestR g m fr to share x).1 share x).1, (costG (bestR g m fr to share x).1 share x).2.1⟩ /\ MPool w' base gp F (stepT g fr to x ⟨out, o, m⟩ share).m /\ OddAt w' bs b6 ((stepT g fr to x ⟨out, o, m⟩ share).odds, F))) := by
 have hgm := hP.good
 have hgl := hE.hg.1
 have hng := hE.hng
 unfold LenF at hol
 refine enter func86 rfl rfl ?_
 have L0 := ChP.refl w ((fun k => F k \/ k = b6))
 refine WC.sr (W.ef rfl rfl rfl ?_)
 refine Ef.allocA z34 ?_
 intro g0_0 w0_0 hg0_0 b0_0 h0_0
 have L1 := L0.le h0_0
 have b0_0 : Blk w0_0 g0_0 34 #[.int .i64 (0), .slice none 0 0, .slice none 0 0, .slice none 0 0] := b0_0
 refine W.run 1 rfl (W.nx (WC.sr ?_))
 refine W.r (.loadB (v := .slice Ag ng cg) na32 rfl (hE.h1.chP L1 hE.n1) rfl) ?_
 refine W.r (.loadB (v := .pointer (some ⟨gp, 0, none⟩)) na55 rfl (hE.h2.chP L1 hE.n2) rfl) ?_
 refine W.r (.loadB (v := .int .i64 (fr)) na3 rfl (hE.h3.chP L1 hE.n3) rfl) ?_
 refine W.r (.loadB (v := .int .i64 (to)) na3 rfl (hE.h4.chP L1 hE.n4) rfl) ?_
 refine W.run 1 rfl ?_
 refine W.r (.loadB (v := .int .i64 (x)) na3 rfl (hE.h5.chP L1 hE.n5) rfl) ?_
 have f2 := (hP.le h0_0)
 obtain ⟨b1, heb1⟩ : ∃ z, z = bestR g m fr to share x := ⟨_, rfl⟩
 have hlb1 := bestR_len (g := g) (fr := fr) (to := to) (a := share) (x := x) hgm
 rw [<- heb1] at hlb1
 refine W.cl go46 rfl rfl ((by have k := rbest_ok (c := cg) fr to share x w0_0 f2 (hE.hg.chP L1 hE.ngg) (by omega); rw [<- heb1] at k; exact k)) ?_
 rintro _ w1_6 ⟨Aw1_6, cw1_6, An1_6, cn1_6, Ad1_6, cd1_6, rfl, ow1_6, on1_6, od1_6, h1_6⟩
 have L3 := L1.le h1_6
 refine W.run 2 rfl ?_
 refine W.a (.extract (v := .agg #[.slice An1_6 ((digs b1.2.1.n).length) cn1_6, .slice Ad1_6 ((digs b1.2.1.d).length) cd1_6]) rfl rfl) ?_
 refine W.run 1 rfl (W.ef rfl rfl rfl ?_)
 refine Ef.allocA z61 ?_
 intro g1_11 w1_11 hg1_11 b1_11 h1_11
 have L4 := L3.le h1_11
 have b1_11 : Blk w1_11 g1_11 61 #[.slice none 0 0, .slice none 0 0] := b1_11
 refine W.run 1 rfl ?_
 refine W.sA sz61 rfl rfl b1_11 ?_
 intro w1_13 b1_13 h1_13
 have b1_13 : Blk w1_13 g1_11 61 #[.slice An1_6 ((digs b1.2.1.n).length) cn1_6, .slice Ad1_6 ((digs b1.2.1.d).length) cd1_6] := b1_13
 have L5 : ChP w w1_13 ((fun k => F k \/ k = b6)) := L4.ch h1_13 (fun i hi hlt => by cases hi; exact absurd hlt (by have := L3.size; have := hg1_11; omega))
 refine W.run 1 rfl (W.nx (WC.seq (WC.sr (W.run 2 rfl (W.nx ?_)))))
 by_cases c0 : b1.2.2 ≠ 0
 ·refine WC.condY rfl (decide_eq_true c0) ?_
  refine WC.sr ?_
  refine W.a (.buildP [.int .i64 (0), .slice none 0 0, .slice none 0 0, .slice none 0 0] pl34 z34 rfl rfl) ?_
  have f6 := ((b0_0.le (h1_6.trans h1_11)).ch h1_13 (fun h => (show g1_11 ≠ g0_0 from by have := b0_0.lt; have := h1_6.size; omega) (Option.some.inj h)))
  refine W.sA sz34 rfl rfl f6 ?_
  intro w3_1 b3_1 h3_1
  have b3_1 : Blk w3_1 g0_0 34 #[.int .i64 (0), .slice none 0 0, .slice none 0 0, .slice none 0 0] := b3_1
  have L7 : ChP w w3_1 ((fun k => F k \/ k = b6)) := L5.ch h3_1 (fun i hi hlt => by cases hi; exact absurd hlt (by have := L0.size; have := hg0_0; omega))
  refine W.run 1 rfl (W.nx (WC.ret (E.thenR ?_)))
  refine E.retG2 rfl (resA rfl b3_1 ag34 (by rfl)) rfl ?_
  exact ⟨L7, .inl ⟨by rw [<- heb1]; assumption, rfl⟩⟩
 refine WC.condN rfl (decide_eq_false c0) ?_
 have hb10 : b1.2.2 = 0 := by omega
 have hb0 : (bestR g m fr to share x).2.2 = 0 := by rw [<- heb1]; exact hb10
 obtain ⟨_, hcd, _, _⟩ := bestR_ok hgm hb0
 rw [<- heb1] at hcd
 have hcl := costG_lens hcd.cost
 refine WC.sn (WC.sr (W.run 2 rfl ?_))
 refine W.r (.loadB (v := .int .i64 (x)) na3 rfl (hE.h5.chP L5 hE.n5) rfl) ?_
 have f8 := ((ow1_6.le h1_11).ch h1_13 (fun q hq => by cases hq; exact (fun he => by have := (ow1_6.row he).2; omega)))
 refine W.cl go38 rfl rfl (cost_ok share x w1_13 f8.vec (by omega)) ?_
 rintro _ w4_3 ⟨Aa4_3, ca4_3, Ab4_3, cb4_3, rfl, oa4_3, ob4_3, h4_3⟩
 have L9 := L5.le h4_3
 refine W.run 7 rfl (W.nx (WC.seq (WC.sr (W.run 1 rfl ?_))))
 refine W.r (.len underlying32 rfl) ?_
 refine W.run 1 rfl (W.nx (WC.block ?_))
 have f10 := (((f2.le (h1_6.trans h1_11)).ch h1_13 (fun q hqq hF => by cases hqq; have := f2.lt hF; have := h1_6.size; have := hg1_11; omega)).le h4_3)
 have f11 := (((hB0.le (h0_0.trans (h1_6.trans h1_11))).ch h1_13 (fun h => (show g1_11 ≠ b6 from by have := hB0.lt; have := h0_0.size; have := h1_6.size; omega) (Option.some.inj h))).le h4_3)
 have f12 := (((hBn.le (h0_0.trans (h1_6.trans h1_11))).ch h1_13 (fun q hq => by cases hq; exact (fun he => by have := (hBn.row he).2; have := h0_0.size; have := h1_6.size; omega))).le h4_3)
 have f13 := (((hBd.le (h0_0.trans (h1_6.trans h1_11))).ch h1_13 (fun q hq => by cases hq; exact (fun he => by have := (hBd.row he).2; have := h0_0.size; have := h1_6.size; omega))).le h4_3)
 have f14 := (((b0_0.le (h1_6.trans h1_11)).ch h1_13 (fun h => (show g1_11 ≠ g0_0 from by have := b0_0.lt; have := h1_6.size; omega) (Option.some.inj h))).le h4_3)
 have f15 := (f8.le h4_3)
 have f16 := (b1_13.le h4_3)
 have f17 := (((on1_6.le h1_11).ch h1_13 (fun q hq => by cases hq; exact (fun he => by have := (on1_6.row he).2; omega))).le h4_3)
 have f18 := (((od1_6.le h1_11).ch h1_13 (fun q hq => by cases hq; exact (fun he => by have := (od1_6.row he).2; omega))).le h4_3)
 refine WC.loop (ι := Nat) (fun k => [(0, .int .i64 (share)), (2, .pointer (some ⟨b2, 0, none⟩)), (6, .pointer (some ⟨b6, 0, none⟩)), (8, .pointer (some ⟨g0_0, 0, none⟩)), (10, .slice Aw1_6 b1.1.length cw1_6), (11, .pointer (some ⟨g1_11, 0, none⟩)), (13, .slice Aa4_3 ((costG b1.1 share x).1.length) ca4_3), (14, .slice Ab4_3 ((costG b1.1 share x).2.1.length) cb4_3), (40, .slice Aw1_6 b1.1.length cw1_6), (41, .int .i64 (((b1.1.length : Nat) : Int))), (42, .int .i64 (((k : Nat) : Int)))]) (fun k wl0 => (k <= b1.1.length) /\ ChP w wl0 ((fun k => F k \/ k = b6)) /\ w4_3.heap.size <= wl0.heap.size /\ Blk wl0 b6 61 #[.slice An ((digs o.n).length) cn, .slice Ad ((digs o.d).length) cd] /\ OVec wl0 bs 273 dv 1 An ((digs o.n).length) cn (digs o.n) /\ OVec wl0 bs 273 dv 1 Ad ((digs o.d).length) cd (digs o.d) /\ Blk wl0 g0_0 34 #[.int .i64 (0), .slice none 0 0, .slice none 0 0, .slice none 0 0] /\ OVec wl0 w0_0.heap.size 81 edgeV 9 Aw1_6 b1.1.length cw1_6 b1.1 /\ Blk wl0 g1_11 61 #[.slice An1_6 ((digs b1.2.1.n).length) cn1_6, .slice Ad1_6 ((digs b1.2.1.d).length) cd1_6] /\ OVec wl0 w0_0.heap.size 273 dv 1 An1_6 ((digs b1.2.1.n).length) cn1_6 (digs b1.2.1.n) /\ OVec wl0 w0_0.heap.size 273 dv 1 Ad1_6 ((digs b1.2.1.d).length) cd1_6 (digs b1.2.1.d) /\ OVec wl0 w1_13.heap.size 3 iv 1 Aa4_3 ((costG b1.1 share x).1.length) ca4_3 ((costG b1.1 share x).1) /\ OVec wl0 w1_13.heap.size 3 iv 1 Ab4_3 ((costG b1.1 share x).2.1.length) cb4_3 ((costG b1.1 share x).2.1) /\ MPool wl0 base gp F (sentK m b1.1 (costG b1.1 share x).1 k)) (fun k => b1.1.length - k) 0 ?_ ?_ ?_
 ·exact .cons rfl (.cons rfl (.cons rfl (.cons rfl (.cons rfl (.cons rfl (.cons rfl (.cons rfl (.cons rfl (.cons rfl (.cons rfl (.nil _)))))))))))
 ·exact ⟨Nat.zero_le _, L9, Nat.le_refl _, f11, f12, f13, f14, f15, f16, f17, f18, oa4_3, ob4_3, f10⟩
 rintro k wl0 ⟨hk, Ll0, zl0, f0_0, f0_1, f0_2, f0_3, f0_4, f0_5, f0_6, f0_7, f0_8, f0_9, f0_10⟩
 have lb0_12 : w0_0.heap.size <= wl0.heap.size := by have := h1_6.size; have := h1_11.size; have := h1_13.size; have := h4_3.size; omega
 have lb0_13 : w0_0.heap.size <= wl0.heap.size := by have := h1_6.size; have := h1_11.size; have := h1_13.size; have := h4_3.size; omega
 have lb0_14 : w0_0.heap.size <= wl0.heap.size := by have := h1_6.size; have := h1_11.size; have := h1_13.size; have := h4_3.size; omega
 have lb0_16 : w1_13.heap.size <= wl0.heap.size := by have := h4_3.size; omega
 have lb0_17 : w1_13.heap.size <= wl0.heap.size := by have := h4_3.size; omega
 refine WC.sr (W.run 1 rfl (W.nx (WC.seq ?_)))
 by_cases c1 : ((k : Nat) : Int) < ((b1.1.length : Nat) : Int)
 ·refine WC.condY rfl (decide_eq_true c1) ?_
  refine WC.sn (WC.seq (WC.block (WC.sr (W.run 1 rfl ?_))))
  refine W.a (.idxS (k) underlying32 sz81 rfl rfl (ow1_6.vec.isSome edgeV_row (by omega)) (rfl) (by omega)) ?_
  refine W.r (.vload ag81 rfl f0_4.vec edgeV_row (getS b1.1 noEdge (by first | omega | (simp only [List.length_cons, List.length_nil]; omega)))) ?_
  refine W.ef rfl rfl rfl ?_
  refine Ef.allocA z81 ?_
  intro g7_3 w7_3 hg7_3 b7_3 h7_3
  have L19 := Ll0.le h7_3
  have b7_3 : Blk w7_3 g7_3 81 (edgeV noEdge).toArray := b7_3
  refine W.run 1 rfl ?_
  refine W.ef0 rfl rfl ?_
  refine Ef.storeAll sz81 (by rfl) rfl rfl b7_3 (by simp only [List.size_toArray, edgeV_row.len]) (edgeV_row.one (b1.1.getD k noEdge)) ?_
  intro w7_5 b7_5 h7_5
  have b7_5 : Blk w7_5 g7_3 81 (edgeV (b1.1.getD k noEdge)).toArray := b7_5
  have L20 : ChP w w7_5 ((fun k => F k \/ k = b6)) := L19.ch h7_5 (fun i hi hlt => by cases hi; exact absurd hlt (by have := Ll0.size; have := hg7_3; omega))
  refine W.nx (WC.seq ?_)
  refine WC.draw [0, 1, 2, 3, 4, 5, 6] mixed (by kernel_rfl) ?_
  intro w8 d8
  have L21 := L20.le d8
  refine G.r rfl (.loadB (v := .pointer (some ⟨gp, 0, none⟩)) na55 rfl (hE.h2.chP L21 hE.n2) rfl) ?_
  have f22 := (b7_5.le d8)
  refine G.r rfl (.loadAll ag81 (by rfl) rfl f22) ?_
  refine G.run 2 rfl ?_
  refine G.a rfl (.idxS (k) underlying23 sz3 rfl rfl (oa4_3.vec.isSome iv_row (by omega)) (rfl) (by omega)) ?_
  have f23 := (((f0_8.le h7_3).ch h7_5 (fun q hq => by cases hq; exact (fun he => by have := (f0_8.row he).2; omega))).le d8)
  refine G.r rfl (.vone (v := .int .i64 ((((costG b1.1 share x).1).getD k 0))) na3 rfl f23.vec iv_row (getS ((costG b1.1 share x).1) 0 (by first | omega | (simp only [List.length_cons, List.length_nil]; omega))) rfl) ?_
  have f24 := (((f0_10.le h7_3).ch h7_5 (fun q hqq hF => by cases hqq; have := f0_10.lt hF;  have := hg7_3; omega)).le d8)
  refine G.ef rfl rfl rfl rfl rfl ?_
  refine Ef.call go81 rfl rfl (pass_mind (b1.1.getD k noEdge) (((costG b1.1 share x).1).getD k 0) f24) ?_
  rintro _ w8_6 ⟨rfl, p8_6, g8_6, h8_6⟩
  refine ⟨_, rfl, ?_⟩
  refine noT (by kernel_rfl) ?_
  have L25 := L21.sub h8_6 (fun i hi hlt => (.inl hi))
  have f26 := (((f0_0.le h7_3).ch h7_5 (fun h => (show g7_3 ≠ b6 from by have := f0_0.lt; omega) (Option.some.inj h))).le d8)
  have f27 := (((f0_1.le h7_3).ch h7_5 (fun q hq => by cases hq; exact (fun he => by have := (f0_1.row he).2; omega))).le d8)
  have f28 := (((f0_2.le h7_3).ch h7_5 (fun q hq => by cases hq; exact (fun he => by have := (f0_2.row he).2; omega))).le d8)
  have f29 := (((f0_3.le h7_3).ch h7_5 (fun h => (show g7_3 ≠ g0_0 from by have := f0_3.lt; omega) (Option.some.inj h))).le d8)
  have f30 := (((f0_4.le h7_3).ch h7_5 (fun q hq => by cases hq; exact (fun he => by have := (f0_4.row he).2; omega))).le d8)
  have f31 := (((f0_6.le h7_3).ch h7_5 (fun q hq => by cases hq; exact (fun he => by have := (f0_6.row he).2; omega))).le d8)
  have f32 := (((f0_7.le h7_3).ch h7_5 (fun q hq => by cases hq; exact (fun he => by have := (f0_7.row he).2; omega))).le d8)
  have f33 := (((f0_5.le h7_3).ch h7_5 (fun h => (show g7_3 ≠ g1_11 from by have := f0_5.lt; omega) (Option.some.inj h))).le d8)
  have f34 := (((f0_9.le h7_3).ch h7_5 (fun q hq => by cases hq; exact (fun he => by have := (f0_9.row he).2; omega))).le d8)
  have zq35n := (show ¬ F b6 from hE.n6)
  have zq35 := f26.chP h8_6 zq35n
  have zq35g : ¬ F b6 := fun hF => (g8_6 _ hF).elim zq35n (fun hz => by have := f26.lt; omega)
  have zq36n := (show ∀ g, rowOf An cn = some g -> ¬ F g from hBnF)
  have zq36 := f27.chP h8_6 zq36n
  have zq36g : ∀ g, rowOf An cn = some g -> ¬ F g := fun g hg hF => (g8_6 _ hF).elim (zq36n g hg) (fun hz => by have := (f27.row hg).2; omega)
  have zq37n := (show ∀ g, rowOf Ad cd = some g -> ¬ F g from hBdF)
  have zq37 := f28.chP h8_6 zq37n
  have zq37g : ∀ g, rowOf Ad cd = some g -> ¬ F g := fun g hg hF => (g8_6 _ hF).elim (zq37n g hg) (fun hz => by have := (f28.row hg).2; omega)
  have zq38n := (show ¬ F g0_0 from (fun hF => by have := hP.lt hF;  have := hg0_0; omega))
  have zq38 := f29.chP h8_6 zq38n
  have zq38g : ¬ F g0_0 := fun hF => (g8_6 _ hF).elim zq38n (fun hz => by have := f29.lt; omega)
  have zq39n := (show ∀ g, rowOf Aw1_6 cw1_6 = some g -> ¬ F g from (fun g hg hF => by have := f2.lt hF;  have := (f30.row hg).1; omega))
  have zq39 := f30.chP h8_6 zq39n
  have zq39g : ∀ g, rowOf Aw1_6 cw1_6 = some g -> ¬ F g := fun g hg hF => (g8_6 _ hF).elim (zq39n g hg) (fun hz => by have := (f30.row hg).2; omega)
  have zq40n := (show ∀ g, rowOf An1_6 cn1_6 = some g -> ¬ F g from (fun g hg hF => by have := f2.lt hF;  have := (f31.row hg).1; omega))
  have zq40 := f31.chP h8_6 zq40n
  have zq40g : ∀ g, rowOf An1_6 cn1_6 = some g -> ¬ F g := fun g hg hF => (g8_6 _ hF).elim (zq40n g hg) (fun hz => by have := (f31.row hg).2; omega)
  have zq41n := (show ∀ g, rowOf Ad1_6 cd1_6 = some g -> ¬ F g from (fun g hg hF => by have := f2.lt hF;  have := (f32.row hg).1; omega))
  have zq41 := f32.chP h8_6 zq41n
  have zq41g : ∀ g, rowOf Ad1_6 cd1_6 = some g -> ¬ F g := fun g hg hF => (g8_6 _ hF).elim (zq41n g hg) (fun hz => by have := (f32.row hg).2; omega)
  have zq42n := (show ¬ F g1_11 from (fun hF => by have := f2.lt hF; have := h1_6.size; have := hg1_11; omega))
  have zq42 := f33.chP h8_6 zq42n
  have zq42g : ¬ F g1_11 := fun hF => (g8_6 _ hF).elim zq42n (fun hz => by have := f33.lt; omega)
  have zq43n := (show ∀ g, rowOf Aa4_3 ca4_3 = some g -> ¬ F g from (fun g hg hF => by have := f2.lt hF; have := h1_6.size; have := h1_11.size; have := h1_13.size; have := (f23.row hg).1; omega))
  have zq43 := f23.chP h8_6 zq43n
  have zq43g : ∀ g, rowOf Aa4_3 ca4_3 = some g -> ¬ F g := fun g hg hF => (g8_6 _ hF).elim (zq43n g hg) (fun hz => by have := (f23.row hg).2; omega)
  have zq44n := (show ∀ g, rowOf Ab4_3 cb4_3 = some g -> ¬ F g from (fun g hg hF => by have := f2.lt hF; have := h1_6.size; have := h1_11.size; have := h1_13.size; have := (f34.row hg).1; omega))
  have zq44 := f34.chP h8_6 zq44n
  have zq44g : ∀ g, rowOf Ab4_3 cb4_3 = some g -> ¬ F g := fun g hg hF => (g8_6 _ hF).elim (zq44n g hg) (fun hz => by have := (f34.row hg).2; omega)
  have zq45n := (show ¬ F g7_3 from (fun hF => by have := f0_10.lt hF;  have := hg7_3; omega))
  have zq45 := f22.chP h8_6 zq45n
  refine G.nil (E.thenN ?_)
  refine WC.draw [0, 1, 2, 3, 4, 5, 6] mixed (by kernel_rfl) ?_
  intro w9 d9
  have L46 := L25.le d9
  refine G.r rfl (.loadB (v := .pointer (some ⟨gp, 0, none⟩)) na55 rfl (hE.h2.chP L46 hE.n2) rfl) ?_
  have f47 := (zq45.le d9)
  refine G.r rfl (.loadAll ag81 (by rfl) rfl f47) ?_
  refine G.run 2 rfl ?_
  refine G.a rfl (.idxS (k) underlying23 sz3 rfl rfl (oa4_3.vec.isSome iv_row (by omega)) (rfl) (by omega)) ?_
  have f48 := (zq43.le d9)
  refine G.r rfl (.vone (v := .int .i64 ((((costG b1.1 share x).1).getD k 0))) na3 rfl f48.vec iv_row (getS ((costG b1.1 share x).1) 0 (by first | omega | (simp only [List.length_cons, List.length_nil]; omega))) rfl) ?_
  have f49 := (p8_6.le d9)
  refine G.ef rfl rfl rfl rfl rfl ?_
  refine Ef.call go87 rfl rfl (mov_mind (b1.1.getD k noEdge) (((costG b1.1 share x).1).getD k 0) f49) ?_
  rintro _ w9_6 ⟨rfl, p9_6, g9_6, h9_6⟩
  refine ⟨_, rfl, ?_⟩
  refine noT (by kernel_rfl) ?_
  have L50 := L46.sub h9_6 (fun i hi hlt => (.inl hi))
  have f51 := (zq35.le d9)
  have f52 := (zq36.le d9)
  have f53 := (zq37.le d9)
  have f54 := (zq38.le d9)
  have f55 := (zq39.le d9)
  have f56 := (zq40.le d9)
  have f57 := (zq41.le d9)
  have f58 := (zq42.le d9)
  have f59 := (zq44.le d9)
  have zq60n := (show ¬ F b6 from zq35g)
  have zq60 := f51.chP h9_6 zq60n
  have zq61n := (show ∀ g, rowOf An cn = some g -> ¬ F g from zq36g)
  have zq61 := f52.chP h9_6 zq61n
  have zq62n := (show ∀ g, rowOf Ad cd = some g -> ¬ F g from zq37g)
  have zq62 := f53.chP h9_6 zq62n
  have zq63n := (show ¬ F g0_0 from zq38g)
  have zq63 := f54.chP h9_6 zq63n
  have zq64n := (show ∀ g, rowOf Aw1_6 cw1_6 = some g -> ¬ F g from zq39g)
  have zq64 := f55.chP h9_6 zq64n
  have zq65n := (show ∀ g, rowOf An1_6 cn1_6 = some g -> ¬ F g from zq40g)
  have zq65 := f56.chP h9_6 zq65n
  have zq66n := (show ∀ g, rowOf Ad1_6 cd1_6 = some g -> ¬ F g from zq41g)
  have zq66 := f57.chP h9_6 zq66n
  have zq67n := (show ¬ F g1_11 from zq42g)
  have zq67 := f58.chP h9_6 zq67n
  have zq68n := (show ∀ g, rowOf Aa4_3 ca4_3 = some g -> ¬ F g from zq43g)
  have zq68 := f48.chP h9_6 zq68n
  have zq69n := (show ∀ g, rowOf Ab4_3 cb4_3 = some g -> ¬ F g from zq44g)
  have zq69 := f59.chP h9_6 zq69n
  refine G.nil (E.blkN (E.thenN (WC.region ?_)))
  refine W.a (.add rfl rfl (by omega)) ?_
  refine W.run 1 rfl (W.nil ?_)
  refine E.again (k + 1) (.cons rfl (.cons rfl (.cons rfl (.cons rfl (.cons rfl (.cons rfl (.cons rfl (.cons rfl (.cons rfl (.cons rfl (.cons rfl (.nil _)))))))))))) ?_ ?_
  ·exact ⟨by omega, L50, by have := zl0; have := h7_3.size; have := h7_5.size; have := d8.size; have := h8_6.size; have := d9.size; have := h9_6.size; omega, zq60, zq61, zq62, zq63, zq64, zq67, zq65, zq66, zq68, zq69, p9_6⟩
  first | omega | (simp only []; omega)
 refine WC.condN rfl (decide_eq_false c1) ?_
 refine WC.exit (E.thenX (E.thenX (E.blkH (E.thenN (WC.sr ?_)))))
 refine W.r (.loadAll ag61 (by rfl) rfl f0_0) ?_
 refine W.r (.loadAll ag61 (by rfl) rfl f0_5) ?_
 refine W.cl go88 rfl rfl (frcmul_ok wl0 f0_1.vec f0_2.vec (by omega) (by omega) f0_6.vec f0_7.vec (by omega) (by omega)) ?_
 rintro _ w11_2 ⟨An11_2, cn11_2, Ad11_2, cd11_2, rfl, on11_2, od11_2, h11_2⟩
 have L71 := Ll0.le h11_2
 have f72 := (f0_0.le h11_2)
 refine W.sA sz61 rfl rfl f72 ?_
 intro w11_3 b11_3 h11_3
 have b11_3 : Blk w11_3 b6 61 #[.slice An11_2 ((digs ((mulF (takF (⟨o.n, o.d⟩ : Fr)) (takF (⟨b1.2.1.n, b1.2.1.d⟩ : Fr))).n)).length) cn11_2, .slice Ad11_2 ((digs ((mulF (takF (⟨o.n, o.d⟩ : Fr)) (takF (⟨b1.2.1.n, b1.2.1.d⟩ : Fr))).d)).length) cd11_2] := b11_3
 have L73 : ChP w w11_3 ((fun k => F k \/ k = b6)) := L71.ch h11_3 (fun i hi _ => by cases hi; exact (.inr rfl))
 refine W.nx (WC.sr (W.run 4 rfl ?_))
 refine W.a (.buildP [.int .i64 (share), .slice Aw1_6 b1.1.length cw1_6, .slice Aa4_3 ((costG b1.1 share x).1.length) ca4_3, .slice Ab4_3 ((costG b1.1 share x).2.1.length) cb4_3] pl34 z34 rfl rfl) ?_
 have f74 := ((f0_3.le h11_2).ch h11_3 (fun h => (show b6 ≠ g0_0 from by have := hB0.lt; omega) (Option.some.inj h)))
 refine W.sA sz34 rfl rfl f74 ?_
 intro w12_5 b12_5 h12_5
 have b12_5 : Blk w12_5 g0_0 34 #[.int .i64 (share), .slice Aw1_6 b1.1.length cw1_6, .slice Aa4_3 ((costG b1.1 share x).1.length) ca4_3, .slice Ab4_3 ((costG b1.1 share x).2.1.length) cb4_3] := b12_5
 have L75 : ChP w w12_5 ((fun k => F k \/ k = b6)) := L73.ch h12_5 (fun i hi hlt => by cases hi; exact absurd hlt (by have := L0.size; have := hg0_0; omega))
 refine W.run 1 rfl (W.nx (WC.ret ?_))
 have f76 := (((f0_10.le h11_2).ch h11_3 (fun q hqq hF => by cases hqq; exact hE.n6 hF)).ch h12_5 (fun q hqq hF => by cases hqq; have := hP.lt hF;  have := hg0_0; omega))
 have f77 := (b11_3.ch h12_5 (fun h => (show g0_0 ≠ b6 from by have := hB0.lt; omega) (Option.some.inj h)))
 have f78 := ((on11_2.ch h11_3 (fun q hq => by cases hq; exact (fun he => by have := (on11_2.row he).1; have := f0_0.lt; omega))).ch h12_5 (fun q hq => by cases hq; exact (fun he => by have := (on11_2.row he).1; have := f0_3.lt; omega)))
 have f79 := ((od11_2.ch h11_3 (fun q hq => by cases hq; exact (fun he => by have := (od11_2.row he).1; have := f0_0.lt; omega))).ch h12_5 (fun q hq => by cases hq; exact (fun he => by have := (od11_2.row he).1; have := f0_3.lt; omega)))
 have f80 := (((f0_4.le h11_2).ch h11_3 (fun q hq => by cases hq; exact (fun he => by have := (f0_4.row he).1; have := hB0.lt; have := h0_0.size; omega))).ch h12_5 (fun q hq => by cases hq; exact (fun he => by have := (f0_4.row he).1; have := b0_0.lt; omega)))
 have f81 := (((f0_8.le h11_2).ch h11_3 (fun q hq => by cases hq; exact (fun he => by have := (f0_8.row he).1; have := hB0.lt; have := h0_0.size; have := h1_6.size; have := h1_11.size; have := h1_13.size; omega))).ch h12_5 (fun q hq => by cases hq; exact (fun he => by have := (f0_8.row he).1; have := b0_0.lt; have := h1_6.size; have := h1_11.size; have := h1_13.size; omega)))
 have f82 := (((f0_9.le h11_2).ch h11_3 (fun q hq => by cases hq; exact (fun he => by have := (f0_9.row he).1; have := hB0.lt; have := h0_0.size; have := h1_6.size; have := h1_11.size; have := h1_13.size; omega))).ch h12_5 (fun q hq => by cases hq; exact (fun he => by have := (f0_9.row he).1; have := b0_0.lt; have := h1_6.size; have := h1_11.size; have := h1_13.size; omega)))
 refine E.retG2 rfl (resA rfl b12_5 ag34 (by rfl)) rfl ?_
 have hbo : okF b1.2.1 := by rw [heb1]; exact (best_unit hgm hb0).1
 have hb1 : bestR g m fr to share x = b1 := heb1.symm
 have hkl : k = b1.1.length := (by omega)
 subst hkl
 have hmm : (⟨(mulF (takF (⟨o.n, o.d⟩ : Fr)) (takF (⟨b1.2.1.n, b1.2.1.d⟩ : Fr))).n, (mulF (takF (⟨o.n, o.d⟩ : Fr)) (takF (⟨b1.2.1.n, b1.2.1.d⟩ : Fr))).d⟩ : Fr) = mulF o b1.2.1 := (by rw [takF_id (f := ⟨o.n, o.d⟩) hok, takF_id (f := ⟨b1.2.1.n, b1.2.1.d⟩) hbo])
 have hmn : (mulF (takF (⟨o.n, o.d⟩ : Fr)) (takF (⟨b1.2.1.n, b1.2.1.d⟩ : Fr))) = mulF o b1.2.1 := hmm
 have hO : OddAt w12_5 bs b6 (mulF (takF (⟨o.n, o.d⟩ : Fr)) (takF (⟨b1.2.1.n, b1.2.1.d⟩ : Fr)), F) := ⟨_, _, _, _, f77, ((f78.mono Ll0.size).mono hbs), ((f79.mono Ll0.size).mono hbs), (fun g hg hF => by have := f0_10.lt hF;  have := (f78.row hg).1; omega), (fun g hg hF => by have := f0_10.lt hF;  have := (f79.row hg).1; omega), (fun he => by have := (f78.row he).1; have := f0_0.lt; omega), (fun he => by have := (f79.row he).1; have := f0_0.lt; omega)⟩
 rw [hmn] at hO
 refine ⟨L75, .inr ⟨hb0, ⟨share, _, _, _, _, _, _, _, _, _⟩, rfl, ⟨rfl, ?_, ?_, ?_⟩, ?_, ?_⟩⟩
 ·rw [hb1]; exact (f80.mono L1.size)
 ·rw [hb1]; exact (f81.mono L5.size)
 ·rw [hb1]; exact (f82.mono L5.size)
 ·unfold stepT; rw [hb1]; exact f76
 unfold stepT; rw [hb1]; exact hO
end Go.Proofs.YtocheaahlpiajaaGreatDoor

namespace Go.Proofs.YtocheaahlpiajaaGreatDoor
open Tryz
open Go Go.Sx Go.Num Go.Gsp Go.Nsp Go.Msp Go.Rtp
set_option maxRecDepth 20000
set_option maxHeartbeats 4000000
theorem send_ok {w : World} {base bs gp ng cg b1 b2 b3 b4 b5 b6 : Nat} {F : Nat -> Prop} {s : TrS} {Ag : Option Addr} {g : List Gsp.Edge} {fr to x : Int} (share : Int) (hE : SendE w F gp Ag ng cg g fr to x b1 b2 b3 b4 b5 b6) (hP : MPool w base gp F s.m) (hO : OddAt w bs b6 (s.odds, F)) (hl : LenF s.odds 5000) (hk : okF s.odds) (hbs : bs <= w.heap.size) :
    Calls prog 86 #[.int .i64 share, .pointer (some ⟨b1, 0, none⟩), .pointer (some ⟨b2, 0, none⟩), .pointer (some ⟨b3, 0, none⟩), .pointer (some ⟨b4, 0, none⟩), .pointer (some ⟨b5, 0, none⟩), .pointer (some ⟨b6, 0, none⟩)] w fun r w' => ChP w w' (fun k => F k \/ k = b6) /\ (((bestR g s.m fr to share x).2.2 ≠ 0 /\ r = .returned (.tuple #[.agg (prV noPaR).toArray, .bool false])) \/ ((bestR g s.m fr to share x).2.2 = 0 /\ ∃ r1, r = .returned (.tuple #[.agg (prV r1).toArray, .bool true]) /\ PaAt w' w.heap.size r1 ⟨share, (bestR g s.m fr to share x).1, (costG (bestR g s.m fr to share x).1 share x).1, (costG (bestR g s.m fr to share x).1 share x).2.1⟩ /\ MPool w' base gp F (stepT g fr to x s share).m /\ OddAt w' bs b6 ((stepT g fr to x s share).odds, F))) := by
  obtain ⟨An, cn, Ad, cd, h1, h2, h3, h4, h5, h6, h7⟩ := hO
  exact send_step (out := s.out) share w hE hP h1 h2 h3 h4 h5 h6 h7 hl hk hbs
theorem send_yes {w : World} {base bs gp ng cg b1 b2 b3 b4 b5 b6 : Nat} {F : Nat -> Prop} {s : TrS} {Ag : Option Addr} {g : List Gsp.Edge} {fr to x : Int} (share : Int) (hE : SendE w F gp Ag ng cg g fr to x b1 b2 b3 b4 b5 b6) (hP : MPool w base gp F s.m) (hO : OddAt w bs b6 (s.odds, F)) (hl : LenF s.odds 5000) (hk : okF s.odds) (hbs : bs <= w.heap.size) (h : (bestR g s.m fr to share x).2.2 = 0) :
    Calls prog 86 #[.int .i64 share, .pointer (some ⟨b1, 0, none⟩), .pointer (some ⟨b2, 0, none⟩), .pointer (some ⟨b3, 0, none⟩), .pointer (some ⟨b4, 0, none⟩), .pointer (some ⟨b5, 0, none⟩), .pointer (some ⟨b6, 0, none⟩)] w fun r w' => ∃ r1, r = .returned (.tuple #[.agg (prV r1).toArray, .bool true]) /\ PaAt w' w.heap.size r1 ⟨share, (bestR g s.m fr to share x).1, (costG (bestR g s.m fr to share x).1 share x).1, (costG (bestR g s.m fr to share x).1 share x).2.1⟩ /\ MPool w' base gp F (stepT g fr to x s share).m /\ OddAt w' bs b6 ((stepT g fr to x s share).odds, F) /\ ChP w w' (fun k => F k \/ k = b6) := by
  refine Calls.mono (send_ok share hE hP hO hl hk hbs) ?_
  rintro r w' ⟨hc, ⟨k1, _⟩ | ⟨_, r1, k2, k3, k4, k5⟩⟩
  · exact absurd h k1
  · exact ⟨r1, k2, k3, k4, k5, hc⟩
theorem send_no {w : World} {base bs gp ng cg b1 b2 b3 b4 b5 b6 : Nat} {F : Nat -> Prop} {s : TrS} {Ag : Option Addr} {g : List Gsp.Edge} {fr to x : Int} (share : Int) (hE : SendE w F gp Ag ng cg g fr to x b1 b2 b3 b4 b5 b6) (hP : MPool w base gp F s.m) (hO : OddAt w bs b6 (s.odds, F)) (hl : LenF s.odds 5000) (hk : okF s.odds) (hbs : bs <= w.heap.size) (h : ¬ (bestR g s.m fr to share x).2.2 = 0) :
    Calls prog 86 #[.int .i64 share, .pointer (some ⟨b1, 0, none⟩), .pointer (some ⟨b2, 0, none⟩), .pointer (some ⟨b3, 0, none⟩), .pointer (some ⟨b4, 0, none⟩), .pointer (some ⟨b5, 0, none⟩), .pointer (some ⟨b6, 0, none⟩)] w fun r w' => r = .returned (.tuple #[.agg (prV noPaR).toArray, .bool false]) /\ ChP w w' (fun k => F k \/ k = b6) := by
  refine Calls.mono (send_ok share hE hP hO hl hk hbs) ?_
  rintro r w' ⟨hc, ⟨_, k1⟩ | ⟨k1, _⟩⟩
  · exact ⟨k1, hc⟩
  · exact absurd k1 h
theorem sharesL_le (a n : Int) : (sharesL a n).length <= 8 := by
  unfold sharesL
  split
  · exact Nat.zero_le _
  · rw [List.length_map, List.length_range]; omega
def totP : List Prt -> Int
  | [] => 0
  | p :: ps => p.sent.getD 0 0 + totP ps
theorem totP_next {ps : List Prt} {k : Nat} (h : k < ps.length) : totP (ps.take (k + 1)) = totP (ps.take k) + (ps.getD k noPrt).sent.getD 0 0 := by
  have ha : ∀ l : List Prt, ∀ p, totP (l ++ [p]) = totP l + p.sent.getD 0 0 := fun l p => by
    induction l with
    | nil => show p.sent.getD 0 0 + 0 = 0 + p.sent.getD 0 0; omega
    | cons y l ih => show y.sent.getD 0 0 + totP (l ++ [p]) = y.sent.getD 0 0 + totP l + p.sent.getD 0 0; rw [ih]; omega
  rw [List.take_add_one]
  simp only [List.getD, h, List.getElem?_eq_getElem, Option.toList, Option.getD]
  exact ha _ _
theorem totP_zero {ps : List Prt} {k : Nat} (h : k < ps.length) (h0 : (ps.getD k noPrt).sent.length = 0) : totP (ps.take k) = totP (ps.take (k + 1)) := by
  rw [totP_next h, List.length_eq_zero_iff.1 h0]
  show _ = _ + (0 : Int)
  omega
theorem tryG_arg {g : List Gsp.Edge} {m : MF} {fr to a x n : Int} (h1 : 1 <= n) (h8 : n <= 8) (h : (tryG g m fr to a x n).2.2 = 1) : (bestR g m fr to a x).2.2 = 1 := by
  unfold tryG at h
  split at h
  · omega
  · split at h
    · cases h
    · cases h
def TotOk (ps : List Prt) : Prop := ps.length <= 8 /\ ∀ p ∈ ps, ∀ s ∈ p.sent, 0 <= s /\ s <= 1125899906842624
theorem totP_ok {ps : List Prt} (h : TotOk ps) : ∀ k : Nat, 0 <= totP (ps.take k) /\ totP (ps.take k) <= k * 1125899906842624
  | 0 => by simp [totP]
  | k + 1 => by
    have ih := totP_ok h k
    rcases Nat.lt_or_ge k ps.length with q | q
    · rw [totP_next q]
      have hm : ps.getD k noPrt ∈ ps := getD_mem (z := noPrt) q
      have : 0 <= (ps.getD k noPrt).sent.getD 0 0 /\ (ps.getD k noPrt).sent.getD 0 0 <= 1125899906842624 := by
        cases hs : (ps.getD k noPrt).sent with
        | nil => simp
        | cons y l => exact h.2 _ hm y (by rw [hs]; exact List.mem_cons_self ..)
      omega
    · rw [List.take_of_length_le (by omega)] at ih ⊢
      omega
theorem sptry_ok {base gp : Nat} {F : Nat -> Prop} {m : MF} (fr to a x n : Int) {A : Option Addr} {n0 c : Nat} {g : List Gsp.Edge} (w : World) (hP : MPool w base gp F m) (hV : Vec w edgeV 9 A n0 g) (hn : n0 <= 1000000) (ha : a <= 9223372036854775807) : Calls prog 28 #[.slice A n0 c, .pointer (some ⟨gp, 0, none⟩), .int .i64 (fr), .int .i64 (to), .int .i64 (a), .int .i64 (x), .int .i64 (n)] w fun r w' => ∃ A c rs An cn Ad cd, r = .returned (.tuple #[.slice A (tryG g m fr to a x n).1.length c, .agg #[.slice An (digs (tryG g m fr to a x n).2.1.n).length cn, .slice Ad (digs (tryG g m fr to a x n).2.1.d).length cd], .int .i64 (tryG g m fr to a x n).2.2]) /\ OVec w' w.heap.size 34 prV 4 A (tryG g m fr to a x n).1.length c rs /\ PasAt w' w.heap.size rs (tryG g m fr to a x n).1 /\ OVec w' w.heap.size 273 dv 1 An (digs (tryG g m fr to a x n).2.1.n).length cn (digs (tryG g m fr to a x n).2.1.n) /\ OVec w' w.heap.size 273 dv 1 Ad (digs (tryG g m fr to a x n).2.1.d).length cd (digs (tryG g m fr to a x n).2.1.d) /\ ((tryG g m fr to a x n).1 = [] -> A = none) /\ Le w w' := by
 have hl := hV.1
 have hgm := hP.good
 refine enter func28 rfl rfl ?_
 have L0 := Le.refl w
 refine WC.sr (W.ef rfl rfl rfl ?_)
 refine Ef.box rfl ?_
 intro g0_0 w0_0 hg0_0 b0_0 h0_0
 have L1 := L0.trans h0_0
 have b0_0 : Blk w0_0 g0_0 32 #[.slice A n0 c] := b0_0
 refine W.ef rfl rfl rfl ?_
 refine Ef.box rfl ?_
 intro g0_1 w0_1 hg0_1 b0_1 h0_1
 have L2 := L1.trans h0_1
 have b0_1 : Blk w0_1 g0_1 55 #[.pointer (some ⟨gp, 0, none⟩)] := b0_1
 refine W.ef rfl rfl rfl ?_
 refine Ef.box rfl ?_
 intro g0_2 w0_2 hg0_2 b0_2 h0_2
 have L3 := L2.trans h0_2
 have b0_2 : Blk w0_2 g0_2 3 #[.int .i64 (fr)] := b0_2
 refine W.ef rfl rfl rfl ?_
 refine Ef.box rfl ?_
 intro g0_3 w0_3 hg0_3 b0_3 h0_3
 have L4 := L3.trans h0_3
 have b0_3 : Blk w0_3 g0_3 3 #[.int .i64 (to)] := b0_3
 refine W.ef rfl rfl rfl ?_
 refine Ef.box rfl ?_
 intro g0_4 w0_4 hg0_4 b0_4 h0_4
 have L5 := L4.trans h0_4
 have b0_4 : Blk w0_4 g0_4 3 #[.int .i64 (x)] := b0_4
 refine W.run 1 rfl (W.ef rfl rfl rfl ?_)
 refine Ef.allocA z61 ?_
 intro g0_6 w0_6 hg0_6 b0_6 h0_6
 have L6 := L5.trans h0_6
 have b0_6 : Blk w0_6 g0_6 61 #[.slice none 0 0, .slice none 0 0] := b0_6
 refine W.run 1 rfl (W.nx (WC.seq (WC.sr ?_)))
 have f7 := (b0_0.le (h0_1.trans (h0_2.trans (h0_3.trans (h0_4.trans h0_6)))))
 refine W.r (.loadB (v := .slice A n0 c) na32 rfl f7 rfl) ?_
 have f8 := (b0_1.le (h0_2.trans (h0_3.trans (h0_4.trans h0_6))))
 refine W.r (.loadB (v := .pointer (some ⟨gp, 0, none⟩)) na55 rfl f8 rfl) ?_
 have f9 := (b0_2.le (h0_3.trans (h0_4.trans h0_6)))
 refine W.r (.loadB (v := .int .i64 (fr)) na3 rfl f9 rfl) ?_
 have f10 := (b0_3.le (h0_4.trans h0_6))
 refine W.r (.loadB (v := .int .i64 (to)) na3 rfl f10 rfl) ?_
 refine W.run 1 rfl ?_
 have f11 := (b0_4.le h0_6)
 refine W.r (.loadB (v := .int .i64 (x)) na3 rfl f11 rfl) ?_
 have f12 := (hP.le (h0_0.trans (h0_1.trans (h0_2.trans (h0_3.trans (h0_4.trans h0_6))))))
 obtain ⟨b0, heb0⟩ : ∃ z, z = bestR g m fr to a x := ⟨_, rfl⟩
 have hlb0 := bestR_len (g := g) (fr := fr) (to := to) (a := a) (x := x) hgm
 rw [<- heb0] at hlb0
 refine W.cl go46 rfl rfl ((by have k := rbest_ok (c := c) fr to a x w0_6 f12 (hV.le L6) (by omega); rw [<- heb0] at k; exact k)) ?_
 rintro _ w1_6 ⟨Aw1_6, cw1_6, An1_6, cn1_6, Ad1_6, cd1_6, rfl, ow1_6, on1_6, od1_6, h1_6⟩
 have L13 := L6.trans h1_6
 refine W.run 2 rfl ?_
 refine W.a (.extract (v := .agg #[.slice An1_6 ((digs b0.2.1.n).length) cn1_6, .slice Ad1_6 ((digs b0.2.1.d).length) cd1_6]) rfl rfl) ?_
 refine W.run 1 rfl (W.ef rfl rfl rfl ?_)
 refine Ef.allocA z61 ?_
 intro g1_11 w1_11 hg1_11 b1_11 h1_11
 have L14 := L13.trans h1_11
 have b1_11 : Blk w1_11 g1_11 61 #[.slice none 0 0, .slice none 0 0] := b1_11
 refine W.run 1 rfl ?_
 refine W.sA sz61 rfl rfl b1_11 ?_
 intro w1_13 b1_13 h1_13
 have L15 := L14.tb h1_13 L13 hg1_11
 refine W.run 1 rfl (W.nx (WC.sr (W.run 2 rfl ?_)))
 by_cases q2_2 : n < 1
 ·refine W.dt q2_2 rfl rfl (W.run 7 rfl (W.nx (WC.condT rfl (WC.sr ?_))))
  refine W.a (.buildP [.slice none 0 0, .slice none 0 0] pl61 z61 rfl rfl) ?_
  refine W.run 1 rfl ?_
  have f16 := ((b0_6.le (h1_6.trans h1_11)).ch h1_13 (fun h => (show g1_11 ≠ g0_6 from by have := b0_6.lt; have := h1_6.size; omega) (Option.some.inj h)))
  refine W.sA sz61 rfl rfl f16 ?_
  intro w3_2 b3_2 h3_2
  have b3_2 : Blk w3_2 g0_6 61 #[.slice none 0 0, .slice none 0 0] := b3_2
  have L17 := L15.tb h3_2 L5 hg0_6
  refine W.run 1 rfl (W.nx (WC.ret (E.thenR ?_)))
  refine E.retG3 rfl rfl (resA rfl b3_2 ag61 (by rfl)) rfl ?_
  rw [tryG_bad (by rw [<- heb0]; omega)]
  exact ⟨none, 0, [], none, 0, none, 0, by simp only [digs_zero]; rfl, OVec.nil _ _ _ _ _ _, PasAt.nil _ _, by simp only [digs_zero]; exact OVec.nil _ _ _ _ _ _, by simp only [digs_zero]; exact OVec.nil _ _ _ _ _ _, fun _ => rfl, L17⟩
 refine W.df q2_2 rfl rfl (W.run 3 rfl ?_)
 by_cases q2_6 : 8 < n
 ·refine W.dt q2_6 rfl rfl (W.run 3 rfl (W.nx (WC.condT rfl (WC.sr ?_))))
  refine W.a (.buildP [.slice none 0 0, .slice none 0 0] pl61 z61 rfl rfl) ?_
  refine W.run 1 rfl ?_
  have f18 := ((b0_6.le (h1_6.trans h1_11)).ch h1_13 (fun h => (show g1_11 ≠ g0_6 from by have := b0_6.lt; have := h1_6.size; omega) (Option.some.inj h)))
  refine W.sA sz61 rfl rfl f18 ?_
  intro w3_2_1 b3_2_1 h3_2_1
  have b3_2_1 : Blk w3_2_1 g0_6 61 #[.slice none 0 0, .slice none 0 0] := b3_2_1
  have L19 := L15.tb h3_2_1 L5 hg0_6
  refine W.run 1 rfl (W.nx (WC.ret (E.thenR ?_)))
  refine E.retG3 rfl rfl (resA rfl b3_2_1 ag61 (by rfl)) rfl ?_
  rw [tryG_bad (by rw [<- heb0]; omega)]
  exact ⟨none, 0, [], none, 0, none, 0, by simp only [digs_zero]; rfl, OVec.nil _ _ _ _ _ _, PasAt.nil _ _, by simp only [digs_zero]; exact OVec.nil _ _ _ _ _ _, by simp only [digs_zero]; exact OVec.nil _ _ _ _ _ _, fun _ => rfl, L19⟩
 refine W.df q2_6 rfl rfl (W.run 3 rfl (W.nx ?_))
 by_cases c0 : b0.2.2 = 1
 ·refine WC.condY rfl (decide_eq_true c0) ?_
  refine WC.sr ?_
  refine W.a (.buildP [.slice none 0 0, .slice none 0 0] pl61 z61 rfl rfl) ?_
  refine W.run 1 rfl ?_
  have f20 := ((b0_6.le (h1_6.trans h1_11)).ch h1_13 (fun h => (show g1_11 ≠ g0_6 from by have := b0_6.lt; have := h1_6.size; omega) (Option.some.inj h)))
  refine W.sA sz61 rfl rfl f20 ?_
  intro w3_2_2 b3_2_2 h3_2_2
  have b3_2_2 : Blk w3_2_2 g0_6 61 #[.slice none 0 0, .slice none 0 0] := b3_2_2
  have L21 := L15.tb h3_2_2 L5 hg0_6
  refine W.run 1 rfl (W.nx (WC.ret (E.thenR ?_)))
  refine E.retG3 rfl rfl (resA rfl b3_2_2 ag61 (by rfl)) rfl ?_
  rw [tryG_bad (by rw [<- heb0]; omega)]
  exact ⟨none, 0, [], none, 0, none, 0, by simp only [digs_zero]; rfl, OVec.nil _ _ _ _ _ _, PasAt.nil _ _, by simp only [digs_zero]; exact OVec.nil _ _ _ _ _ _, by simp only [digs_zero]; exact OVec.nil _ _ _ _ _ _, fun _ => rfl, L21⟩
 refine WC.condN rfl (decide_eq_false c0) ?_
 have hn1 : ¬ (n < 1 \/ 8 < n \/ (bestR g m fr to a x).2.2 = 1) := by rw [<- heb0]; omega
 refine WC.sn (WC.sr (W.run 2 rfl ?_))
 refine W.cl go14 rfl rfl (shares_ok a n w1_13 (by omega)) ?_
 rintro _ w4_2 ⟨As4_2, cs4_2, rfl, os4_2, hn4_2, h4_2⟩
 have L22 := L15.trans h4_2
 refine W.run 1 rfl (W.nx (WC.seq (WC.sr (W.run 1 rfl ?_))))
 refine W.a (.isNil underlying23 rfl) ?_
 refine W.nx ?_
 by_cases c1 : As4_2.isNone = true
 ·refine WC.condY rfl (c1) ?_
  refine WC.sr ?_
  refine W.a (.buildP [.slice none 0 0, .slice none 0 0] pl61 z61 rfl rfl) ?_
  refine W.run 1 rfl ?_
  have f23 := (((b0_6.le (h1_6.trans h1_11)).ch h1_13 (fun h => (show g1_11 ≠ g0_6 from by have := b0_6.lt; have := h1_6.size; omega) (Option.some.inj h))).le h4_2)
  refine W.sA sz61 rfl rfl f23 ?_
  intro w6_2 b6_2 h6_2
  have b6_2 : Blk w6_2 g0_6 61 #[.slice none 0 0, .slice none 0 0] := b6_2
  have L24 := L22.tb h6_2 L5 hg0_6
  refine W.run 1 rfl (W.nx (WC.ret (E.thenR ?_)))
  refine E.retG3 rfl rfl (resA rfl b6_2 ag61 (by rfl)) rfl ?_
  rw [tryG_none hn1 (.inl (of_decide_eq_true (hn4_2.symm.trans (by assumption))))]
  exact ⟨none, 0, [], none, 0, none, 0, by simp only [digs_zero]; rfl, OVec.nil _ _ _ _ _ _, PasAt.nil _ _, by simp only [digs_zero]; exact OVec.nil _ _ _ _ _ _, by simp only [digs_zero]; exact OVec.nil _ _ _ _ _ _, fun _ => rfl, L24⟩
 refine WC.condN rfl ((Bool.eq_false_iff.2 c1)) ?_
 have hsn : sharesL a n ≠ [] := fun hh => absurd (hn4_2.trans (decide_eq_true hh)) (by assumption)
 have hs8 := sharesL_le a n
 refine WC.sn (WC.sr ?_)
 have f25 := (((f8.le (h1_6.trans h1_11)).ch h1_13 (fun h => (show g1_11 ≠ g0_1 from by have := f8.lt; have := h1_6.size; omega) (Option.some.inj h))).le h4_2)
 refine W.r (.loadB (v := .pointer (some ⟨gp, 0, none⟩)) na55 rfl f25 rfl) ?_
 have f26 := (((f12.le (h1_6.trans h1_11)).ch h1_13 (fun q hqq hF => by cases hqq; have := f12.lt hF; have := h1_6.size; have := hg1_11; omega)).le h4_2)
 refine W.cl go85 rfl rfl (copy_mind f26) ?_
 rintro _ w7_1 ⟨gp7_1, F7_1, rfl, p7_1, h7_1⟩
 have L27 := L22.trans h7_1
 have f28 := (f25.le h7_1)
 refine W.ef0 rfl rfl ?_
 refine Ef.store sz55 rfl rfl f28 (by first | decide | (simp; done)) (rfl) ?_
 intro w7_2 b7_2 h7_2
 have b7_2 : Blk w7_2 g0_1 55 #[.pointer (some ⟨gp7_1, 0, none⟩)] := b7_2
 have L29 := L27.tb h7_2 L1 hg0_1
 refine W.nx (WC.sr ?_)
 refine W.cl go39 rfl rfl (fof_ok 1 1 w7_2 (by omega) (by omega) (by omega)) ?_
 rintro _ w8_0 ⟨An8_0, cn8_0, Ad8_0, cd8_0, rfl, on8_0, od8_0, h8_0⟩
 have L30 := L29.trans h8_0
 refine W.run 1 rfl ?_
 refine W.a (.extract (v := .agg #[.slice An8_0 ((digs ((lowF 1 1).n)).length) cn8_0, .slice Ad8_0 ((digs ((lowF 1 1).d)).length) cd8_0]) rfl rfl) ?_
 refine W.run 1 rfl (W.ef rfl rfl rfl ?_)
 refine Ef.allocA z61 ?_
 intro g8_4 w8_4 hg8_4 b8_4 h8_4
 have L31 := L30.trans h8_4
 have b8_4 : Blk w8_4 g8_4 61 #[.slice none 0 0, .slice none 0 0] := b8_4
 refine W.sA sz61 rfl rfl b8_4 ?_
 intro w8_5 b8_5 h8_5
 have b8_5 : Blk w8_5 g8_4 61 #[.slice An8_0 ((digs ((lowF 1 1).n)).length) cn8_0, .slice Ad8_0 ((digs ((lowF 1 1).d)).length) cd8_0] := b8_5
 have L32 := L31.tb h8_5 L30 hg8_4
 refine W.run 1 rfl (W.nx (WC.sr ?_))
 have f33 := ((on8_0.le h8_4).ch h8_5 (fun q hq => by cases hq; exact (fun he => by have := (on8_0.row he).2; omega)))
 have f34 := ((od8_0.le h8_4).ch h8_5 (fun q hq => by cases hq; exact (fun he => by have := (od8_0.row he).2; omega)))
 have hgo : ¬ F7_1 g8_4 := (fun hF => by have := p7_1.lt hF; have := h7_2.size; have := h8_0.size; have := hg8_4; omega)
 have h11 : (⟨(lowF 1 1).n, (lowF 1 1).d⟩ : Fr) = ⟨1, 1⟩ := by decide
 have zo0 : OddAt w8_5 w7_2.heap.size g8_4 ((⟨(lowF 1 1).n, (lowF 1 1).d⟩ : Fr), F7_1) := ⟨_, _, _, _, b8_5, f33, f34, (fun g hg hF => by have := p7_1.lt hF; have := h7_2.size; have := (f33.row hg).1; omega), (fun g hg hF => by have := p7_1.lt hF; have := h7_2.size; have := (f34.row hg).1; omega), (fun he => by have := (on8_0.row he).2; omega), (fun he => by have := (od8_0.row he).2; omega)⟩
 rw [h11] at zo0
 refine W.a (.makeFunc rfl) ?_
 refine W.run 1 rfl (W.nx (WC.sr (W.run 1 rfl (W.nx (WC.seq (WC.sr (W.run 1 rfl ?_)))))))
 refine W.r (.len underlying23 rfl) ?_
 refine W.run 1 rfl (W.nx (WC.block ?_))
 have f35 := (((p7_1.ch h7_2 (fun q hqq hF => by cases hqq; have := p7_1.old hF; have := f25.lt; omega)).le (h8_0.trans h8_4)).ch h8_5 (fun q hqq hF => by cases hqq; have := p7_1.lt hF; have := h7_2.size; have := h8_0.size; have := hg8_4; omega))
 have f36 := ((((((b0_6.le (h1_6.trans h1_11)).ch h1_13 (fun h => (show g1_11 ≠ g0_6 from by have := b0_6.lt; have := h1_6.size; omega) (Option.some.inj h))).le (h4_2.trans h7_1)).ch h7_2 (fun h => (show g0_1 ≠ g0_6 from by have := b0_1.lt; have := h0_2.size; have := h0_3.size; have := h0_4.size; omega) (Option.some.inj h))).le (h8_0.trans h8_4)).ch h8_5 (fun h => (show g8_4 ≠ g0_6 from by have := b0_6.lt; have := h1_6.size; have := h1_11.size; have := h1_13.size; have := h4_2.size; have := h7_1.size; have := h7_2.size; have := h8_0.size; omega) (Option.some.inj h)))
 have f37 := ((((((f7.le (h1_6.trans h1_11)).ch h1_13 (fun h => (show g1_11 ≠ g0_0 from by have := f7.lt; have := h1_6.size; omega) (Option.some.inj h))).le (h4_2.trans h7_1)).ch h7_2 (fun h => (show g0_1 ≠ g0_0 from by have := b0_0.lt; omega) (Option.some.inj h))).le (h8_0.trans h8_4)).ch h8_5 (fun h => (show g8_4 ≠ g0_0 from by have := f7.lt; have := h1_6.size; have := h1_11.size; have := h1_13.size; have := h4_2.size; have := h7_1.size; have := h7_2.size; have := h8_0.size; omega) (Option.some.inj h)))
 have f38 := ((b7_2.le (h8_0.trans h8_4)).ch h8_5 (fun h => (show g8_4 ≠ g0_1 from by have := b7_2.lt; have := h8_0.size; omega) (Option.some.inj h)))
 have f39 := ((((((f9.le (h1_6.trans h1_11)).ch h1_13 (fun h => (show g1_11 ≠ g0_2 from by have := f9.lt; have := h1_6.size; omega) (Option.some.inj h))).le (h4_2.trans h7_1)).ch h7_2 (fun h => (show g0_1 ≠ g0_2 from by have := b0_1.lt; omega) (Option.some.inj h))).le (h8_0.trans h8_4)).ch h8_5 (fun h => (show g8_4 ≠ g0_2 from by have := f9.lt; have := h1_6.size; have := h1_11.size; have := h1_13.size; have := h4_2.size; have := h7_1.size; have := h7_2.size; have := h8_0.size; omega) (Option.some.inj h)))
 have f40 := ((((((f10.le (h1_6.trans h1_11)).ch h1_13 (fun h => (show g1_11 ≠ g0_3 from by have := f10.lt; have := h1_6.size; omega) (Option.some.inj h))).le (h4_2.trans h7_1)).ch h7_2 (fun h => (show g0_1 ≠ g0_3 from by have := b0_1.lt; have := h0_2.size; omega) (Option.some.inj h))).le (h8_0.trans h8_4)).ch h8_5 (fun h => (show g8_4 ≠ g0_3 from by have := f10.lt; have := h1_6.size; have := h1_11.size; have := h1_13.size; have := h4_2.size; have := h7_1.size; have := h7_2.size; have := h8_0.size; omega) (Option.some.inj h)))
 have f41 := ((((((f11.le (h1_6.trans h1_11)).ch h1_13 (fun h => (show g1_11 ≠ g0_4 from by have := f11.lt; have := h1_6.size; omega) (Option.some.inj h))).le (h4_2.trans h7_1)).ch h7_2 (fun h => (show g0_1 ≠ g0_4 from by have := b0_1.lt; have := h0_2.size; have := h0_3.size; omega) (Option.some.inj h))).le (h8_0.trans h8_4)).ch h8_5 (fun h => (show g8_4 ≠ g0_4 from by have := f11.lt; have := h1_6.size; have := h1_11.size; have := h1_13.size; have := h4_2.size; have := h7_1.size; have := h7_2.size; have := h8_0.size; omega) (Option.some.inj h)))
 have f42 := ((((os4_2.le h7_1).ch h7_2 (fun q hq => by cases hq; exact (fun he => by have := (os4_2.row he).1; have := f8.lt; have := h1_6.size; have := h1_11.size; have := h1_13.size; omega))).le (h8_0.trans h8_4)).ch h8_5 (fun q hq => by cases hq; exact (fun he => by have := (os4_2.row he).2; have := h7_1.size; have := h7_2.size; have := h8_0.size; omega)))
 refine WC.loop (ι := Nat × TrS × ((Option Addr)) × Nat × ((List PaR))) (fun ⟨i, s, Ao, co, ro⟩ => [(15, .pointer (some ⟨g0_6, 0, none⟩)), (21, .pointer (some ⟨g8_4, 0, none⟩)), (23, .func (.func 86) #[] #[.pointer (some ⟨g0_0, 0, none⟩), .pointer (some ⟨g0_1, 0, none⟩), .pointer (some ⟨g0_2, 0, none⟩), .pointer (some ⟨g0_3, 0, none⟩), .pointer (some ⟨g0_4, 0, none⟩), .pointer (some ⟨g8_4, 0, none⟩)]), (24, .slice Ao s.out.length co), (64, .slice As4_2 ((sharesL a n).length) cs4_2), (65, .int .i64 ((((sharesL a n).length : Nat) : Int))), (66, .int .i64 (((i : Nat) : Int)))]) (fun ⟨i, s, Ao, co, ro⟩ wl0 => (i <= (sharesL a n).length) /\ (((sharesL a n).take i).foldl (tryS g fr to x) (some ⟨[], ⟨1, 1⟩, m⟩) = some s) /\ (LenF s.odds (1 + 100 * i)) /\ (okF s.odds) /\ Le w wl0 /\ w8_5.heap.size <= wl0.heap.size /\ Blk wl0 g0_6 61 #[.slice none 0 0, .slice none 0 0] /\ OddAt wl0 w7_2.heap.size g8_4 (s.odds, F7_1) /\ Blk wl0 g0_0 32 #[.slice A n0 c] /\ Blk wl0 g0_1 55 #[.pointer (some ⟨gp7_1, 0, none⟩)] /\ Blk wl0 g0_2 3 #[.int .i64 (fr)] /\ Blk wl0 g0_3 3 #[.int .i64 (to)] /\ Blk wl0 g0_4 3 #[.int .i64 (x)] /\ OVec wl0 w8_5.heap.size 34 prV 4 Ao s.out.length co ro /\ PasAt wl0 w8_5.heap.size ro s.out /\ OVec wl0 w1_13.heap.size 3 iv 1 As4_2 ((sharesL a n).length) cs4_2 (sharesL a n) /\ MPool wl0 w4_2.heap.size gp7_1 F7_1 s.m) (fun ⟨i, s, Ao, co, ro⟩ => (sharesL a n).length - i) (0, (⟨[], ⟨1, 1⟩, m⟩ : TrS), none, 0, ([])) ?_ ?_ ?_
 ·exact .cons rfl (.cons rfl (.cons rfl (.cons rfl (.cons rfl (.cons rfl (.cons rfl (.nil _)))))))
 ·exact ⟨Nat.zero_le _, rfl, (show LenF ⟨1, 1⟩ 1 from ⟨digs_len_one (by decide), digs_len_one (by decide)⟩), (show okF ⟨1, 1⟩ by unfold okF; decide), L32, Nat.le_refl _, f36, zo0, f37, f38, f39, f40, f41, (OVec.nil w8_5 w8_5.heap.size 34 prV 4 none), (PasAt.nil w8_5 w8_5.heap.size), f42, f35⟩
 rintro ⟨i, s, Ao, co, ro⟩ wl0 ⟨hi, hs, hlo, hok, Ll0, zl0, f0_0, f0_1, f0_2, f0_3, f0_4, f0_5, f0_6, f0_7, f0_8, f0_9, f0_10⟩
 have lb0_18 : w7_2.heap.size <= wl0.heap.size := by have := h8_0.size; have := h8_4.size; have := h8_5.size; omega
 have lb0_19 : w8_5.heap.size <= wl0.heap.size := by omega
 have lb0_20 : w8_5.heap.size <= wl0.heap.size := by omega
 have lb0_13 : w1_13.heap.size <= wl0.heap.size := by have := h4_2.size; have := h7_1.size; have := h7_2.size; have := h8_0.size; have := h8_4.size; have := h8_5.size; omega
 have hcn : s.out.length = min i (sharesL a n).length := by have := try_cnt hs; simpa using this
 refine WC.sr (W.run 1 rfl (W.nx (WC.seq ?_)))
 by_cases c2 : ((i : Nat) : Int) < (((sharesL a n).length : Nat) : Int)
 ·refine WC.condY rfl (decide_eq_true c2) ?_
  refine WC.sn (WC.seq (WC.block (WC.sr ?_)))
  refine W.a (.idxS (i) underlying23 sz3 rfl rfl (os4_2.vec.isSome iv_row (by omega)) (rfl) (by omega)) ?_
  refine W.r (.vone (v := .int .i64 (((sharesL a n).getD i 0))) na3 rfl f0_9.vec iv_row (getS (sharesL a n) 0 (by first | omega | (simp only [List.length_cons, List.length_nil]; omega))) rfl) ?_
  refine W.run 1 rfl (W.nx (WC.sr (W.run 2 rfl ?_)))
  by_cases qc14_2 : (bestR g s.m fr to ((sharesL a n).getD i 0) x).2.2 = 0
  ·have zE14_2 : SendE wl0 F7_1 gp7_1 A n0 c g fr to x g0_0 g0_1 g0_2 g0_3 g0_4 g8_4 := ⟨f0_2, f0_3, f0_4, f0_5, f0_6, (hV.le Ll0), (fun h => h.elim (fun hF => ((fun hF => by have := f0_10.old hF; have := f7.lt; have := h1_6.size; have := h1_11.size; have := h1_13.size; have := h4_2.size; omega)) hF) (fun he => (show g0_0 ≠ g8_4 from by have := f7.lt; have := h1_6.size; have := h1_11.size; have := h1_13.size; have := h4_2.size; have := h7_1.size; have := h7_2.size; have := h8_0.size; omega) he)), (fun h => h.elim (fun hF => ((fun hF => by have := f0_10.old hF; have := f25.lt; omega)) hF) (fun he => (show g0_1 ≠ g8_4 from by have := b7_2.lt; have := h8_0.size; omega) he)), (fun h => h.elim (fun hF => ((fun hF => by have := f0_10.old hF; have := f9.lt; have := h1_6.size; have := h1_11.size; have := h1_13.size; have := h4_2.size; omega)) hF) (fun he => (show g0_2 ≠ g8_4 from by have := f9.lt; have := h1_6.size; have := h1_11.size; have := h1_13.size; have := h4_2.size; have := h7_1.size; have := h7_2.size; have := h8_0.size; omega) he)), (fun h => h.elim (fun hF => ((fun hF => by have := f0_10.old hF; have := f10.lt; have := h1_6.size; have := h1_11.size; have := h1_13.size; have := h4_2.size; omega)) hF) (fun he => (show g0_3 ≠ g8_4 from by have := f10.lt; have := h1_6.size; have := h1_11.size; have := h1_13.size; have := h4_2.size; have := h7_1.size; have := h7_2.size; have := h8_0.size; omega) he)), (fun h => h.elim (fun hF => ((fun hF => by have := f0_10.old hF; have := f11.lt; have := h1_6.size; have := h1_11.size; have := h1_13.size; have := h4_2.size; omega)) hF) (fun he => (show g0_4 ≠ g8_4 from by have := f11.lt; have := h1_6.size; have := h1_11.size; have := h1_13.size; have := h4_2.size; have := h7_1.size; have := h7_2.size; have := h8_0.size; omega) he)), (show ¬ F7_1 g8_4 from hgo), (fun q h1 h2 _ he => by have := hV.blk_lt edgeV_row h2 h1; rcases he with hF | hF; (have := f0_10.old hF; have := L22.size; omega); (subst hF; have := L30.size; have := hg8_4; omega)), hn⟩
   refine W.ef rfl rfl rfl ?_
   refine Ef.callC go86 rfl rfl rfl (send_yes ((sharesL a n).getD i 0) zE14_2 f0_10 f0_1 (hlo.up (by omega)) hok (by have := lb0_18; omega) qc14_2) ?_
   rintro _ w14_2 ⟨r114_2, rfl, pr14_2, P14_2, O14_2, h14_2⟩
   refine ⟨_, rfl, ?_⟩
   have L43 := Ll0.chP_then h14_2 (fun i hi => Or.elim hi (fun hi => Nat.le_trans L22.size (f0_10.old hi)) (fun hi => (by subst hi; exact Nat.le_trans L30.size hg8_4)))
   refine W.run 1 rfl ?_
   refine W.a (.extract (v := .agg (prV r114_2).toArray) rfl rfl) ?_
   refine W.run 1 rfl (W.ef rfl rfl rfl ?_)
   refine Ef.allocA z34 ?_
   intro g14_6 w14_6 hg14_6 b14_6 h14_6
   have L44 := L43.trans h14_6
   have b14_6 : Blk w14_6 g14_6 34 (prV noPaR).toArray := b14_6
   refine W.ef0 rfl rfl ?_
   refine Ef.storeAll sz34 (by rfl) rfl rfl b14_6 (by simp only [List.size_toArray, prV_row.len]) (prV_row.one r114_2) ?_
   intro w14_7 b14_7 h14_7
   have b14_7 : Blk w14_7 g14_6 34 (prV r114_2).toArray := b14_7
   have L45 := L44.tb h14_7 L43 hg14_6
   refine W.run 1 rfl (W.nx (WC.seq (WC.sr (W.run 2 rfl (W.nx (WC.condF rfl (WC.sn (WC.region (W.run 1 rfl ?_)))))))))
   refine W.r (.loadAll ag34 (by rfl) rfl b14_7) ?_
   refine W.ef rfl rfl rfl ?_
   refine Ef.buildSliceV (len := 1) [_] underlying31 el34 rfl (by simp [Value.cells, prV_row.len]) rfl (by decide) (by decide) ?_
   intro g17_2 w17_2 hg17_2 b17_2 h17_2
   have L46 := L45.trans h17_2
   have b17_2 : Blk w17_2 g17_2 34 (([r114_2]).map prV).flatten.toArray := b17_2
   have o17_2 : OVec w17_2 w14_7.heap.size 34 prV 4 (some ⟨g17_2, 0, none⟩) 1 1 ([r114_2]) := b17_2.ovec hg17_2 prV_row rfl rfl (by decide)
   have f47 := ((((f0_7.chP h14_2 (fun q hqq hF => Or.elim hF (fun hF => ((fun g hg hF => by have := f35.lt hF;  have := (f0_7.row hg).1; omega) q hqq hF)) (fun hF => (by subst hF; exact (fun he => by have := (f0_7.row he).1; have := zo0.lt; omega) hqq)))).le h14_6).ch h14_7 (fun q hq => by cases hq; exact (fun he => by have := (f0_7.row he).2; have := h14_2.size; omega))).le h17_2)
   refine W.ef rfl rfl rfl ?_
   refine Ef.vpush (a := r114_2) underlying31 el34 underlying31 prV_row rfl f47 rfl b17_2 (by omega) (by unfold maxLen; omega) (by have := lb0_20; have := h14_2.size; have := h14_6.size; have := h14_7.size; have := h17_2.size; omega) ?_
   intro A17_3 c17_3 w17_3 o17_3 h17_3 at17_3
   have L48 := L46.then_ h17_3 (fun q hq => Nat.le_trans L32.size (f47.row hq).1)
   refine W.run 1 rfl ?_
   have f49 := (((((f0_8.chP h14_2 (fun i hF => Or.elim hF (fun hF => (by have := f35.lt hF;  omega)) (fun hF => (by subst hF; have := zo0.lt; omega)))).le h14_6).chB h14_7 b14_6 (by decide) (by decide)).le h17_2).chO h17_3 f47 (by decide) (by decide))
   have f50 := ((((pr14_2.le h14_6).chB h14_7 b14_6 (by decide) (by decide)).le h17_2).chO h17_3 f47 (by decide) (by decide))
   have zpu := f49.push (f50.mono (by have := lb0_20; omega))
   refine W.nil (E.blkN (E.thenN (WC.region ?_)))
   refine W.a (.add rfl rfl (by omega)) ?_
   refine W.run 1 rfl (W.nil ?_)
   have f51 := (((((f0_0.chP h14_2 (fun hF => Or.elim hF (fun hF => ((fun hF => by have := f0_10.old hF; have := b0_6.lt; have := h1_6.size; have := h1_11.size; have := h1_13.size; have := h4_2.size; omega) hF)) (fun hF => (show g0_6 ≠ g8_4 from by have := b0_6.lt; have := h1_6.size; have := h1_11.size; have := h1_13.size; have := h4_2.size; have := h7_1.size; have := h7_2.size; have := h8_0.size; omega) hF))).le h14_6).ch h14_7 (fun h => (show g14_6 ≠ g0_6 from by have := f0_0.lt; have := h14_2.size; omega) (Option.some.inj h))).le h17_2).ch h17_3 (fun he => by have := (f47.row he).1; have := f36.lt; omega))
   have f52 := ((((O14_2.le h14_6).chB h14_7 b14_6 (by decide) (by decide)).le h17_2).chO h17_3 f47 (by decide) (by decide))
   have f53 := (((((f0_2.chP h14_2 (fun hF => Or.elim hF (fun hF => ((fun hF => by have := f0_10.old hF; have := f7.lt; have := h1_6.size; have := h1_11.size; have := h1_13.size; have := h4_2.size; omega) hF)) (fun hF => (show g0_0 ≠ g8_4 from by have := f7.lt; have := h1_6.size; have := h1_11.size; have := h1_13.size; have := h4_2.size; have := h7_1.size; have := h7_2.size; have := h8_0.size; omega) hF))).le h14_6).ch h14_7 (fun h => (show g14_6 ≠ g0_0 from by have := f0_2.lt; have := h14_2.size; omega) (Option.some.inj h))).le h17_2).ch h17_3 (fun he => by have := (f47.row he).1; have := f37.lt; omega))
   have f54 := (((((f0_3.chP h14_2 (fun hF => Or.elim hF (fun hF => ((fun hF => by have := f0_10.old hF; have := f25.lt; omega) hF)) (fun hF => (show g0_1 ≠ g8_4 from by have := b7_2.lt; have := h8_0.size; omega) hF))).le h14_6).ch h14_7 (fun h => (show g14_6 ≠ g0_1 from by have := f0_3.lt; have := h14_2.size; omega) (Option.some.inj h))).le h17_2).ch h17_3 (fun he => by have := (f47.row he).1; have := f38.lt; omega))
   have f55 := (((((f0_4.chP h14_2 (fun hF => Or.elim hF (fun hF => ((fun hF => by have := f0_10.old hF; have := f9.lt; have := h1_6.size; have := h1_11.size; have := h1_13.size; have := h4_2.size; omega) hF)) (fun hF => (show g0_2 ≠ g8_4 from by have := f9.lt; have := h1_6.size; have := h1_11.size; have := h1_13.size; have := h4_2.size; have := h7_1.size; have := h7_2.size; have := h8_0.size; omega) hF))).le h14_6).ch h14_7 (fun h => (show g14_6 ≠ g0_2 from by have := f0_4.lt; have := h14_2.size; omega) (Option.some.inj h))).le h17_2).ch h17_3 (fun he => by have := (f47.row he).1; have := f39.lt; omega))
   have f56 := (((((f0_5.chP h14_2 (fun hF => Or.elim hF (fun hF => ((fun hF => by have := f0_10.old hF; have := f10.lt; have := h1_6.size; have := h1_11.size; have := h1_13.size; have := h4_2.size; omega) hF)) (fun hF => (show g0_3 ≠ g8_4 from by have := f10.lt; have := h1_6.size; have := h1_11.size; have := h1_13.size; have := h4_2.size; have := h7_1.size; have := h7_2.size; have := h8_0.size; omega) hF))).le h14_6).ch h14_7 (fun h => (show g14_6 ≠ g0_3 from by have := f0_5.lt; have := h14_2.size; omega) (Option.some.inj h))).le h17_2).ch h17_3 (fun he => by have := (f47.row he).1; have := f40.lt; omega))
   have f57 := (((((f0_6.chP h14_2 (fun hF => Or.elim hF (fun hF => ((fun hF => by have := f0_10.old hF; have := f11.lt; have := h1_6.size; have := h1_11.size; have := h1_13.size; have := h4_2.size; omega) hF)) (fun hF => (show g0_4 ≠ g8_4 from by have := f11.lt; have := h1_6.size; have := h1_11.size; have := h1_13.size; have := h4_2.size; have := h7_1.size; have := h7_2.size; have := h8_0.size; omega) hF))).le h14_6).ch h14_7 (fun h => (show g14_6 ≠ g0_4 from by have := f0_6.lt; have := h14_2.size; omega) (Option.some.inj h))).le h17_2).ch h17_3 (fun he => by have := (f47.row he).1; have := f41.lt; omega))
   have f58 := (((((f0_9.chP h14_2 (fun q hqq hF => Or.elim hF (fun hF => ((fun g hg hF => by have := f0_10.old hF;  have := (os4_2.row hg).2; omega) q hqq hF)) (fun hF => (by subst hF; exact (fun he => by have := (os4_2.row he).2; have := h7_1.size; have := h7_2.size; have := h8_0.size; omega) hqq)))).le h14_6).ch h14_7 (fun q hq => by cases hq; exact (fun he => by have := (f0_9.row he).2; have := h14_2.size; omega))).le h17_2).ch h17_3 ((Apart.symm (fun q h1 h2 => by have := (f42.row h1).2; have := (f47.row h2).1; omega))))
   have f59 := ((((P14_2.le h14_6).ch h14_7 (fun q hqq hF => by cases hqq; have := P14_2.lt hF;  have := hg14_6; omega)).le h17_2).ch h17_3 (fun q hqq hF => by have := (f47.row hqq).1; have := f35.lt hF;  omega))
   refine E.again (i + 1, (stepT g fr to x s ((sharesL a n).getD i 0)), A17_3, c17_3, (ro ++ [r114_2])) (.cons rfl (.cons rfl (.cons rfl (.cons' rfl (slice_eq (by simp [stepT])) (.cons rfl (.cons rfl (.cons rfl (.nil _)))))))) ?_ ?_
   ·exact ⟨by omega, (by rw [try_next (by omega) hs]; exact tryS_yes (by assumption)), ((hlo.mul ((bestR_len (g := g) (fr := fr) (to := to) (a := ((sharesL a n).getD i 0)) (x := x) (f0_10.good)).2)).up (by omega)), okF_mul hok (best_unit f0_10.good (by assumption)).1, L48, by have := zl0; have := h14_2.size; have := h14_6.size; have := h14_7.size; have := h17_2.size; have := h17_3.size; omega, f51, f52, f53, f54, f55, f56, f57, (o17_3.cast (by simp [stepT]) rfl), zpu, f58, f59⟩
   first | omega | (simp only []; omega)
  have zE14_2_1 : SendE wl0 F7_1 gp7_1 A n0 c g fr to x g0_0 g0_1 g0_2 g0_3 g0_4 g8_4 := ⟨f0_2, f0_3, f0_4, f0_5, f0_6, (hV.le Ll0), (fun h => h.elim (fun hF => ((fun hF => by have := f0_10.old hF; have := f7.lt; have := h1_6.size; have := h1_11.size; have := h1_13.size; have := h4_2.size; omega)) hF) (fun he => (show g0_0 ≠ g8_4 from by have := f7.lt; have := h1_6.size; have := h1_11.size; have := h1_13.size; have := h4_2.size; have := h7_1.size; have := h7_2.size; have := h8_0.size; omega) he)), (fun h => h.elim (fun hF => ((fun hF => by have := f0_10.old hF; have := f25.lt; omega)) hF) (fun he => (show g0_1 ≠ g8_4 from by have := b7_2.lt; have := h8_0.size; omega) he)), (fun h => h.elim (fun hF => ((fun hF => by have := f0_10.old hF; have := f9.lt; have := h1_6.size; have := h1_11.size; have := h1_13.size; have := h4_2.size; omega)) hF) (fun he => (show g0_2 ≠ g8_4 from by have := f9.lt; have := h1_6.size; have := h1_11.size; have := h1_13.size; have := h4_2.size; have := h7_1.size; have := h7_2.size; have := h8_0.size; omega) he)), (fun h => h.elim (fun hF => ((fun hF => by have := f0_10.old hF; have := f10.lt; have := h1_6.size; have := h1_11.size; have := h1_13.size; have := h4_2.size; omega)) hF) (fun he => (show g0_3 ≠ g8_4 from by have := f10.lt; have := h1_6.size; have := h1_11.size; have := h1_13.size; have := h4_2.size; have := h7_1.size; have := h7_2.size; have := h8_0.size; omega) he)), (fun h => h.elim (fun hF => ((fun hF => by have := f0_10.old hF; have := f11.lt; have := h1_6.size; have := h1_11.size; have := h1_13.size; have := h4_2.size; omega)) hF) (fun he => (show g0_4 ≠ g8_4 from by have := f11.lt; have := h1_6.size; have := h1_11.size; have := h1_13.size; have := h4_2.size; have := h7_1.size; have := h7_2.size; have := h8_0.size; omega) he)), (show ¬ F7_1 g8_4 from hgo), (fun q h1 h2 _ he => by have := hV.blk_lt edgeV_row h2 h1; rcases he with hF | hF; (have := f0_10.old hF; have := L22.size; omega); (subst hF; have := L30.size; have := hg8_4; omega)), hn⟩
  refine W.ef rfl rfl rfl ?_
  refine Ef.callC go86 rfl rfl rfl (send_no ((sharesL a n).getD i 0) zE14_2_1 f0_10 f0_1 (hlo.up (by omega)) hok (by have := lb0_18; omega) qc14_2) ?_
  rintro _ w14_2_1 ⟨rfl, h14_2_1⟩
  refine ⟨_, rfl, ?_⟩
  have L60 := Ll0.chP_then h14_2_1 (fun i hi => Or.elim hi (fun hi => Nat.le_trans L22.size (f0_10.old hi)) (fun hi => (by subst hi; exact Nat.le_trans L30.size hg8_4)))
  refine W.run 1 rfl ?_
  refine W.a (.extract (v := .agg (prV noPaR).toArray) rfl rfl) ?_
  refine W.run 1 rfl (W.ef rfl rfl rfl ?_)
  refine Ef.allocA z34 ?_
  intro g14_6_1 w14_6_1 hg14_6_1 b14_6_1 h14_6_1
  have L61 := L60.trans h14_6_1
  have b14_6_1 : Blk w14_6_1 g14_6_1 34 (prV noPaR).toArray := b14_6_1
  refine W.ef0 rfl rfl ?_
  refine Ef.storeAll sz34 (by rfl) rfl rfl b14_6_1 (by simp only [List.size_toArray, prV_row.len]) (prV_row.one noPaR) ?_
  intro w14_7_1 b14_7_1 h14_7_1
  have b14_7_1 : Blk w14_7_1 g14_6_1 34 (prV noPaR).toArray := b14_7_1
  have L62 := L61.tb h14_7_1 L60 hg14_6_1
  refine W.run 1 rfl (W.nx (WC.seq (WC.sr (W.run 2 rfl (W.nx (WC.condT rfl (WC.sr ?_)))))))
  refine W.a (.buildP [.slice none 0 0, .slice none 0 0] pl61 z61 rfl rfl) ?_
  refine W.run 1 rfl ?_
  have f63 := (((f0_0.chP h14_2_1 (fun hF => Or.elim hF (fun hF => ((fun hF => by have := f0_10.old hF; have := b0_6.lt; have := h1_6.size; have := h1_11.size; have := h1_13.size; have := h4_2.size; omega) hF)) (fun hF => (show g0_6 ≠ g8_4 from by have := b0_6.lt; have := h1_6.size; have := h1_11.size; have := h1_13.size; have := h4_2.size; have := h7_1.size; have := h7_2.size; have := h8_0.size; omega) hF))).le h14_6_1).ch h14_7_1 (fun h => (show g14_6_1 ≠ g0_6 from by have := f0_0.lt; have := h14_2_1.size; omega) (Option.some.inj h)))
  refine W.sA sz61 rfl rfl f63 ?_
  intro w16_2 b16_2 h16_2
  have b16_2 : Blk w16_2 g0_6 61 #[.slice none 0 0, .slice none 0 0] := b16_2
  have L64 := L62.tb h16_2 L5 hg0_6
  refine W.run 1 rfl (W.nx (WC.ret (E.thenR (E.blkR (E.thenR (E.thenR (E.blkR (E.thenR ?_))))))))
  refine E.retG3 rfl rfl (resA rfl b16_2 ag61 (by rfl)) rfl ?_
  rw [tryG_none hn1 (.inr (try_rest (k := i + 1) (by rw [try_next (by omega) hs]; exact tryS_no (by assumption))))]
  exact ⟨none, 0, [], none, 0, none, 0, by simp only [digs_zero]; rfl, OVec.nil _ _ _ _ _ _, PasAt.nil _ _, by simp only [digs_zero]; exact OVec.nil _ _ _ _ _ _, by simp only [digs_zero]; exact OVec.nil _ _ _ _ _ _, fun _ => rfl, L64⟩
 refine WC.condN rfl (decide_eq_false c2) ?_
 refine WC.exit (E.thenX (E.thenX (E.blkH (E.thenN (WC.seq ?_)))))
 refine WC.draw [0, 1, 2, 3, 4] mixed (by kernel_rfl) ?_
 intro w19 d19
 have L65 := Ll0.trans d19
 refine G.run 1 rfl ?_
 have f66 := (f0_1.le d19)
 obtain ⟨Anz, cnz, Adz, cdz, hbz, hnz, hdz, _⟩ := f66
 refine G.r rfl (.loadAll ag61 (by rfl) rfl hbz) ?_
 refine G.run 1 rfl ?_
 have f67 := (f0_0.le d19)
 refine G.ef0 rfl rfl rfl rfl ?_
 refine Ef.storeAll sz61 (by rfl) rfl rfl f67 (by rfl) (by simp [Value.oneCell']) ?_
 intro w19_3 b19_3 h19_3
 refine noT (by kernel_rfl) ?_
 have b19_3 : Blk w19_3 g0_6 61 #[.slice Anz ((digs s.odds.n).length) cnz, .slice Adz ((digs s.odds.d).length) cdz] := b19_3
 have L68 := L65.tb h19_3 L5 hg0_6
 refine G.run 1 rfl (G.nil (E.thenN (WC.ret ?_)))
 have f69 := ((f0_8.le d19).chB h19_3 f67 (by decide) (by decide))
 have f70 := ((f0_7.le d19).ch h19_3 (fun q hq => by cases hq; exact (fun he => by have := (f0_7.row he).1; have := f36.lt; omega)))
 have f71 := (hnz.ch h19_3 (fun q hq => by cases hq; exact (fun he => by have := (hnz.row he).1; have := b0_6.lt; have := h1_6.size; have := h1_11.size; have := h1_13.size; have := h4_2.size; have := h7_1.size; have := h7_2.size; omega)))
 have f72 := (hdz.ch h19_3 (fun q hq => by cases hq; exact (fun he => by have := (hdz.row he).1; have := b0_6.lt; have := h1_6.size; have := h1_11.size; have := h1_13.size; have := h4_2.size; have := h7_1.size; have := h7_2.size; omega)))
 refine E.retG3 rfl rfl (resA rfl b19_3 ag61 (by rfl)) rfl ?_
 have hil : i = (sharesL a n).length := (by omega)
 have htl : (sharesL a n).take i = sharesL a n := (by rw [hil, List.take_length])
 rw [htl] at hs
 have hcnt := try_cnt hs
 rw [tryG_some hn1 hsn hs]
 exact ⟨_, _, _, _, _, _, _, rfl, (f70.mono L32.size), (f69.mono L32.size), (f71.mono L29.size), (f72.mono L29.size), (fun h => by have h' : s.out = [] := h; rw [h'] at hcnt; have := List.length_pos_iff.2 hsn; simp at hcnt; omega), L68⟩

theorem spbest_ok {base gp : Nat} {F : Nat -> Prop} {m : MF} (fr to a x n : Int) {A : Option Addr} {n0 c : Nat} {g : List Gsp.Edge} (w : World) (hP : MPool w base gp F m) (hV : Vec w edgeV 9 A n0 g) (hn : n0 <= 1000000) (ha : a <= 9223372036854775807) : Calls prog 30 #[.slice A n0 c, .pointer (some ⟨gp, 0, none⟩), .int .i64 (fr), .int .i64 (to), .int .i64 (a), .int .i64 (x), .int .i64 (n)] w fun r w' => ∃ A c rs An cn Ad cd, r = .returned (.tuple #[.slice A (splitG g m fr to a x n).1.length c, .agg #[.slice An (digs (splitG g m fr to a x n).2.1.n).length cn, .slice Ad (digs (splitG g m fr to a x n).2.1.d).length cd], .int .i64 (splitG g m fr to a x n).2.2]) /\ OVec w' w.heap.size 34 prV 4 A (splitG g m fr to a x n).1.length c rs /\ PasAt w' w.heap.size rs (splitG g m fr to a x n).1 /\ OVec w' w.heap.size 273 dv 1 An (digs (splitG g m fr to a x n).2.1.n).length cn (digs (splitG g m fr to a x n).2.1.n) /\ OVec w' w.heap.size 273 dv 1 Ad (digs (splitG g m fr to a x n).2.1.d).length cd (digs (splitG g m fr to a x n).2.1.d) /\ ((splitG g m fr to a x n).1 = [] -> A = none) /\ Le w w' := by
 have hl := hV.1
 have hgm := hP.good
 refine enter func30 rfl rfl ?_
 have L0 := Le.refl w
 refine WC.sr (W.run 1 rfl (W.ef rfl rfl rfl ?_))
 refine Ef.allocA z61 ?_
 intro g0_1 w0_1 hg0_1 b0_1 h0_1
 have L1 := L0.trans h0_1
 have b0_1 : Blk w0_1 g0_1 61 #[.slice none 0 0, .slice none 0 0] := b0_1
 refine W.run 1 rfl (W.nx (WC.seq (WC.sr (W.run 2 rfl ?_))))
 by_cases q1_2 : n < 1
 ·refine W.dt q1_2 rfl rfl (W.run 3 rfl (W.nx (WC.condT rfl (WC.sr ?_))))
  refine W.a (.buildP [.slice none 0 0, .slice none 0 0] pl61 z61 rfl rfl) ?_
  refine W.run 1 rfl ?_
  refine W.sA sz61 rfl rfl b0_1 ?_
  intro w2_2 b2_2 h2_2
  have b2_2 : Blk w2_2 g0_1 61 #[.slice none 0 0, .slice none 0 0] := b2_2
  have L2 := L1.tb h2_2 L0 hg0_1
  refine W.run 1 rfl (W.nx (WC.ret (E.thenR ?_)))
  refine E.retG3 rfl rfl (resA rfl b2_2 ag61 (by rfl)) rfl ?_
  have hsg : splitG g m fr to a x n = ([], ⟨0, 0⟩, 1) := (by unfold splitG; rw [if_pos (by omega)])
  rw [hsg]
  exact ⟨none, 0, [], none, 0, none, 0, by simp only [digs_zero]; rfl, OVec.nil _ _ _ _ _ _, PasAt.nil _ _, by simp only [digs_zero]; exact OVec.nil _ _ _ _ _ _, by simp only [digs_zero]; exact OVec.nil _ _ _ _ _ _, fun _ => rfl, L2⟩
 refine W.df q1_2 rfl rfl (W.run 3 rfl (W.nx ?_))
 by_cases c0 : 8 < n
 ·refine WC.condY rfl (decide_eq_true c0) ?_
  refine WC.sr ?_
  refine W.a (.buildP [.slice none 0 0, .slice none 0 0] pl61 z61 rfl rfl) ?_
  refine W.run 1 rfl ?_
  refine W.sA sz61 rfl rfl b0_1 ?_
  intro w2_2_1 b2_2_1 h2_2_1
  have b2_2_1 : Blk w2_2_1 g0_1 61 #[.slice none 0 0, .slice none 0 0] := b2_2_1
  have L3 := L1.tb h2_2_1 L0 hg0_1
  refine W.run 1 rfl (W.nx (WC.ret (E.thenR ?_)))
  refine E.retG3 rfl rfl (resA rfl b2_2_1 ag61 (by rfl)) rfl ?_
  have hsg : splitG g m fr to a x n = ([], ⟨0, 0⟩, 1) := (by unfold splitG; rw [if_pos (by omega)])
  rw [hsg]
  exact ⟨none, 0, [], none, 0, none, 0, by simp only [digs_zero]; rfl, OVec.nil _ _ _ _ _ _, PasAt.nil _ _, by simp only [digs_zero]; exact OVec.nil _ _ _ _ _ _, by simp only [digs_zero]; exact OVec.nil _ _ _ _ _ _, fun _ => rfl, L3⟩
 refine WC.condN rfl (decide_eq_false c0) ?_
 refine WC.sn (WC.sr (W.run 1 rfl (W.nx (WC.sr (W.ef rfl rfl rfl ?_)))))
 refine Ef.allocA z61 ?_
 intro g4_0 w4_0 hg4_0 b4_0 h4_0
 have L4 := L1.trans h4_0
 have b4_0 : Blk w4_0 g4_0 61 #[.slice none 0 0, .slice none 0 0] := b4_0
 refine W.nx (WC.sr ?_)
 have bz0 : Blk w4_0 g4_0 61 #[.slice none (digs 0).length 0, .slice none (digs 0).length 0] := by rw [digs_zero]; exact b4_0
 have oz0 : OVec w4_0 w4_0.heap.size 273 dv 1 none (digs 0).length 0 (digs 0) := by rw [digs_zero]; exact OVec.nil _ _ _ _ _ _
 refine W.run 1 rfl (W.nx (WC.seq (WC.sr (W.run 2 rfl (W.nx (WC.block ?_))))))
 have f5 := (hP.le (h0_1.trans h4_0))
 have f6 := (b0_1.le h4_0)
 refine WC.loop (ι := Nat × ((List Prt × Fr × Int)) × ((Option Addr)) × Nat × ((List PaR)) × ((Option Addr)) × Nat × ((Option Addr)) × Nat) (fun ⟨i, b, Ab, cb, rb, Ax, cx, Ay, cy⟩ => [(0, .slice A n0 c), (1, .pointer (some ⟨gp, 0, none⟩)), (2, .int .i64 (fr)), (3, .int .i64 (to)), (4, .int .i64 (a)), (5, .int .i64 (x)), (15, .pointer (some ⟨g0_1, 0, none⟩)), (17, .slice Ab b.1.length cb), (18, .pointer (some ⟨g4_0, 0, none⟩)), (19, .int .i64 (b.2.2)), (31, .int .i64 (n)), (32, .int .i64 (((i : Nat) : Int)))]) (fun ⟨i, b, Ab, cb, rb, Ax, cx, Ay, cy⟩ wl0 => (i <= n.toNat) /\ (b = (List.range i).foldl (splS g m fr to a x) ([], ⟨0, 0⟩, 19)) /\ (b.1 = [] -> Ab = none) /\ (0 < i -> (bestR g m fr to a x).2.2 ≠ 1) /\ ((digs b.2.1.n).length <= 900 /\ (digs b.2.1.d).length <= 900) /\ Le w wl0 /\ w4_0.heap.size <= wl0.heap.size /\ MPool wl0 base gp F m /\ Blk wl0 g0_1 61 #[.slice none 0 0, .slice none 0 0] /\ OVec wl0 w4_0.heap.size 34 prV 4 Ab b.1.length cb rb /\ PasAt wl0 w4_0.heap.size rb b.1 /\ Blk wl0 g4_0 61 #[.slice Ax ((digs b.2.1.n).length) cx, .slice Ay ((digs b.2.1.d).length) cy] /\ OVec wl0 w4_0.heap.size 273 dv 1 Ax ((digs b.2.1.n).length) cx (digs b.2.1.n) /\ OVec wl0 w4_0.heap.size 273 dv 1 Ay ((digs b.2.1.d).length) cy (digs b.2.1.d)) (fun ⟨i, b, Ab, cb, rb, Ax, cx, Ay, cy⟩ => n.toNat - i) (0, (([], ⟨0, 0⟩, 19) : List Prt × Fr × Int), none, 0, ([]), none, 0, none, 0) ?_ ?_ ?_
 ·exact .cons rfl (.cons rfl (.cons rfl (.cons rfl (.cons rfl (.cons rfl (.cons rfl (.cons rfl (.cons rfl (.cons rfl (.cons rfl (.cons rfl (.nil _))))))))))))
 ·exact ⟨Nat.zero_le _, rfl, fun _ => rfl, fun h => absurd h (Nat.not_lt_zero _), by simp only [digs_zero]; exact ⟨Nat.zero_le _, Nat.zero_le _⟩, L4, Nat.le_refl _, f5, f6, (OVec.nil w4_0 w4_0.heap.size 34 prV 4 none), (PasAt.nil w4_0 w4_0.heap.size), bz0, oz0, oz0⟩
 rintro ⟨i, b, Ab, cb, rb, Ax, cx, Ay, cy⟩ wl0 ⟨hi, hb, hbe, hb1, hlb, Ll0, zl0, f0_0, f0_1, f0_2, f0_3, f0_4, f0_5, f0_6⟩
 have lb0_8 : w4_0.heap.size <= wl0.heap.size := by omega
 have lb0_9 : w4_0.heap.size <= wl0.heap.size := by omega
 have lb0_5 : w4_0.heap.size <= wl0.heap.size := by omega
 have lb0_6 : w4_0.heap.size <= wl0.heap.size := by omega
 refine WC.sr (W.run 1 rfl (W.nx (WC.seq ?_)))
 by_cases c1 : ((i : Nat) : Int) < n
 ·refine WC.condY rfl (decide_eq_true c1) ?_
  refine WC.sn (WC.seq (WC.block (WC.sr (W.run 2 rfl (W.nx (WC.sr (W.run 7 rfl ?_)))))))
  refine W.a (.add rfl rfl (by omega)) ?_
  obtain ⟨t1, het1⟩ : ∃ z, z = (tryG g m fr to a x (((i : Nat) : Int) + 1)) := ⟨_, rfl⟩
  have hlt1 := tryG_len (g := g) (m := m) (fr := fr) (to := to) (a := a) (x := x) (n := (((i : Nat) : Int) + 1)) hgm
  rw [<- het1] at hlt1; unfold LenF at hlt1
  refine W.cl go28 rfl rfl ((by have k := sptry_ok (c := c) fr to a x (((i : Nat) : Int) + 1) wl0 f0_0 (hV.le Ll0) (by omega) (by omega); rw [<- het1] at k; exact k)) ?_
  rintro _ w9_8 ⟨Ap9_8, cp9_8, rs9_8, An9_8, cn9_8, Ad9_8, cd9_8, rfl, op9_8, pa9_8, on9_8, od9_8, hz9_8, h9_8⟩
  have L7 := Ll0.trans h9_8
  have hr9_8 := pa9_8.1
  refine W.run 2 rfl ?_
  refine W.a (.extract (v := .agg #[.slice An9_8 ((digs t1.2.1.n).length) cn9_8, .slice Ad9_8 ((digs t1.2.1.d).length) cd9_8]) rfl rfl) ?_
  refine W.run 1 rfl (W.ef rfl rfl rfl ?_)
  refine Ef.allocA z61 ?_
  intro g9_13 w9_13 hg9_13 b9_13 h9_13
  have L8 := L7.trans h9_13
  have b9_13 : Blk w9_13 g9_13 61 #[.slice none 0 0, .slice none 0 0] := b9_13
  refine W.run 1 rfl ?_
  refine W.sA sz61 rfl rfl b9_13 ?_
  intro w9_15 b9_15 h9_15
  have b9_15 : Blk w9_15 g9_13 61 #[.slice An9_8 ((digs t1.2.1.n).length) cn9_8, .slice Ad9_8 ((digs t1.2.1.d).length) cd9_8] := b9_15
  have L9 := L8.tb h9_15 L7 hg9_13
  refine W.run 1 rfl (W.nx (WC.block (WC.sr ?_)))
  have f10 := ((f0_2.le (h9_8.trans h9_13)).ch h9_15 (fun q hq => by cases hq; exact (fun he => by have := (f0_2.row he).2; have := h9_8.size; omega)))
  have hbn : Ab.isNone = true -> b.1 = [] := fun h => Decidable.byContradiction fun hh => by have := f10.vec.isSome prV_row (List.length_pos_iff.2 hh); revert h this; cases Ab <;> simp
  refine W.run 3 rfl (W.nx ?_)
  by_cases c2 : t1.2.2 = 1
  ·refine WC.condY rfl (decide_eq_true c2) ?_
   refine WC.sr ?_
   refine W.a (.buildP [.slice none 0 0, .slice none 0 0] pl61 z61 rfl rfl) ?_
   refine W.run 2 rfl ?_
   have f11 := ((f0_1.le (h9_8.trans h9_13)).ch h9_15 (fun h => (show g9_13 ≠ g0_1 from by have := f0_1.lt; have := h9_8.size; omega) (Option.some.inj h)))
   refine W.sA sz61 rfl rfl f11 ?_
   intro w11_3 b11_3 h11_3
   have b11_3 : Blk w11_3 g0_1 61 #[.slice none 0 0, .slice none 0 0] := b11_3
   have L12 := L9.tb h11_3 L0 hg0_1
   refine W.run 1 rfl (W.nx (WC.ret (E.blkR (E.blkR (E.thenR (E.thenR (E.blkR (E.thenR ?_))))))))
   refine E.retG3 rfl rfl (resA rfl b11_3 ag61 (by rfl)) rfl ?_
   have hte : t1.2.2 = 1 := (by assumption)
   have hsg : splitG g m fr to a x n = ([], ⟨0, 0⟩, 1) := (by unfold splitG; rw [if_pos (.inr (.inr (tryG_arg (n := (i : Int) + 1) (by omega) (by omega) (by rw [<- het1]; exact hte))))])
   rw [hte, hsg]
   exact ⟨none, 0, [], none, 0, none, 0, by simp only [digs_zero]; rfl, OVec.nil _ _ _ _ _ _, PasAt.nil _ _, by simp only [digs_zero]; exact OVec.nil _ _ _ _ _ _, by simp only [digs_zero]; exact OVec.nil _ _ _ _ _ _, fun _ => rfl, L12⟩
  refine WC.condN rfl (decide_eq_false c2) ?_
  refine WC.sr (W.run 2 rfl ?_)
  by_cases q12_2 : t1.2.2 = 0
  ·refine W.dt q12_2 rfl rfl (W.run 1 rfl ?_)
   refine W.g (Any.rd (.isNil underlying31 rfl) _) ?_
   by_cases q12_5 : Ab.isNone = true
   ·refine W.g (Any.rd (.dec (.move rfl) (q12_5)) _) ?_
    refine W.run 4 rfl ?_
    refine W.g (Any.rd (.pickT rfl rfl rfl) _) ?_
    refine W.run 2 rfl (W.nx (WC.condT rfl ?_))
    refine WC.draw [0, 1, 2, 3, 4] mixed (by kernel_rfl) ?_
    intro w13 d13
    have L13 := L9.trans d13
    refine G.run 1 rfl ?_
    have f14 := (b9_15.le d13)
    refine G.r rfl (.loadAll ag61 (by rfl) rfl f14) ?_
    refine G.run 1 rfl ?_
    have f15 := (((f0_4.le (h9_8.trans h9_13)).ch h9_15 (fun h => (show g9_13 ≠ g4_0 from by have := f0_4.lt; have := h9_8.size; omega) (Option.some.inj h))).le d13)
    refine G.ef0 rfl rfl rfl rfl ?_
    refine Ef.storeAll sz61 (by rfl) rfl rfl f15 (by rfl) (by simp [Value.oneCell']) ?_
    intro w13_3 b13_3 h13_3
    refine noT (by kernel_rfl) ?_
    have b13_3 : Blk w13_3 g4_0 61 #[.slice An9_8 ((digs t1.2.1.n).length) cn9_8, .slice Ad9_8 ((digs t1.2.1.d).length) cd9_8] := b13_3
    have L16 := L13.tb h13_3 L1 hg4_0
    refine G.run 1 rfl (G.nil (E.blkN (E.blkN (E.thenN (WC.region ?_)))))
    refine W.a (.add rfl rfl (by omega)) ?_
    refine W.run 1 rfl (W.nil ?_)
    have f17 := ((((f0_0.le (h9_8.trans h9_13)).ch h9_15 (fun q hqq hF => by cases hqq; have := f0_0.lt hF; have := h9_8.size; have := hg9_13; omega)).le d13).ch h13_3 (fun q hqq hF => by cases hqq; have := hP.lt hF; have := h0_1.size; have := hg4_0; omega))
    have f18 := ((((f0_1.le (h9_8.trans h9_13)).ch h9_15 (fun h => (show g9_13 ≠ g0_1 from by have := f0_1.lt; have := h9_8.size; omega) (Option.some.inj h))).le d13).ch h13_3 (fun h => (show g4_0 ≠ g0_1 from by have := b0_1.lt; omega) (Option.some.inj h)))
    have f19 := ((((op9_8.le h9_13).ch h9_15 (fun q hq => by cases hq; exact (fun he => by have := (op9_8.row he).2; omega))).le d13).ch h13_3 (fun q hq => by cases hq; exact (fun he => by have := (op9_8.row he).1; have := f0_4.lt; omega)))
    have f20 := ((((pa9_8.le h9_13).chB h9_15 b9_13 (by decide) (by decide)).le d13).chB h13_3 f15 (by decide) (by decide))
    have f21 := ((((on9_8.le h9_13).ch h9_15 (fun q hq => by cases hq; exact (fun he => by have := (on9_8.row he).2; omega))).le d13).ch h13_3 (fun q hq => by cases hq; exact (fun he => by have := (on9_8.row he).1; have := f0_4.lt; omega)))
    have f22 := ((((od9_8.le h9_13).ch h9_15 (fun q hq => by cases hq; exact (fun he => by have := (od9_8.row he).2; omega))).le d13).ch h13_3 (fun q hq => by cases hq; exact (fun he => by have := (od9_8.row he).1; have := f0_4.lt; omega)))
    refine E.again (i + 1, t1, Ap9_8, cp9_8, rs9_8, An9_8, cn9_8, Ad9_8, cd9_8) (.cons rfl (.cons rfl (.cons rfl (.cons rfl (.cons rfl (.cons rfl (.cons rfl (.cons rfl (.cons rfl (.cons' rfl (int_eq (Eq.symm (by assumption : t1.2.2 = 0))) (.cons rfl (.cons rfl (.nil _))))))))))))) ?_ ?_
    ·exact ⟨by omega, (by rw [List.range_succ, List.foldl_append, <- hb]; show _ = splS g m fr to a x b i; unfold splS; rw [<- het1]; exact (if_pos ⟨by assumption, by first | exact .inl (hbn (by assumption)) | exact .inr (by assumption)⟩).symm), hz9_8, fun _ hh => absurd (by rw [het1, tryG_bad (.inr (.inr hh))]) (by assumption : ¬ t1.2.2 = 1), hlt1.1, L16, by have := zl0; have := h9_8.size; have := h9_13.size; have := h9_15.size; have := d13.size; have := h13_3.size; omega, f17, f18, (f19.mono (by omega)), (f20.mono (by omega)), b13_3, (f21.mono (by omega)), (f22.mono (by omega))⟩
    first | omega | (simp only []; omega)
   refine W.g (Any.rd (.dec (.move rfl) ((Bool.eq_false_iff.2 q12_5))) _) ?_
   refine W.g (.loadAll ag61 (by rfl) rfl b9_15) ?_
   have f23 := ((f0_4.le (h9_8.trans h9_13)).ch h9_15 (fun h => (show g9_13 ≠ g4_0 from by have := f0_4.lt; have := h9_8.size; omega) (Option.some.inj h)))
   refine W.g (.loadAll ag61 (by rfl) rfl f23) ?_
   have f24 := ((on9_8.le h9_13).ch h9_15 (fun q hq => by cases hq; exact (fun he => by have := (on9_8.row he).2; omega)))
   have f25 := ((od9_8.le h9_13).ch h9_15 (fun q hq => by cases hq; exact (fun he => by have := (od9_8.row he).2; omega)))
   have f26 := ((f0_5.le (h9_8.trans h9_13)).ch h9_15 (fun q hq => by cases hq; exact (fun he => by have := (f0_5.row he).2; have := h9_8.size; omega)))
   have f27 := ((f0_6.le (h9_8.trans h9_13)).ch h9_15 (fun q hq => by cases hq; exact (fun he => by have := (f0_6.row he).2; have := h9_8.size; omega)))
   refine W.efg rfl rfl rfl (rfl) rfl rfl ?_
   refine Ef.call go41 rfl rfl (fcmp_ok w9_15 f24.vec f25.vec (by omega) (by omega) f26.vec f27.vec (by omega) (by omega)) ?_
   rintro _ w12_8 ⟨rfl, h12_8⟩
   refine ⟨_, rfl, ?_⟩
   have L28 := L9.trans h12_8
   refine W.run 1 rfl ?_
   refine W.g (Any.rd (.pickF rfl rfl rfl) _) ?_
   refine W.run 2 rfl (W.nx ?_)
   by_cases c3 : 0 < (cmpF (takF (⟨t1.2.1.n, t1.2.1.d⟩ : Fr)) (takF (⟨b.2.1.n, b.2.1.d⟩ : Fr)))
   ·refine WC.condY rfl (decide_eq_true c3) ?_
    refine WC.draw [0, 1, 2, 3, 4] mixed (by kernel_rfl) ?_
    intro w13 d13
    have L29 := L28.trans d13
    refine G.run 1 rfl ?_
    have f30 := (b9_15.le (h12_8.trans d13))
    refine G.r rfl (.loadAll ag61 (by rfl) rfl f30) ?_
    refine G.run 1 rfl ?_
    have f31 := (f23.le (h12_8.trans d13))
    refine G.ef0 rfl rfl rfl rfl ?_
    refine Ef.storeAll sz61 (by rfl) rfl rfl f31 (by rfl) (by simp [Value.oneCell']) ?_
    intro w13_3_1 b13_3_1 h13_3_1
    refine noT (by kernel_rfl) ?_
    have b13_3_1 : Blk w13_3_1 g4_0 61 #[.slice An9_8 ((digs t1.2.1.n).length) cn9_8, .slice Ad9_8 ((digs t1.2.1.d).length) cd9_8] := b13_3_1
    have L32 := L29.tb h13_3_1 L1 hg4_0
    refine G.run 1 rfl (G.nil (E.blkN (E.blkN (E.thenN (WC.region ?_)))))
    refine W.a (.add rfl rfl (by omega)) ?_
    refine W.run 1 rfl (W.nil ?_)
    have f33 := ((((f0_0.le (h9_8.trans h9_13)).ch h9_15 (fun q hqq hF => by cases hqq; have := f0_0.lt hF; have := h9_8.size; have := hg9_13; omega)).le (h12_8.trans d13)).ch h13_3_1 (fun q hqq hF => by cases hqq; have := hP.lt hF; have := h0_1.size; have := hg4_0; omega))
    have f34 := ((((f0_1.le (h9_8.trans h9_13)).ch h9_15 (fun h => (show g9_13 ≠ g0_1 from by have := f0_1.lt; have := h9_8.size; omega) (Option.some.inj h))).le (h12_8.trans d13)).ch h13_3_1 (fun h => (show g4_0 ≠ g0_1 from by have := b0_1.lt; omega) (Option.some.inj h)))
    have f35 := ((((op9_8.le h9_13).ch h9_15 (fun q hq => by cases hq; exact (fun he => by have := (op9_8.row he).2; omega))).le (h12_8.trans d13)).ch h13_3_1 (fun q hq => by cases hq; exact (fun he => by have := (op9_8.row he).1; have := f0_4.lt; omega)))
    have f36 := ((((pa9_8.le h9_13).chB h9_15 b9_13 (by decide) (by decide)).le (h12_8.trans d13)).chB h13_3_1 f31 (by decide) (by decide))
    have f37 := ((f24.le (h12_8.trans d13)).ch h13_3_1 (fun q hq => by cases hq; exact (fun he => by have := (f24.row he).1; have := f0_4.lt; omega)))
    have f38 := ((f25.le (h12_8.trans d13)).ch h13_3_1 (fun q hq => by cases hq; exact (fun he => by have := (f25.row he).1; have := f0_4.lt; omega)))
    refine E.again (i + 1, t1, Ap9_8, cp9_8, rs9_8, An9_8, cn9_8, Ad9_8, cd9_8) (.cons rfl (.cons rfl (.cons rfl (.cons rfl (.cons rfl (.cons rfl (.cons rfl (.cons rfl (.cons rfl (.cons' rfl (int_eq (Eq.symm (by assumption : t1.2.2 = 0))) (.cons rfl (.cons rfl (.nil _))))))))))))) ?_ ?_
    ·exact ⟨by omega, (by rw [List.range_succ, List.foldl_append, <- hb]; show _ = splS g m fr to a x b i; unfold splS; rw [<- het1]; exact (if_pos ⟨by assumption, by first | exact .inl (hbn (by assumption)) | exact .inr (by assumption)⟩).symm), hz9_8, fun _ hh => absurd (by rw [het1, tryG_bad (.inr (.inr hh))]) (by assumption : ¬ t1.2.2 = 1), hlt1.1, L32, by have := zl0; have := h9_8.size; have := h9_13.size; have := h9_15.size; have := h12_8.size; have := d13.size; have := h13_3_1.size; omega, f33, f34, (f35.mono (by omega)), (f36.mono (by omega)), b13_3_1, (f37.mono (by omega)), (f38.mono (by omega))⟩
    first | omega | (simp only []; omega)
   refine WC.condN rfl (decide_eq_false c3) ?_
   refine WC.skip (E.blkN (E.blkN (E.thenN (WC.region ?_))))
   refine W.a (.add rfl rfl (by omega)) ?_
   refine W.run 1 rfl (W.nil ?_)
   have f39 := (((f0_0.le (h9_8.trans h9_13)).ch h9_15 (fun q hqq hF => by cases hqq; have := f0_0.lt hF; have := h9_8.size; have := hg9_13; omega)).le h12_8)
   have f40 := (((f0_1.le (h9_8.trans h9_13)).ch h9_15 (fun h => (show g9_13 ≠ g0_1 from by have := f0_1.lt; have := h9_8.size; omega) (Option.some.inj h))).le h12_8)
   have f41 := (f10.le h12_8)
   have f42 := (((f0_3.le (h9_8.trans h9_13)).chB h9_15 b9_13 (by decide) (by decide)).le h12_8)
   have f43 := (f23.le h12_8)
   have f44 := (f26.le h12_8)
   have f45 := (f27.le h12_8)
   refine E.again (i + 1, b, Ab, cb, rb, Ax, cx, Ay, cy) (.cons rfl (.cons rfl (.cons rfl (.cons rfl (.cons rfl (.cons rfl (.cons rfl (.cons rfl (.cons rfl (.cons rfl (.cons rfl (.cons rfl (.nil _))))))))))))) ?_ ?_
   ·exact ⟨by omega, (by rw [List.range_succ, List.foldl_append, <- hb]; show _ = splS g m fr to a x b i; unfold splS; rw [<- het1]; exact (if_neg (fun hh => by first | exact absurd hh.1 (by assumption) | exact hh.2.elim (fun h => absurd (by rw [hbe h]; rfl) (by assumption : ¬ Ab.isNone = true)) (fun h => absurd h (by assumption)))).symm), hbe, fun _ hh => absurd (by rw [het1, tryG_bad (.inr (.inr hh))]) (by assumption : ¬ t1.2.2 = 1), hlb, L28, by have := zl0; have := h9_8.size; have := h9_13.size; have := h9_15.size; have := h12_8.size; omega, f39, f40, f41, f42, f43, f44, f45⟩
   first | omega | (simp only []; omega)
  refine W.df q12_2 rfl rfl (W.run 3 rfl ?_)
  refine W.skipu rfl rfl rfl rfl rfl ?_
  refine W.skipu rfl rfl rfl rfl rfl ?_
  refine W.skipu rfl rfl rfl rfl rfl ?_
  refine W.skipu rfl rfl rfl rfl rfl ?_
  refine W.run 3 rfl (W.nx (WC.condF rfl (WC.skip (E.blkN (E.blkN (E.thenN (WC.region ?_)))))))
  refine W.a (.add rfl rfl (by omega)) ?_
  refine W.run 1 rfl (W.nil ?_)
  have f46 := ((f0_0.le (h9_8.trans h9_13)).ch h9_15 (fun q hqq hF => by cases hqq; have := f0_0.lt hF; have := h9_8.size; have := hg9_13; omega))
  have f47 := ((f0_1.le (h9_8.trans h9_13)).ch h9_15 (fun h => (show g9_13 ≠ g0_1 from by have := f0_1.lt; have := h9_8.size; omega) (Option.some.inj h)))
  have f48 := ((f0_3.le (h9_8.trans h9_13)).chB h9_15 b9_13 (by decide) (by decide))
  have f49 := ((f0_4.le (h9_8.trans h9_13)).ch h9_15 (fun h => (show g9_13 ≠ g4_0 from by have := f0_4.lt; have := h9_8.size; omega) (Option.some.inj h)))
  have f50 := ((f0_5.le (h9_8.trans h9_13)).ch h9_15 (fun q hq => by cases hq; exact (fun he => by have := (f0_5.row he).2; have := h9_8.size; omega)))
  have f51 := ((f0_6.le (h9_8.trans h9_13)).ch h9_15 (fun q hq => by cases hq; exact (fun he => by have := (f0_6.row he).2; have := h9_8.size; omega)))
  refine E.again (i + 1, b, Ab, cb, rb, Ax, cx, Ay, cy) (.cons rfl (.cons rfl (.cons rfl (.cons rfl (.cons rfl (.cons rfl (.cons rfl (.cons rfl (.cons rfl (.cons rfl (.cons rfl (.cons rfl (.nil _))))))))))))) ?_ ?_
  ·exact ⟨by omega, (by rw [List.range_succ, List.foldl_append, <- hb]; show _ = splS g m fr to a x b i; unfold splS; rw [<- het1]; exact (if_neg (fun hh => by first | exact absurd hh.1 (by assumption) | exact hh.2.elim (fun h => absurd (by rw [hbe h]; rfl) (by assumption : ¬ Ab.isNone = true)) (fun h => absurd h (by assumption)))).symm), hbe, fun _ hh => absurd (by rw [het1, tryG_bad (.inr (.inr hh))]) (by assumption : ¬ t1.2.2 = 1), hlb, L9, by have := zl0; have := h9_8.size; have := h9_13.size; have := h9_15.size; omega, f46, f47, f10, f48, f49, f50, f51⟩
  first | omega | (simp only []; omega)
 refine WC.condN rfl (decide_eq_false c1) ?_
 refine WC.exit (E.thenX (E.thenX (E.blkH (E.thenN (WC.seq ?_)))))
 refine WC.draw [0, 1, 2, 3, 4, 5] mixed (by kernel_rfl) ?_
 intro w15 d15
 have L52 := Ll0.trans d15
 refine G.run 1 rfl ?_
 have f53 := (f0_4.le d15)
 refine G.r rfl (.loadAll ag61 (by rfl) rfl f53) ?_
 refine G.run 2 rfl ?_
 have f54 := (f0_1.le d15)
 refine G.ef0 rfl rfl rfl rfl ?_
 refine Ef.storeAll sz61 (by rfl) rfl rfl f54 (by rfl) (by simp [Value.oneCell']) ?_
 intro w15_4 b15_4 h15_4
 refine noT (by kernel_rfl) ?_
 have b15_4 : Blk w15_4 g0_1 61 #[.slice Ax ((digs b.2.1.n).length) cx, .slice Ay ((digs b.2.1.d).length) cy] := b15_4
 have L55 := L52.tb h15_4 L0 hg0_1
 refine G.run 1 rfl (G.nil (E.thenN (WC.ret ?_)))
 have f56 := ((f0_3.le d15).chB h15_4 f54 (by decide) (by decide))
 have f57 := ((f0_2.le d15).ch h15_4 (fun q hq => by cases hq; exact (fun he => by have := (f0_2.row he).1; have := f6.lt; omega)))
 have f58 := ((f0_5.le d15).ch h15_4 (fun q hq => by cases hq; exact (fun he => by have := (f0_5.row he).1; have := f6.lt; omega)))
 have f59 := ((f0_6.le d15).ch h15_4 (fun q hq => by cases hq; exact (fun he => by have := (f0_6.row he).1; have := f6.lt; omega)))
 refine E.retG3 rfl rfl (resA rfl b15_4 ag61 (by rfl)) rfl ?_
 have hil : i = n.toNat := (by omega)
 have hsg : splitG g m fr to a x n = b := (by rw [hb, hil]; unfold splitG; rw [if_neg (fun hh => by have := hb1 (by omega); omega)])
 rw [hsg]
 exact ⟨_, _, _, _, _, _, _, rfl, (f57.mono L4.size), (f56.mono L4.size), (f58.mono L4.size), (f59.mono L4.size), hbe, L55⟩

theorem sptotal_ok {A : Option Addr} {n c bs : Nat} {rs : List PaR} {ps : List Prt} (w : World) (hV : Vec w prV 4 A n rs) (hp : PasAt w bs rs ps) (hn : n <= 1000000) (hok : TotOk ps) : Calls prog 42 #[.slice A n c] w fun r w' => r = .returned (.int .i64 (totP ps)) /\ Le w w' := by
 have hl := hV.1
 have hpl := hp.1
 refine enter func42 rfl rfl ?_
 have L0 := Le.refl w
 refine WC.sr (W.run 1 rfl (W.nx (WC.sr (W.run 1 rfl (W.nx (WC.seq (WC.sr (W.run 1 rfl ?_))))))))
 refine W.r (.len underlying31 rfl) ?_
 refine W.run 1 rfl (W.nx (WC.block ?_))
 refine WC.loop (ι := Nat) (fun k => [(3, .int .i64 (totP (ps.take k))), (6, .slice A n c), (7, .int .i64 (((n : Nat) : Int))), (8, .int .i64 (((k : Nat) : Int)))]) (fun k wl0 => (k <= n) /\ Le w wl0 /\ w.heap.size <= wl0.heap.size) (fun k => n - k) 0 ?_ ?_ ?_
 ·exact .cons rfl (.cons rfl (.cons rfl (.cons rfl (.nil _))))
 ·exact ⟨Nat.zero_le _, L0, Nat.le_refl _⟩
 rintro k wl0 ⟨hk, Ll0, zl0⟩
 refine WC.sr (W.run 1 rfl (W.nx (WC.seq ?_)))
 by_cases c0 : ((k : Nat) : Int) < ((n : Nat) : Int)
 ·refine WC.condY rfl (decide_eq_true c0) ?_
  refine WC.sn (WC.seq (WC.block (WC.sr ?_)))
  refine W.a (.idxS (k) underlying31 sz34 rfl rfl (hV.isSome prV_row (by omega)) (rfl) (by omega)) ?_
  refine W.r (.vload ag34 rfl (hV.le Ll0) prV_row (getS rs noPaR (by omega))) ?_
  refine W.ef rfl rfl rfl ?_
  refine Ef.allocA z34 ?_
  intro g4_2 w4_2 hg4_2 b4_2 h4_2
  have L1 := Ll0.trans h4_2
  have b4_2 : Blk w4_2 g4_2 34 (prV noPaR).toArray := b4_2
  refine W.ef0 rfl rfl ?_
  refine Ef.storeAll sz34 (by rfl) rfl rfl b4_2 (by simp only [List.size_toArray, prV_row.len]) (prV_row.one (rs.getD k noPaR)) ?_
  intro w4_3 b4_3 h4_3
  have b4_3 : Blk w4_3 g4_2 34 (prV (rs.getD k noPaR)).toArray := b4_3
  have L2 := L1.tb h4_3 Ll0 hg4_2
  refine W.nx (WC.sr ?_)
  have pk := (hp.le L2).2 k (by omega)
  have pka := pk.amt; have pkw := pk.way.1; have pks := pk.sent.1; have pkt := pk.till.1
  refine W.a (.field0 fa34_2 rfl) ?_
  refine W.r (.loadB (v := .slice ((rs.getD k noPaR).sA) ((rs.getD k noPaR).sN) ((rs.getD k noPaR).sC)) na23 rfl b4_3 rfl) ?_
  refine W.r (.len underlying23 rfl) ?_
  refine W.run 1 rfl (W.nx ?_)
  by_cases c1 : 0 < (((rs.getD k noPaR).sN : Nat) : Int)
  ·refine WC.condY rfl (decide_eq_true c1) ?_
   refine WC.region (W.run 1 rfl ?_)
   refine W.a (.field0 fa34_2 rfl) ?_
   refine W.r (.loadB (v := .slice ((rs.getD k noPaR).sA) ((rs.getD k noPaR).sN) ((rs.getD k noPaR).sC)) na23 rfl b4_3 rfl) ?_
   refine W.a (.idxS (0) underlying23 sz3 rfl rfl (pk.sent.vec.isSome iv_row (by omega)) (rfl) (by omega)) ?_
   refine W.r (.vone (v := .int .i64 ((((ps.getD k noPrt).sent).getD 0 0))) na3 rfl pk.sent.vec iv_row (getS ((ps.getD k noPrt).sent) 0 (by first | omega | (simp only [List.length_cons, List.length_nil]; omega))) rfl) ?_
   have tk := totP_ok hok k; have hp8 := hok.1
   have tk2 := totP_ok hok (k + 1)
   rw [totP_next (by omega)] at tk2
   refine W.a (.add rfl rfl (by omega)) ?_
   refine W.run 1 rfl (W.nil (E.blkN (E.thenN (WC.region ?_))))
   refine W.a (.add rfl rfl (by omega)) ?_
   refine W.run 1 rfl (W.nil ?_)
   refine E.again (k + 1) (.cons' rfl (int_eq (totP_next (by omega)).symm) (.cons rfl (.cons rfl (.cons rfl (.nil _))))) ?_ ?_
   ·exact ⟨by omega, L2, by have := zl0; have := h4_2.size; have := h4_3.size; omega⟩
   first | omega | (simp only []; omega)
  refine WC.condN rfl (decide_eq_false c1) ?_
  refine WC.skip (E.blkN (E.thenN (WC.region ?_)))
  refine W.a (.add rfl rfl (by omega)) ?_
  refine W.run 1 rfl (W.nil ?_)
  refine E.again (k + 1) (.cons' rfl (int_eq (totP_zero (by omega) (by omega))) (.cons rfl (.cons rfl (.cons rfl (.nil _))))) ?_ ?_
  ·exact ⟨by omega, L2, by have := zl0; have := h4_2.size; have := h4_3.size; omega⟩
  first | omega | (simp only []; omega)
 refine WC.condN rfl (decide_eq_false c0) ?_
 refine WC.exit (E.thenX (E.thenX (E.blkH (E.thenN (WC.sr (W.run 2 rfl (W.nx (WC.ret ?_))))))))
 refine E.retG1 rfl rfl ?_
 have hke : k = ps.length := (by omega)
 rw [hke, List.take_length]
 exact ⟨rfl, Ll0⟩
end Go.Proofs.YtocheaahlpiajaaGreatDoor

