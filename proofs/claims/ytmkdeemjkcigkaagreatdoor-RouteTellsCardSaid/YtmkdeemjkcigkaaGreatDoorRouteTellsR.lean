/- RouteTells: for every input the law answers true and leaves its arguments as they were. -/
import Derived.Test.YtmkdeemjkcigkaaGreatDoorRouteTellsQ
import Derived.Laws.Cover3
set_option linter.unusedVariables false
set_option linter.unusedSimpArgs false
namespace Go.Sx
theorem Any.notNil {P : Program} {env : Env} {n : Nat} {d : Option Nat} {T : TypeId} {p : String} {af : Array Edge} {gd : Option (Nat × Bool)} {t e ty : TypeId} {x : Operand} {A : Option Addr} {l c : Nat} (ht : P.underlying t = some (.slice e)) (hx : ev env x = some (.slice A l c)) :
    Any P env n ⟨d, .binOp .neq t x (.const (.slice none 0 0)) ty, T, p, af, gd⟩ (.bool !A.isNone) :=
  .bin hx rfl (fun _ => rfl) fun w => run_neq_slice_nil w t e A l c ht
end Go.Sx
namespace Go.Proofs.YtmkdeemjkcigkaaGreatDoor
open Go Go.Sx Go.Num Go.Gsp Go.Nsp Go.Msp Go.Rtp
set_option maxRecDepth 20000
set_option maxHeartbeats 4000000
def BestC (w : World) (bs gb : Nat) (b : Fnd) (Aw : Option Addr) (cw : Nat) (An : Option Addr) (cn : Nat) (Ad : Option Addr) (cd : Nat) : Prop :=
  Blk w gb 71 #[.slice Aw b.way.length cw, .slice An (digs b.odds.n).length cn, .slice Ad (digs b.odds.d).length cd, .int .i64 b.sent] ∧ OVec w bs 51 edgeV 9 Aw b.way.length cw b.way ∧ OVec w bs 122 dv 1 An (digs b.odds.n).length cn (digs b.odds.n) ∧ OVec w bs 122 dv 1 Ad (digs b.odds.d).length cd (digs b.odds.d) ∧ (b.way = [] → Aw = none) ∧ b.way.length ≤ 8 ∧ (digs b.odds.n).length ≤ 100 ∧ (digs b.odds.d).length ≤ 100
def BestAt (w : World) (bs gb : Nat) (b : Fnd) : Prop := ∃ Aw cw An cn Ad cd, BestC w bs gb b Aw cw An cn Ad cd
structure LookE (w : World) (base gp : Nat) (F : Nat → Prop) (m : MF) (Ag : Option Addr) (ng cg : Nat) (g : List Gsp.Edge) (fr to a x : Int) (b2 b3 b4 gb b6 b7 b8 b9 : Nat) : Prop where
  h2 : Blk w b2 27 #[.pointer (some ⟨gp, 0, none⟩)]
  h3 : Blk w b3 3 #[.int .i64 a]
  h4 : Blk w b4 3 #[.int .i64 x]
  h6 : Blk w b6 3 #[.int .i64 fr]
  h7 : Blk w b7 22 #[.slice Ag ng cg]
  h8 : Blk w b8 3 #[.int .i64 to]
  h9 : Blk w b9 72 #[.func (.func 37) #[] #[.pointer (some ⟨b2, 0, none⟩), .pointer (some ⟨b3, 0, none⟩), .pointer (some ⟨b4, 0, none⟩), .pointer (some ⟨gb, 0, none⟩), .pointer (some ⟨b6, 0, none⟩), .pointer (some ⟨b7, 0, none⟩), .pointer (some ⟨b8, 0, none⟩), .pointer (some ⟨b9, 0, none⟩)]]
  hP : MPool w base gp F m
  hg : Vec w edgeV 9 Ag ng g
  n2 : b2 ≠ gb
  n3 : b3 ≠ gb
  n4 : b4 ≠ gb
  n6 : b6 ≠ gb
  n7 : b7 ≠ gb
  n8 : b8 ≠ gb
  n9 : b9 ≠ gb
  hPg : ∀ k, F k → ¬ k = gb
  hgg : ∀ q, blkOf Ag = some q → 0 < ng → q < w.heap.size → ¬ q = gb
  hng : ng ≤ 1000000
theorem LookE.chP {w w' : World} {base gp : Nat} {F : Nat → Prop} {m : MF} {Ag : Option Addr} {ng cg : Nat} {g : List Gsp.Edge} {fr to a x : Int} {b2 b3 b4 gb b6 b7 b8 b9 : Nat} (h : LookE w base gp F m Ag ng cg g fr to a x b2 b3 b4 gb b6 b7 b8 b9) (hc : ChP w w' (fun k => k = gb)) : LookE w' base gp F m Ag ng cg g fr to a x b2 b3 b4 gb b6 b7 b8 b9 :=
  ⟨h.h2.chP hc h.n2, h.h3.chP hc h.n3, h.h4.chP hc h.n4, h.h6.chP hc h.n6, h.h7.chP hc h.n7, h.h8.chP hc h.n8, h.h9.chP hc h.n9, h.hP.chP hc h.hPg, h.hg.chP hc h.hgg, h.n2, h.n3, h.n4, h.n6, h.n7, h.n8, h.n9, h.hPg, fun q h1 h2 _ => h.hgg q h1 h2 (h.hg.blk_lt edgeV_row h2 h1), h.hng⟩
theorem lookR_cut {g : List Gsp.Edge} {m : MF} {fr to a x : Int} {k : Nat} {way : List Gsp.Edge} {at_ : Int} {b : Fnd} (h : cutR way (oddsR m way a x) b) : lookR g m fr to a x (k + 1) way at_ b = b := by rw [lookR, if_pos h]
theorem lookR_new {g : List Gsp.Edge} {m : MF} {fr to a x : Int} {k : Nat} {way : List Gsp.Edge} {at_ : Int} {b : Fnd} (h : ¬ cutR way (oddsR m way a x) b) (h1 : at_ = fr) (h2 : b.way = [] ∨ betterR (fndR way (oddsR m way a x)) b = true) : lookR g m fr to a x (k + 1) way at_ b = fndR way (oddsR m way a x) := by rw [lookR, if_neg h, if_pos h1, if_pos h2]
theorem lookR_old {g : List Gsp.Edge} {m : MF} {fr to a x : Int} {k : Nat} {way : List Gsp.Edge} {at_ : Int} {b : Fnd} (h : ¬ cutR way (oddsR m way a x) b) (h1 : at_ = fr) (h2 : ¬ (b.way = [] ∨ betterR (fndR way (oddsR m way a x)) b = true)) : lookR g m fr to a x (k + 1) way at_ b = b := by rw [lookR, if_neg h, if_pos h1, if_neg h2]
theorem lookR_end {g : List Gsp.Edge} {m : MF} {fr to a x : Int} {k : Nat} {way : List Gsp.Edge} {at_ : Int} {b : Fnd} (h : ¬ cutR way (oddsR m way a x) b) (h1 : at_ ≠ fr) (h2 : way.length = 8) : lookR g m fr to a x (k + 1) way at_ b = b := by rw [lookR, if_neg h, if_neg h1, if_pos h2]
theorem lookR_go {g : List Gsp.Edge} {m : MF} {fr to a x : Int} {k : Nat} {way : List Gsp.Edge} {at_ : Int} {b : Fnd} (h : ¬ cutR way (oddsR m way a x) b) (h1 : at_ ≠ fr) (h2 : way.length ≠ 8) : lookR g m fr to a x (k + 1) way at_ b = (inG g at_).foldl (stepR (lookR g m fr to a x k) way to) b := by rw [lookR, if_neg h, if_neg h1, if_neg h2]
theorem not_cut1 {way : List Gsp.Edge} {r : Fr × Int × Int} {b : Fnd} {n : Nat} (h : ¬ 0 < ((n : Nat) : Int)) (hl : way.length = n) : ¬ cutR way r b := fun hc => hc.1 (List.eq_nil_of_length_eq_zero (by omega))
theorem not_cut2 {way : List Gsp.Edge} {r : Fr × Int × Int} {b : Fnd} (h1 : ¬ r.2.2 ≠ 0) (h2 : ¬ (((digs r.1.n).length : Nat) : Int) = 0) (h3 : b.way = [] ∨ ¬ cmpF (takF r.1) (takF b.odds) < 0) : ¬ cutR way r b := by
  rintro ⟨_, h | h | h⟩
  · exact h1 h
  · rw [h, digs_zero] at h2; exact h2 rfl
  · rcases h3 with k | k
    · exact h.1 k
    · exact k h.2
theorem cut_of {way : List Gsp.Edge} {r : Fr × Int × Int} {b : Fnd} {n : Nat} (h : 0 < ((n : Nat) : Int)) (hl : way.length = n) (hc : r.2.2 ≠ 0 ∨ (((digs r.1.n).length : Nat) : Int) = 0 ∨ (b.way ≠ [] ∧ cmpF (takF r.1) (takF b.odds) < 0)) : cutR way r b := by
  refine ⟨fun hh => by rw [hh] at hl; simp at hl; omega, ?_⟩
  rcases hc with k | k | k
  · exact .inl k
  · exact .inr (.inl (Nat.eq_zero_of_not_pos fun hp => by have := digs_len_pos hp; omega))
  · exact .inr (.inr k)
theorem fold_next {α : Type} {f : Fnd → α → Fnd} {b : Fnd} {l : List α} {z : α} {k : Nat} (hk : k < l.length) : (l.take (k + 1)).foldl f b = f ((l.take k).foldl f b) (l.getD k z) := by
  rw [List.take_add_one, List.foldl_append]
  simp [List.getD, hk]
theorem seen_ok (y : Gsp.Edge) {ge : Nat} {e : Gsp.Edge} (w : World) (hge : Blk w ge 51 (edgeV e).toArray) : Calls Tryz.prog 41 #[.agg (edgeV y).toArray, .pointer (some ⟨ge, 0, none⟩)] w fun r w' => r = .returned (.bool (decide (y.f = e.f))) ∧ Le w w' := by
 refine enter Tryz.func41 rfl rfl ?_
 have L0 := Le.refl w
 refine WC.sr (W.ef rfl rfl rfl ?_)
 refine Ef.boxA rfl ?_
 intro g0_0 w0_0 hg0_0 b0_0 h0_0
 have L1 := L0.trans h0_0
 have b0_0 : Blk w0_0 g0_0 51 (edgeV y).toArray := b0_0
 refine W.run 1 rfl (W.nx (WC.sr ?_))
 refine W.a (.field0 fa51_0 rfl) ?_
 refine W.r (.loadB (v := .int .i64 (y.f)) na3 rfl b0_0 rfl) ?_
 refine W.a (.field0 fa51_0 rfl) ?_
 refine W.r (.loadB (v := .int .i64 (e.f)) na3 rfl (hge.le L1) rfl) ?_
 refine W.run 2 rfl (W.nx (WC.ret ?_))
 refine E.retG1 rfl rfl ?_
 exact ⟨rB (by simp []), L1⟩

theorem contains_ok {A : Option Addr} {n c : Nat} {xs : List Gsp.Edge} {F : Nat} {caps : Array Value} (pr : Gsp.Edge → Bool) (hgo : IsGo Tryz.prog F) (w : World) (hV : Vec w edgeV 9 A n xs) (hn : n ≤ 1000000) (hf : ∀ (e : Gsp.Edge) (w1 : World), Le w w1 → Calls Tryz.prog F (#[.agg (edgeV e).toArray] ++ caps) w1 fun r w2 => r = .returned (.bool (pr e)) ∧ Le w1 w2) : Calls Tryz.prog 40 #[.slice A n c, .func (.func F) #[] caps] w fun r w' => r = .returned (.bool (xs.any pr)) ∧ Le w w' := by
 refine enter Tryz.func40 rfl rfl ?_
 have L0 := Le.refl w
 refine WC.sr (W.run 1 rfl (W.nx (WC.sr (W.run 2 rfl ?_))))
 refine W.cl go65 rfl rfl (index_ok pr hgo w (hV.le L0) (by omega) (fun e w1 hl => hf e w1 (L0.trans hl))) ?_
 rintro _ w1_2 ⟨rfl, h1_2⟩
 have L1 := L0.trans h1_2
 refine W.run 2 rfl (W.nx (WC.ret ?_))
 refine E.retG1 rfl rfl ?_
 exact ⟨rB (by unfold idxE; cases hx : xs.any pr <;> simp), L1⟩

theorem look_step {bs base gp ng cg b2 b3 b4 gb b6 b7 b8 b9 : Nat} {F : Nat → Prop} {m : MF} {Ag : Option Addr} {g : List Gsp.Edge} {fr to a x : Int} {k : Nat} {A : Option Addr} {n c : Nat} {way : List Gsp.Edge} (at_ : Int) {b : Fnd} {Aw An Ad : Option Addr} {cw cn cd : Nat} (w : World) (hE : LookE w base gp F m Ag ng cg g fr to a x b2 b3 b4 gb b6 b7 b8 b9) (ih : ∀ (way' : List Gsp.Edge) {A' : Option Addr} {n' c' : Nat} (hk1 : 1 ≤ k) (at' : Int) (b' : Fnd) (w1 : World), ChP w w1 (fun k => k = gb) → OVec w1 bs 51 edgeV 9 A' n' c' way' → n' + k = 9 → 1 ≤ n' → rowOf A' c' ≠ some gb → BestAt w1 bs gb b' → Calls Tryz.prog 37 #[.slice A' n' c', .int .i64 at', .pointer (some ⟨b2, 0, none⟩), .pointer (some ⟨b3, 0, none⟩), .pointer (some ⟨b4, 0, none⟩), .pointer (some ⟨gb, 0, none⟩), .pointer (some ⟨b6, 0, none⟩), .pointer (some ⟨b7, 0, none⟩), .pointer (some ⟨b8, 0, none⟩), .pointer (some ⟨b9, 0, none⟩)] w1 fun r w2 => r = .returned (.tuple #[]) ∧ BestAt w2 bs gb (lookR g m fr to a x k way' at' b') ∧ ChP w1 w2 (fun k => k = gb)) (hbs0 : bs ≤ w.heap.size) (hW : OVec w bs 51 edgeV 9 A n c way) (hWg : rowOf A c ≠ some gb) (hnk : n + k = 8) (hB : BestC w bs gb b Aw cw An cn Ad cd) (hWn : n = 0 → A = none) (hfr : n = 0 → at_ ≠ fr) : Calls Tryz.prog 37 #[.slice A n c, .int .i64 (at_), .pointer (some ⟨b2, 0, none⟩), .pointer (some ⟨b3, 0, none⟩), .pointer (some ⟨b4, 0, none⟩), .pointer (some ⟨gb, 0, none⟩), .pointer (some ⟨b6, 0, none⟩), .pointer (some ⟨b7, 0, none⟩), .pointer (some ⟨b8, 0, none⟩), .pointer (some ⟨b9, 0, none⟩)] w fun r w' => r = .returned (.tuple #[]) ∧ BestAt w' bs gb (lookR g m fr to a x (k + 1) way at_ b) ∧ ChP w w' (fun k => k = gb) := by
 obtain ⟨hB0, hBw, hBn, hBd, hBe, hBl, hBm, hBo⟩ := hB
 have hgm := hE.hP.good
 have hol := oddsR_len hgm way a x
 have hwl := hW.vec.1
 have hng := hE.hng
 have hbn : Aw.isNone = true → b.way = [] := fun h => Decidable.byContradiction fun hh => by have := hBw.vec.isSome edgeV_row (List.length_pos_iff.2 hh); revert h this; cases Aw <;> simp
 have hbs : ¬ Aw.isNone = true → b.way ≠ [] := fun h hh => h (by rw [hBe hh]; rfl)
 have hgl := hE.hg.1
 have hfl := List.length_filter_le (fun e => decide (e.t = at_)) g
 refine enter Tryz.func37 rfl rfl ?_
 have L0 := ChP.refl w ((fun k => k = gb))
 refine WC.sr ?_
 refine W.r (.loadB (v := .pointer (some ⟨gp, 0, none⟩)) na27 rfl (hE.h2.chP L0 hE.n2) rfl) ?_
 refine W.run 1 rfl ?_
 refine W.r (.loadB (v := .int .i64 (a)) na3 rfl (hE.h3.chP L0 hE.n3) rfl) ?_
 refine W.r (.loadB (v := .int .i64 (x)) na3 rfl (hE.h4.chP L0 hE.n4) rfl) ?_
 refine W.cl go14 rfl rfl (rodds_ok a x w (hE.hP.chP L0 hE.hPg) hW.vec (by omega)) ?_
 rintro _ w0_4 ⟨An0_4, cn0_4, Ad0_4, cd0_4, rfl, on0_4, od0_4, h0_4⟩
 have L1 := L0.le h0_4
 refine W.run 1 rfl ?_
 refine W.a (.extract (v := .agg #[.slice An0_4 ((digs ((oddsR m way a x).1.n)).length) cn0_4, .slice Ad0_4 ((digs ((oddsR m way a x).1.d)).length) cd0_4]) rfl rfl) ?_
 refine W.run 2 rfl (W.ef rfl rfl rfl ?_)
 refine Ef.allocA z33 ?_
 intro g0_9 w0_9 hg0_9 b0_9 h0_9
 have L2 := L1.le h0_9
 have b0_9 : Blk w0_9 g0_9 33 #[.slice none 0 0, .slice none 0 0] := b0_9
 refine W.ef0 rfl rfl ?_
 refine Ef.storeAll sz33 (by rfl) rfl rfl b0_9 (by rfl) (by simp [Value.oneCell']) ?_
 intro w0_10 b0_10 h0_10
 have b0_10 : Blk w0_10 g0_9 33 #[.slice An0_4 ((digs ((oddsR m way a x).1.n)).length) cn0_4, .slice Ad0_4 ((digs ((oddsR m way a x).1.d)).length) cd0_4] := b0_10
 have L3 : ChP w w0_10 ((fun k => k = gb)) := L2.ch h0_10 (fun i hi hlt => by cases hi; exact absurd hlt (by have := L1.size; have := hg0_9; omega))
 refine W.run 2 rfl (W.nx (WC.seq (WC.sr (W.run 1 rfl ?_))))
 refine W.r (.len Tryz.underlying22 rfl) ?_
 refine W.run 1 rfl ?_
 by_cases q1_3 : 0 < ((n : Nat) : Int)
 ·refine W.dt q1_3 rfl rfl (W.run 2 rfl ?_)
  by_cases q1_6 : ((oddsR m way a x).2.2) ≠ 0
  ·refine W.g (Any.rd (.dec (.move rfl) (decide_eq_true q1_6)) _) ?_
   refine W.run 4 rfl ?_
   refine W.g (Any.rd (.pickT rfl rfl rfl) _) ?_
   refine W.run 5 rfl ?_
   refine W.skipu rfl rfl rfl rfl rfl ?_
   refine W.skipu rfl rfl rfl rfl rfl ?_
   refine W.skipu rfl rfl rfl rfl rfl ?_
   refine W.skipu rfl rfl rfl rfl rfl ?_
   refine W.skipu rfl rfl rfl rfl rfl ?_
   refine W.run 1 rfl ?_
   refine W.g (Any.rd (.pickT rfl rfl rfl) _) ?_
   refine W.run 1 rfl (W.nx (WC.condT rfl (WC.ret (E.thenR ?_))))
   have f4 := ((hB0.le (h0_4.trans h0_9)).ch h0_10 (fun h => (show g0_9 ≠ gb from by have := hB0.lt; have := h0_4.size; omega) (Option.some.inj h)))
   have f5 := ((hBw.le (h0_4.trans h0_9)).ch h0_10 (fun q hq => by cases hq; exact (fun he => by have := (hBw.row he).2; have := h0_4.size; omega)))
   have f6 := ((hBn.le (h0_4.trans h0_9)).ch h0_10 (fun q hq => by cases hq; exact (fun he => by have := (hBn.row he).2; have := h0_4.size; omega)))
   have f7 := ((hBd.le (h0_4.trans h0_9)).ch h0_10 (fun q hq => by cases hq; exact (fun he => by have := (hBd.row he).2; have := h0_4.size; omega)))
   refine E.ret0 rfl ?_
   have hlk : lookR g m fr to a x (k + 1) way at_ b = b := (by first | exact lookR_cut (cut_of q1_3 hwl (.inl q1_6)) | exact lookR_cut (cut_of q1_3 hwl (.inr (.inl q1_12))) | exact lookR_cut (cut_of q1_3 hwl (.inr (.inr ⟨hbs q1_16, c0⟩))) | exact lookR_old (by first | exact not_cut1 q1_3 hwl | exact not_cut2 q1_6 q1_12 (.inl (hbn q1_16)) | exact not_cut2 q1_6 q1_12 (.inr c0)) c1 (fun hh => hh.elim (hbs q1_16) c2) | exact lookR_old (by first | exact not_cut1 q1_3 hwl | exact not_cut2 q1_6 q1_12 (.inl (hbn q1_16)) | exact not_cut2 q1_6 q1_12 (.inr c0)) c1 (fun hh => hh.elim (hbs q4_3) c2) | exact lookR_end (by first | exact not_cut1 q1_3 hwl | exact not_cut2 q1_6 q1_12 (.inl (hbn q1_16)) | exact not_cut2 q1_6 q1_12 (.inr c0)) c1 (by rw [hwl]; omega))
   rw [hlk]
   exact ⟨rfl, ⟨_, _, _, _, _, _, f4, f5, f6, f7, hBe, hBl, hBm, hBo⟩, L3⟩
  refine W.g (Any.rd (.dec (.move rfl) (decide_eq_false q1_6)) _) ?_
  refine W.g (Any.rd (.field0 fa33_0 rfl) _) ?_
  refine W.g (.loadB (v := .slice An0_4 ((digs ((oddsR m way a x).1.n)).length) cn0_4) na31 rfl b0_10 rfl) ?_
  refine W.g (.len Tryz.underlying31 rfl) ?_
  refine W.run 1 rfl ?_
  refine W.g (Any.rd (.pickF rfl rfl rfl) _) ?_
  by_cases q1_12 : (((digs ((oddsR m way a x).1.n)).length : Nat) : Int) = 0
  ·refine W.g (Any.rd (.dec (.move rfl) (decide_eq_true q1_12)) _) ?_
   refine W.run 4 rfl ?_
   refine W.skipu rfl rfl rfl rfl rfl ?_
   refine W.skipu rfl rfl rfl rfl rfl ?_
   refine W.skipu rfl rfl rfl rfl rfl ?_
   refine W.skipu rfl rfl rfl rfl rfl ?_
   refine W.skipu rfl rfl rfl rfl rfl ?_
   refine W.run 1 rfl ?_
   refine W.g (Any.rd (.pickT rfl rfl rfl) _) ?_
   refine W.run 1 rfl (W.nx (WC.condT rfl (WC.ret (E.thenR ?_))))
   have f8 := ((hB0.le (h0_4.trans h0_9)).ch h0_10 (fun h => (show g0_9 ≠ gb from by have := hB0.lt; have := h0_4.size; omega) (Option.some.inj h)))
   have f9 := ((hBw.le (h0_4.trans h0_9)).ch h0_10 (fun q hq => by cases hq; exact (fun he => by have := (hBw.row he).2; have := h0_4.size; omega)))
   have f10 := ((hBn.le (h0_4.trans h0_9)).ch h0_10 (fun q hq => by cases hq; exact (fun he => by have := (hBn.row he).2; have := h0_4.size; omega)))
   have f11 := ((hBd.le (h0_4.trans h0_9)).ch h0_10 (fun q hq => by cases hq; exact (fun he => by have := (hBd.row he).2; have := h0_4.size; omega)))
   refine E.ret0 rfl ?_
   have hlk : lookR g m fr to a x (k + 1) way at_ b = b := (by first | exact lookR_cut (cut_of q1_3 hwl (.inl q1_6)) | exact lookR_cut (cut_of q1_3 hwl (.inr (.inl q1_12))) | exact lookR_cut (cut_of q1_3 hwl (.inr (.inr ⟨hbs q1_16, c0⟩))) | exact lookR_old (by first | exact not_cut1 q1_3 hwl | exact not_cut2 q1_6 q1_12 (.inl (hbn q1_16)) | exact not_cut2 q1_6 q1_12 (.inr c0)) c1 (fun hh => hh.elim (hbs q1_16) c2) | exact lookR_old (by first | exact not_cut1 q1_3 hwl | exact not_cut2 q1_6 q1_12 (.inl (hbn q1_16)) | exact not_cut2 q1_6 q1_12 (.inr c0)) c1 (fun hh => hh.elim (hbs q4_3) c2) | exact lookR_end (by first | exact not_cut1 q1_3 hwl | exact not_cut2 q1_6 q1_12 (.inl (hbn q1_16)) | exact not_cut2 q1_6 q1_12 (.inr c0)) c1 (by rw [hwl]; omega))
   rw [hlk]
   exact ⟨rfl, ⟨_, _, _, _, _, _, f8, f9, f10, f11, hBe, hBl, hBm, hBo⟩, L3⟩
  refine W.g (Any.rd (.dec (.move rfl) (decide_eq_false q1_12)) _) ?_
  refine W.g (Any.rd (.field0 fa71_0 rfl) _) ?_
  have f12 := ((hB0.le (h0_4.trans h0_9)).ch h0_10 (fun h => (show g0_9 ≠ gb from by have := hB0.lt; have := h0_4.size; omega) (Option.some.inj h)))
  refine W.g (.loadB (v := .slice Aw b.way.length cw) na22 rfl f12 rfl) ?_
  refine W.g (Any.rd (.notNil Tryz.underlying22 rfl) _) ?_
  by_cases q1_16 : Aw.isNone = true
  ·refine W.g (Any.rd (.dec (.move rfl) (congrArg not (q1_16))) _) ?_
   refine W.run 5 rfl ?_
   refine W.g (Any.rd (.pickF rfl rfl rfl) _) ?_
   refine W.g (Any.rd (.pickF rfl rfl rfl) _) ?_
   refine W.run 1 rfl (W.nx (WC.condF rfl (WC.sn (WC.seq (WC.sr (W.run 1 rfl ?_))))))
   refine W.r (.loadB (v := .int .i64 (fr)) na3 rfl (hE.h6.chP L3 hE.n6) rfl) ?_
   refine W.run 1 rfl (W.nx ?_)
   by_cases c1 : at_ = fr
   ·refine WC.condY rfl (decide_eq_true c1) ?_
    refine WC.seq (WC.sr (W.run 1 rfl ?_))
    refine W.r (.loadAll ag33 (by rfl) rfl b0_10) ?_
    refine W.run 1 rfl ?_
    refine W.a (.buildP [.slice A n c, .slice An0_4 ((digs ((oddsR m way a x).1.n)).length) cn0_4, .slice Ad0_4 ((digs ((oddsR m way a x).1.d)).length) cd0_4, .int .i64 ((oddsR m way a x).2.1)] pl71 z71 rfl rfl) ?_
    refine W.ef rfl rfl rfl ?_
    refine Ef.allocA z71 ?_
    intro g3_4 w3_4 hg3_4 b3_4 h3_4
    have L13 := L3.le h3_4
    have b3_4 : Blk w3_4 g3_4 71 #[.slice none 0 0, .slice none 0 0, .slice none 0 0, .int .i64 (0)] := b3_4
    refine W.ef0 rfl rfl ?_
    refine Ef.storeAll sz71 (by rfl) rfl rfl b3_4 (by rfl) (by simp [Value.oneCell']) ?_
    intro w3_5 b3_5 h3_5
    have b3_5 : Blk w3_5 g3_4 71 #[.slice A n c, .slice An0_4 ((digs ((oddsR m way a x).1.n)).length) cn0_4, .slice Ad0_4 ((digs ((oddsR m way a x).1.d)).length) cd0_4, .int .i64 ((oddsR m way a x).2.1)] := b3_5
    have L14 : ChP w w3_5 ((fun k => k = gb)) := L13.ch h3_5 (fun i hi hlt => by cases hi; exact absurd hlt (by have := L3.size; have := hg3_4; omega))
    refine W.nx (WC.sr ?_)
    refine W.a (.field0 fa71_0 rfl) ?_
    have f15 := ((f12.le h3_4).ch h3_5 (fun h => (show g3_4 ≠ gb from by have := f12.lt; omega) (Option.some.inj h)))
    refine W.r (.loadB (v := .slice Aw b.way.length cw) na22 rfl f15 rfl) ?_
    refine W.a (.isNil Tryz.underlying22 rfl) ?_
    refine W.a (.dec (.move rfl) (q1_16)) ?_
    refine W.run 4 rfl (W.nx (WC.condT rfl (WC.region ?_)))
    refine W.r (.loadAll ag71 (by rfl) rfl b3_5) ?_
    refine W.ef0 rfl rfl ?_
    refine Ef.storeAll sz71 (by rfl) rfl rfl f15 (by rfl) (by simp [Value.oneCell']) ?_
    intro w5_1 b5_1 h5_1
    have b5_1 : Blk w5_1 gb 71 #[.slice A n c, .slice An0_4 ((digs ((oddsR m way a x).1.n)).length) cn0_4, .slice Ad0_4 ((digs ((oddsR m way a x).1.d)).length) cd0_4, .int .i64 ((oddsR m way a x).2.1)] := b5_1
    have L16 : ChP w w5_1 ((fun k => k = gb)) := L14.ch h5_1 (fun i hi _ => by cases hi; exact rfl)
    refine W.nx (WC.ret (E.thenR ?_))
    have f17 := (((((hW.le (h0_4.trans h0_9)).ch h0_10 (fun q hq => by cases hq; exact (fun he => by have := (hW.row he).2; have := h0_4.size; omega))).le h3_4).ch h3_5 (fun q hq => by cases hq; exact (fun he => by have := (hW.row he).2; have := h0_4.size; have := h0_9.size; have := h0_10.size; omega))).ch h5_1 (fun q hq => by cases hq; exact hWg))
    have f18 := (((((on0_4.le h0_9).ch h0_10 (fun q hq => by cases hq; exact (fun he => by have := (on0_4.row he).2; omega))).le h3_4).ch h3_5 (fun q hq => by cases hq; exact (fun he => by have := (on0_4.row he).2; have := h0_9.size; have := h0_10.size; omega))).ch h5_1 (fun q hq => by cases hq; exact (fun he => by have := (on0_4.row he).1; have := hB0.lt; omega)))
    have f19 := (((((od0_4.le h0_9).ch h0_10 (fun q hq => by cases hq; exact (fun he => by have := (od0_4.row he).2; omega))).le h3_4).ch h3_5 (fun q hq => by cases hq; exact (fun he => by have := (od0_4.row he).2; have := h0_9.size; have := h0_10.size; omega))).ch h5_1 (fun q hq => by cases hq; exact (fun he => by have := (od0_4.row he).1; have := hB0.lt; omega)))
    refine E.ret0 rfl ?_
    have hnc : ¬ cutR way (oddsR m way a x) b := (by first | exact not_cut1 q1_3 hwl | exact not_cut2 q1_6 q1_12 (.inl (hbn q1_16)) | exact not_cut2 q1_6 q1_12 (.inr c0))
    have hwn : way ≠ [] := fun hh => by first | exact absurd ((congrArg List.length hh).symm.trans hwl) (by simp; omega) | exact absurd c1 (hfr (by omega))
    have hlk : lookR g m fr to a x (k + 1) way at_ b = (fndR way (oddsR m way a x)) := lookR_new hnc c1 (by first | exact .inl (hbn q1_16) | exact .inl (hbn q4_3) | exact .inr c2)
    rw [hlk]
    subst hwl
    exact ⟨rfl, ⟨_, _, _, _, _, _, b5_1, f17, (f18.mono hbs0), (f19.mono hbs0), fun h => absurd h hwn, (show way.length ≤ 8 by omega), hol.1, hol.2⟩, L16⟩
   refine WC.condN rfl (decide_eq_false c1) ?_
   refine WC.sn (WC.seq (WC.sr (W.run 1 rfl ?_)))
   refine W.r (.len Tryz.underlying22 rfl) ?_
   refine W.run 1 rfl (W.nx ?_)
   by_cases c3 : ((n : Nat) : Int) = 8
   ·refine WC.condY rfl (decide_eq_true c3) ?_
    refine WC.ret (E.thenR ?_)
    have f20 := ((hBw.le (h0_4.trans h0_9)).ch h0_10 (fun q hq => by cases hq; exact (fun he => by have := (hBw.row he).2; have := h0_4.size; omega)))
    have f21 := ((hBn.le (h0_4.trans h0_9)).ch h0_10 (fun q hq => by cases hq; exact (fun he => by have := (hBn.row he).2; have := h0_4.size; omega)))
    have f22 := ((hBd.le (h0_4.trans h0_9)).ch h0_10 (fun q hq => by cases hq; exact (fun he => by have := (hBd.row he).2; have := h0_4.size; omega)))
    refine E.ret0 rfl ?_
    have hlk : lookR g m fr to a x (k + 1) way at_ b = b := (by first | exact lookR_cut (cut_of q1_3 hwl (.inl q1_6)) | exact lookR_cut (cut_of q1_3 hwl (.inr (.inl q1_12))) | exact lookR_cut (cut_of q1_3 hwl (.inr (.inr ⟨hbs q1_16, c0⟩))) | exact lookR_old (by first | exact not_cut1 q1_3 hwl | exact not_cut2 q1_6 q1_12 (.inl (hbn q1_16)) | exact not_cut2 q1_6 q1_12 (.inr c0)) c1 (fun hh => hh.elim (hbs q1_16) c2) | exact lookR_old (by first | exact not_cut1 q1_3 hwl | exact not_cut2 q1_6 q1_12 (.inl (hbn q1_16)) | exact not_cut2 q1_6 q1_12 (.inr c0)) c1 (fun hh => hh.elim (hbs q4_3) c2) | exact lookR_end (by first | exact not_cut1 q1_3 hwl | exact not_cut2 q1_6 q1_12 (.inl (hbn q1_16)) | exact not_cut2 q1_6 q1_12 (.inr c0)) c1 (by rw [hwl]; omega))
    rw [hlk]
    exact ⟨rfl, ⟨_, _, _, _, _, _, f12, f20, f21, f22, hBe, hBl, hBm, hBo⟩, L3⟩
   refine WC.condN rfl (decide_eq_false c3) ?_
   refine WC.sn (WC.sr ?_)
   refine W.r (.loadB (v := .slice Ag ng cg) na22 rfl (hE.h7.chP L3 hE.n7) rfl) ?_
   refine W.run 1 rfl ?_
   refine W.cl go39 rfl rfl (in_ok at_ w0_10 (hE.hg.chP L3 hE.hgg) (by omega)) ?_
   rintro _ w7_2 ⟨Ao7_2, co7_2, rfl, oo7_2, h7_2⟩
   have L23 := L3.le h7_2
   refine W.r (.len Tryz.underlying22 rfl) ?_
   refine W.run 1 rfl (W.nx (WC.block ?_))
   have f24 := (f12.le h7_2)
   have f25 := (((hBw.le (h0_4.trans h0_9)).ch h0_10 (fun q hq => by cases hq; exact (fun he => by have := (hBw.row he).2; have := h0_4.size; omega))).le h7_2)
   have f26 := (((hBn.le (h0_4.trans h0_9)).ch h0_10 (fun q hq => by cases hq; exact (fun he => by have := (hBn.row he).2; have := h0_4.size; omega))).le h7_2)
   have f27 := (((hBd.le (h0_4.trans h0_9)).ch h0_10 (fun q hq => by cases hq; exact (fun he => by have := (hBd.row he).2; have := h0_4.size; omega))).le h7_2)
   have f28 := (((hW.le (h0_4.trans h0_9)).ch h0_10 (fun q hq => by cases hq; exact (fun he => by have := (hW.row he).2; have := h0_4.size; omega))).le h7_2)
   refine WC.loop (ι := Nat × Fnd × ((Option Addr)) × Nat × ((Option Addr)) × Nat × ((Option Addr)) × Nat) (fun ⟨j, bk, Ax, cx, Ay, cy, Az, cz⟩ => [(0, .slice A n c), (8, .pointer (some ⟨b8, 0, none⟩)), (9, .pointer (some ⟨b9, 0, none⟩)), (73, .slice Ao7_2 ((g.filter (fun e => decide (e.t = at_))).length) co7_2), (74, .int .i64 ((((g.filter (fun e => decide (e.t = at_))).length : Nat) : Int))), (75, .int .i64 (((j : Nat) : Int)))]) (fun ⟨j, bk, Ax, cx, Ay, cy, Az, cz⟩ wl0 => (j ≤ (g.filter (fun e => decide (e.t = at_))).length) ∧ (bk = ((g.filter (fun e => decide (e.t = at_))).take j).foldl (stepR (lookR g m fr to a x k) way to) b) ∧ (bk.way = [] → Ax = none) ∧ (bk.way.length ≤ 8 ∧ (digs bk.odds.n).length ≤ 100 ∧ (digs bk.odds.d).length ≤ 100) ∧ ChP w wl0 ((fun k => k = gb)) ∧ w7_2.heap.size ≤ wl0.heap.size ∧ OVec wl0 bs 51 edgeV 9 A n c way ∧ OVec wl0 w0_10.heap.size 51 edgeV 9 Ao7_2 ((g.filter (fun e => decide (e.t = at_))).length) co7_2 (g.filter (fun e => decide (e.t = at_))) ∧ OVec wl0 bs 51 edgeV 9 Ax bk.way.length cx bk.way ∧ OVec wl0 bs 122 dv 1 Ay ((digs bk.odds.n).length) cy (digs bk.odds.n) ∧ OVec wl0 bs 122 dv 1 Az ((digs bk.odds.d).length) cz (digs bk.odds.d) ∧ Blk wl0 gb 71 #[.slice Ax bk.way.length cx, .slice Ay ((digs bk.odds.n).length) cy, .slice Az ((digs bk.odds.d).length) cz, .int .i64 (bk.sent)]) (fun ⟨j, bk, Ax, cx, Ay, cy, Az, cz⟩ => (g.filter (fun e => decide (e.t = at_))).length - j) (0, b, Aw, cw, An, cn, Ad, cd) ?_ ?_ ?_
   ·exact .cons rfl (.cons rfl (.cons rfl (.cons rfl (.cons rfl (.cons rfl (.nil _))))))
   ·exact ⟨Nat.zero_le _, rfl, hBe, ⟨hBl, hBm, hBo⟩, L23, Nat.le_refl _, f28, oo7_2, f25, f26, f27, f24⟩
   rintro ⟨j, bk, Ax, cx, Ay, cy, Az, cz⟩ wl0 ⟨hj, hbk, hbe, hbl, Ll0, zl0, f0_0, f0_1, f0_2, f0_3, f0_4, f0_5⟩
   have lb0_19 : w0_10.heap.size ≤ wl0.heap.size := by have := h7_2.size; omega
   refine WC.sr (W.run 1 rfl (W.nx (WC.seq ?_)))
   by_cases c4 : ((j : Nat) : Int) < (((g.filter (fun e => decide (e.t = at_))).length : Nat) : Int)
   ·refine WC.condY rfl (decide_eq_true c4) ?_
    refine WC.sn (WC.seq (WC.block (WC.sr ?_)))
    refine W.a (.idxS (j) Tryz.underlying22 sz51 rfl rfl (oo7_2.vec.isSome edgeV_row (by omega)) (rfl) (by omega)) ?_
    refine W.r (.vload ag51 rfl f0_1.vec edgeV_row (getS (g.filter (fun e => decide (e.t = at_))) noEdge (by first | omega | (simp only [List.length_cons, List.length_nil]; omega)))) ?_
    refine W.ef rfl rfl rfl ?_
    refine Ef.allocA z51 ?_
    intro g9_2 w9_2 hg9_2 b9_2 h9_2
    have L29 := Ll0.le h9_2
    have b9_2 : Blk w9_2 g9_2 51 (edgeV noEdge).toArray := b9_2
    refine W.ef0 rfl rfl ?_
    refine Ef.storeAll sz51 (by rfl) rfl rfl b9_2 (by simp only [List.size_toArray, edgeV_row.len]) (edgeV_row.one ((g.filter (fun e => decide (e.t = at_))).getD j noEdge)) ?_
    intro w9_3 b9_3 h9_3
    have b9_3 : Blk w9_3 g9_2 51 (edgeV ((g.filter (fun e => decide (e.t = at_))).getD j noEdge)).toArray := b9_3
    have L30 : ChP w w9_3 ((fun k => k = gb)) := L29.ch h9_3 (fun i hi hlt => by cases hi; exact absurd hlt (by have := Ll0.size; have := hg9_2; omega))
    refine W.nx (WC.seq (WC.sr ?_))
    refine W.a (.field0 fa51_0 rfl) ?_
    refine W.r (.loadB (v := .int .i64 (((g.filter (fun e => decide (e.t = at_))).getD j noEdge).f)) na3 rfl b9_3 rfl) ?_
    refine W.r (.loadB (v := .int .i64 (to)) na3 rfl (hE.h8.chP L30 hE.n8) rfl) ?_
    refine W.run 1 rfl ?_
    by_cases q10_4 : (((g.filter (fun e => decide (e.t = at_))).getD j noEdge).f) = to
    ·refine W.dt q10_4 rfl rfl (W.run 4 rfl (W.nx (WC.condT rfl (WC.exit (E.thenX (E.blkH (E.thenN (WC.region ?_))))))))
     refine W.a (.add rfl rfl (by omega)) ?_
     refine W.run 1 rfl (W.nil ?_)
     have f31 := ((f0_0.le h9_2).ch h9_3 (fun q hq => by cases hq; exact (fun he => by have := (f0_0.row he).2; omega)))
     have f32 := ((f0_1.le h9_2).ch h9_3 (fun q hq => by cases hq; exact (fun he => by have := (f0_1.row he).2; omega)))
     have f33 := ((f0_2.le h9_2).ch h9_3 (fun q hq => by cases hq; exact (fun he => by have := (f0_2.row he).2; omega)))
     have f34 := ((f0_3.le h9_2).ch h9_3 (fun q hq => by cases hq; exact (fun he => by have := (f0_3.row he).2; omega)))
     have f35 := ((f0_4.le h9_2).ch h9_3 (fun q hq => by cases hq; exact (fun he => by have := (f0_4.row he).2; omega)))
     have f36 := ((f0_5.le h9_2).ch h9_3 (fun h => (show g9_2 ≠ gb from by have := f0_5.lt; omega) (Option.some.inj h)))
     refine E.again (j + 1, bk, Ax, cx, Ay, cy, Az, cz) (.cons rfl (.cons rfl (.cons rfl (.cons rfl (.cons rfl (.cons rfl (.nil _))))))) ?_ ?_
     ·exact ⟨by omega, (by rw [fold_next (z := noEdge) (l := (g.filter (fun e => decide (e.t = at_)))) (by omega), ← hbk]; exact (if_pos (by first | (unfold skipR; rw [decide_eq_true q10_4]; exact Bool.true_or _) | (unfold skipR; rw [c5]; exact Bool.or_true _))).symm), hbe, hbl, L30, by have := zl0; have := h9_2.size; have := h9_3.size; omega, f31, f32, f33, f34, f35, f36⟩
     first | omega | (simp only []; omega)
    refine W.df q10_4 rfl rfl (W.run 1 rfl ?_)
    refine W.g (Any.rd (.makeFunc rfl) _) ?_
    have f37 := ((f0_0.le h9_2).ch h9_3 (fun q hq => by cases hq; exact (fun he => by have := (f0_0.row he).2; omega)))
    refine W.efg rfl rfl rfl (rfl) rfl rfl ?_
    refine Ef.call go40 rfl rfl (contains_ok (fun y => decide (y.f = ((g.filter (fun e => decide (e.t = at_))).getD j noEdge).f)) go41 w9_3 f37.vec (by omega) (fun y w1 hl => seen_ok y w1 (b9_3.le hl))) ?_
    rintro _ w10_7 ⟨rfl, h10_7⟩
    refine ⟨_, rfl, ?_⟩
    have L38 := L30.le h10_7
    refine W.run 1 rfl (W.nx ?_)
    by_cases c5 : (way.any (fun y => decide (y.f = ((g.filter (fun e => decide (e.t = at_))).getD j noEdge).f))) = true
    ·refine WC.condY rfl (c5) ?_
     refine WC.exit (E.thenX (E.blkH (E.thenN (WC.region ?_))))
     refine W.a (.add rfl rfl (by omega)) ?_
     refine W.run 1 rfl (W.nil ?_)
     have f39 := (f37.le h10_7)
     have f40 := (((f0_1.le h9_2).ch h9_3 (fun q hq => by cases hq; exact (fun he => by have := (f0_1.row he).2; omega))).le h10_7)
     have f41 := (((f0_2.le h9_2).ch h9_3 (fun q hq => by cases hq; exact (fun he => by have := (f0_2.row he).2; omega))).le h10_7)
     have f42 := (((f0_3.le h9_2).ch h9_3 (fun q hq => by cases hq; exact (fun he => by have := (f0_3.row he).2; omega))).le h10_7)
     have f43 := (((f0_4.le h9_2).ch h9_3 (fun q hq => by cases hq; exact (fun he => by have := (f0_4.row he).2; omega))).le h10_7)
     have f44 := (((f0_5.le h9_2).ch h9_3 (fun h => (show g9_2 ≠ gb from by have := f0_5.lt; omega) (Option.some.inj h))).le h10_7)
     refine E.again (j + 1, bk, Ax, cx, Ay, cy, Az, cz) (.cons rfl (.cons rfl (.cons rfl (.cons rfl (.cons rfl (.cons rfl (.nil _))))))) ?_ ?_
     ·exact ⟨by omega, (by rw [fold_next (z := noEdge) (l := (g.filter (fun e => decide (e.t = at_)))) (by omega), ← hbk]; exact (if_pos (by first | (unfold skipR; rw [decide_eq_true q10_4]; exact Bool.true_or _) | (unfold skipR; rw [c5]; exact Bool.or_true _))).symm), hbe, hbl, L38, by have := zl0; have := h9_2.size; have := h9_3.size; have := h10_7.size; omega, f39, f40, f41, f42, f43, f44⟩
     first | omega | (simp only []; omega)
    refine WC.condN rfl ((Bool.eq_false_iff.2 c5)) ?_
    refine WC.sn ?_
    refine WC.drawR (fun w11 w' => ChP w w' ((fun k => k = gb)) ∧ Blk w' g9_2 51 (edgeV ((g.filter (fun e => decide (e.t = at_))).getD j noEdge)).toArray) [0, 1, 3, 5, 6, 2, 4, 7] mixed (by kernel_rfl) ?_
    intro w11 d11
    have L45 := L38.le d11
    have f46 := (b9_3.le (h10_7.trans d11))
    refine ⟨⟨L45, f46⟩, ?_⟩
    refine GR.rd rfl rfl (fun w' hs => .loadB (v := .func (.func 37) #[] #[.pointer (some ⟨b2, 0, none⟩), .pointer (some ⟨b3, 0, none⟩), .pointer (some ⟨b4, 0, none⟩), .pointer (some ⟨gb, 0, none⟩), .pointer (some ⟨b6, 0, none⟩), .pointer (some ⟨b7, 0, none⟩), .pointer (some ⟨b8, 0, none⟩), .pointer (some ⟨b9, 0, none⟩)]) na72 rfl (hE.h9.chP hs.1 hE.n9) rfl) rfl rfl rfl ?_
    refine GR.rd rfl rfl (fun w' hs => .loadAll ag51 (by rfl) rfl hs.2) rfl rfl rfl ?_
    refine GR.any rfl rfl (.move rfl) rfl rfl rfl ?_
    refine GR.any rfl rfl (.field0 fa51_0 rfl) rfl rfl rfl ?_
    refine GR.rd rfl rfl (fun w' hs => .loadB (v := .int .i64 (((g.filter (fun e => decide (e.t = at_))).getD j noEdge).f)) na3 rfl hs.2 rfl) rfl rfl rfl ?_
    refine GR.ef rfl rfl rfl rfl rfl ?_
    refine Ef.buildSliceV (len := 1) [_] Tryz.underlying22 el51 rfl (by simp [Value.cells, edgeV_row.len]) rfl (by decide) (by decide) ?_
    intro g11_2 w11_2 hg11_2 b11_2 h11_2
    have L47 := L45.le h11_2
    have b11_2 : Blk w11_2 g11_2 51 (([(g.filter (fun e => decide (e.t = at_))).getD j noEdge]).map edgeV).flatten.toArray := b11_2
    have o11_2 : OVec w11_2 w11.heap.size 51 edgeV 9 (some ⟨g11_2, 0, none⟩) 1 1 ([(g.filter (fun e => decide (e.t = at_))).getD j noEdge]) := b11_2.ovec hg11_2 edgeV_row rfl rfl (by decide)
    have f48 := (f46.le h11_2)
    refine ⟨fun _ => ⟨L47, f48⟩, ?_⟩
    have f49 := (f37.le (h10_7.trans (d11.trans h11_2)))
    refine GR.ef rfl rfl rfl rfl rfl ?_
    refine Ef.vcat Tryz.underlying22 el51 Tryz.underlying22 edgeV_row rfl o11_2 rfl f49.vec (by omega) (by unfold maxLen; omega) (by have := h11_2.size; omega) ?_
    intro A11_4 c11_4 w11_4 o11_4 h11_4 at11_4
    have L50 : ChP w w11_4 ((fun k => k = gb)) := L47.ch h11_4 (fun i hi hlt => absurd hlt (by have := (o11_2.row hi).1; have := L45.size; omega))
    have f51 := (f48.ch h11_4 (fun he => by have := (o11_2.row he).1; have := f46.lt; omega))
    refine ⟨fun _ => ⟨L50, f51⟩, ?_⟩
    have f52 := ((((f0_5.le h9_2).ch h9_3 (fun h => (show g9_2 ≠ gb from by have := f0_5.lt; omega) (Option.some.inj h))).le (h10_7.trans (d11.trans h11_2))).ch h11_4 (fun he => by have := (o11_2.row he).1; have := f0_5.lt; have := h9_2.size; have := h9_3.size; have := h10_7.size; have := d11.size; omega))
    have f53 := ((((f0_2.le h9_2).ch h9_3 (fun q hq => by cases hq; exact (fun he => by have := (f0_2.row he).2; omega))).le (h10_7.trans (d11.trans h11_2))).ch h11_4 ((Apart.symm (fun q h1 h2 => by have := (f0_2.row h1).2; have := (o11_2.row h2).1; have := h9_2.size; have := h9_3.size; have := h10_7.size; have := d11.size; omega))))
    have f54 := ((((f0_3.le h9_2).ch h9_3 (fun q hq => by cases hq; exact (fun he => by have := (f0_3.row he).2; omega))).le (h10_7.trans (d11.trans h11_2))).ch h11_4 ((Apart.symm (fun q h1 h2 => by have := (f0_3.row h1).2; have := (o11_2.row h2).1; have := h9_2.size; have := h9_3.size; have := h10_7.size; have := d11.size; omega))))
    have f55 := ((((f0_4.le h9_2).ch h9_3 (fun q hq => by cases hq; exact (fun he => by have := (f0_4.row he).2; omega))).le (h10_7.trans (d11.trans h11_2))).ch h11_4 ((Apart.symm (fun q h1 h2 => by have := (f0_4.row h1).2; have := (o11_2.row h2).1; have := h9_2.size; have := h9_3.size; have := h10_7.size; have := d11.size; omega))))
    have zb11_7 : BestAt w11_4 bs gb bk := ⟨_, _, _, _, _, _, f52, f53, f54, f55, hbe, hbl.1, hbl.2.1, hbl.2.2⟩
    have zi11_7 := ih ([(g.filter (fun e => decide (e.t = at_))).getD j noEdge] ++ way) (by omega) (((g.filter (fun e => decide (e.t = at_))).getD j noEdge).f) bk w11_4 L50 (o11_4.mono (Nat.le_trans hbs0 L45.size))
    have zj11_7 := zi11_7 (by omega) (by omega) (fun he => by have := (o11_4.row he).1; have := f0_5.lt; have := h9_2.size; have := h9_3.size; have := h10_7.size; have := d11.size; omega) zb11_7
    refine GR.ef rfl rfl rfl rfl rfl ?_
    refine Ef.callC go37 rfl rfl rfl (zj11_7) ?_
    rintro _ w11_7 ⟨rfl, ⟨Aw11_7, cw11_7, An11_7, cn11_7, Ad11_7, cd11_7, bp11_7, ow11_7, on11_7, od11_7, he11_7, hl11_7, hm11_7, hd11_7⟩, h11_7⟩
    refine ⟨_, rfl, ?_⟩
    have L56 := L50.sub h11_7 (fun i hi hlt => (by subst hi; exact rfl))
    refine ⟨fun h => absurd h (ne_true_of_eq_false (by kernel_rfl)), ?_⟩
    refine GR.nil ?_
    refine E.blkN (E.thenN (WC.region ?_))
    refine W.a (.add rfl rfl (by omega)) ?_
    refine W.run 1 rfl (W.nil ?_)
    have f57 := ((f49.ch h11_4 ((Apart.symm (fun q h1 h2 => by have := (f37.row h1).2; have := (o11_2.row h2).1; have := h10_7.size; have := d11.size; omega)))).chP h11_7 (fun q hqq hF => (by subst hF; exact hWg hqq)))
    have f58 := (((((f0_1.le h9_2).ch h9_3 (fun q hq => by cases hq; exact (fun he => by have := (f0_1.row he).2; omega))).le (h10_7.trans (d11.trans h11_2))).ch h11_4 ((Apart.symm (fun q h1 h2 => by have := (f0_1.row h1).2; have := (o11_2.row h2).1; have := h9_2.size; have := h9_3.size; have := h10_7.size; have := d11.size; omega)))).chP h11_7 (fun q hqq hF => (by subst hF; exact (fun he => by have := (f0_1.row he).1; have := f12.lt; omega) hqq)))
    refine E.again (j + 1, (lookR g m fr to a x k ([(g.filter (fun e => decide (e.t = at_))).getD j noEdge] ++ way) (((g.filter (fun e => decide (e.t = at_))).getD j noEdge).f) bk), Aw11_7, cw11_7, An11_7, cn11_7, Ad11_7, cd11_7) (.cons rfl (.cons rfl (.cons rfl (.cons rfl (.cons rfl (.cons rfl (.nil _))))))) ?_ ?_
    ·exact ⟨by omega, (by rw [fold_next (z := noEdge) (l := (g.filter (fun e => decide (e.t = at_)))) (by omega), ← hbk]; exact (if_neg (by simp only [skipR, Bool.or_eq_true, decide_eq_true_eq, not_or]; exact ⟨q10_4, c5⟩)).symm), he11_7, ⟨hl11_7, hm11_7, hd11_7⟩, L56, by have := zl0; have := h9_2.size; have := h9_3.size; have := h10_7.size; have := d11.size; have := h11_2.size; have := h11_4.size; have := h11_7.size; omega, f57, f58, ow11_7, on11_7, od11_7, bp11_7⟩
    first | omega | (simp only []; omega)
   refine WC.condN rfl (decide_eq_false c4) ?_
   refine WC.exit (E.thenX (E.thenX (E.blkH (E.end_ ?_))))
   refine E.ret0 rfl ?_
   have hnc : ¬ cutR way (oddsR m way a x) b := (by first | exact not_cut1 q1_3 hwl | exact not_cut2 q1_6 q1_12 (.inl (hbn q1_16)) | exact not_cut2 q1_6 q1_12 (.inr c0))
   have hje : j = (g.filter (fun e => decide (e.t = at_))).length := (by omega)
   have hlk : lookR g m fr to a x (k + 1) way at_ b = bk := (by rw [lookR_go hnc c1 (by rw [hwl]; omega), hbk, hje, List.take_length]; rfl)
   rw [hlk]
   exact ⟨rfl, ⟨_, _, _, _, _, _, f0_5, f0_2, f0_3, f0_4, hbe, hbl.1, hbl.2.1, hbl.2.2⟩, Ll0⟩
  refine W.g (Any.rd (.dec (.move rfl) (congrArg not ((Bool.eq_false_iff.2 q1_16)))) _) ?_
  refine W.g (.loadAll ag33 (by rfl) rfl b0_10) ?_
  refine W.g (Any.rd (.field0 fa71_1 rfl) _) ?_
  refine W.g (.bpart [.slice An ((digs b.odds.n).length) cn, .slice Ad ((digs b.odds.d).length) cd] ag33 rfl (by decide) rfl f12 rfl) ?_
  have f59 := ((on0_4.le h0_9).ch h0_10 (fun q hq => by cases hq; exact (fun he => by have := (on0_4.row he).2; omega)))
  have f60 := ((od0_4.le h0_9).ch h0_10 (fun q hq => by cases hq; exact (fun he => by have := (od0_4.row he).2; omega)))
  have f61 := ((hBn.le (h0_4.trans h0_9)).ch h0_10 (fun q hq => by cases hq; exact (fun he => by have := (hBn.row he).2; have := h0_4.size; omega)))
  have f62 := ((hBd.le (h0_4.trans h0_9)).ch h0_10 (fun q hq => by cases hq; exact (fun he => by have := (hBd.row he).2; have := h0_4.size; omega)))
  refine W.efg rfl rfl rfl (rfl) rfl rfl ?_
  refine Ef.call go22 rfl rfl (fcmp_ok w0_10 f59.vec f60.vec (by omega) (by omega) f61.vec f62.vec (by omega) (by omega)) ?_
  rintro _ w1_20 ⟨rfl, h1_20⟩
  refine ⟨_, rfl, ?_⟩
  have L63 := L3.le h1_20
  refine W.run 1 rfl ?_
  refine W.g (Any.rd (.pickT rfl rfl rfl) _) ?_
  refine W.g (Any.rd (.pickF rfl rfl rfl) _) ?_
  refine W.run 1 rfl (W.nx ?_)
  by_cases c0 : (cmpF (takF (⟨((oddsR m way a x).1.n), ((oddsR m way a x).1.d)⟩ : Fr)) (takF (⟨b.odds.n, b.odds.d⟩ : Fr))) < 0
  ·refine WC.condY rfl (decide_eq_true c0) ?_
   refine WC.ret (E.thenR ?_)
   have f64 := (f12.le h1_20)
   have f65 := (((hBw.le (h0_4.trans h0_9)).ch h0_10 (fun q hq => by cases hq; exact (fun he => by have := (hBw.row he).2; have := h0_4.size; omega))).le h1_20)
   have f66 := (f61.le h1_20)
   have f67 := (f62.le h1_20)
   refine E.ret0 rfl ?_
   have hlk : lookR g m fr to a x (k + 1) way at_ b = b := (by first | exact lookR_cut (cut_of q1_3 hwl (.inl q1_6)) | exact lookR_cut (cut_of q1_3 hwl (.inr (.inl q1_12))) | exact lookR_cut (cut_of q1_3 hwl (.inr (.inr ⟨hbs q1_16, c0⟩))) | exact lookR_old (by first | exact not_cut1 q1_3 hwl | exact not_cut2 q1_6 q1_12 (.inl (hbn q1_16)) | exact not_cut2 q1_6 q1_12 (.inr c0)) c1 (fun hh => hh.elim (hbs q1_16) c2) | exact lookR_old (by first | exact not_cut1 q1_3 hwl | exact not_cut2 q1_6 q1_12 (.inl (hbn q1_16)) | exact not_cut2 q1_6 q1_12 (.inr c0)) c1 (fun hh => hh.elim (hbs q4_3) c2) | exact lookR_end (by first | exact not_cut1 q1_3 hwl | exact not_cut2 q1_6 q1_12 (.inl (hbn q1_16)) | exact not_cut2 q1_6 q1_12 (.inr c0)) c1 (by rw [hwl]; omega))
   rw [hlk]
   exact ⟨rfl, ⟨_, _, _, _, _, _, f64, f65, f66, f67, hBe, hBl, hBm, hBo⟩, L63⟩
  refine WC.condN rfl (decide_eq_false c0) ?_
  refine WC.sn (WC.seq (WC.sr (W.run 1 rfl ?_)))
  refine W.r (.loadB (v := .int .i64 (fr)) na3 rfl (hE.h6.chP L63 hE.n6) rfl) ?_
  refine W.run 1 rfl (W.nx ?_)
  by_cases c1 : at_ = fr
  ·refine WC.condY rfl (decide_eq_true c1) ?_
   refine WC.seq (WC.sr (W.run 1 rfl ?_))
   have f68 := (b0_10.le h1_20)
   refine W.r (.loadAll ag33 (by rfl) rfl f68) ?_
   refine W.run 1 rfl ?_
   refine W.a (.buildP [.slice A n c, .slice An0_4 ((digs ((oddsR m way a x).1.n)).length) cn0_4, .slice Ad0_4 ((digs ((oddsR m way a x).1.d)).length) cd0_4, .int .i64 ((oddsR m way a x).2.1)] pl71 z71 rfl rfl) ?_
   refine W.ef rfl rfl rfl ?_
   refine Ef.allocA z71 ?_
   intro g3_4_1 w3_4_1 hg3_4_1 b3_4_1 h3_4_1
   have L69 := L63.le h3_4_1
   have b3_4_1 : Blk w3_4_1 g3_4_1 71 #[.slice none 0 0, .slice none 0 0, .slice none 0 0, .int .i64 (0)] := b3_4_1
   refine W.ef0 rfl rfl ?_
   refine Ef.storeAll sz71 (by rfl) rfl rfl b3_4_1 (by rfl) (by simp [Value.oneCell']) ?_
   intro w3_5_1 b3_5_1 h3_5_1
   have b3_5_1 : Blk w3_5_1 g3_4_1 71 #[.slice A n c, .slice An0_4 ((digs ((oddsR m way a x).1.n)).length) cn0_4, .slice Ad0_4 ((digs ((oddsR m way a x).1.d)).length) cd0_4, .int .i64 ((oddsR m way a x).2.1)] := b3_5_1
   have L70 : ChP w w3_5_1 ((fun k => k = gb)) := L69.ch h3_5_1 (fun i hi hlt => by cases hi; exact absurd hlt (by have := L63.size; have := hg3_4_1; omega))
   refine W.nx (WC.sr ?_)
   refine W.a (.field0 fa71_0 rfl) ?_
   have f71 := ((f12.le (h1_20.trans h3_4_1)).ch h3_5_1 (fun h => (show g3_4_1 ≠ gb from by have := f12.lt; have := h1_20.size; omega) (Option.some.inj h)))
   refine W.r (.loadB (v := .slice Aw b.way.length cw) na22 rfl f71 rfl) ?_
   refine W.a (.isNil Tryz.underlying22 rfl) ?_
   refine W.a (.dec (.move rfl) ((Bool.eq_false_iff.2 q1_16))) ?_
   refine W.g (.loadAll ag71 (by rfl) rfl b3_5_1) ?_
   refine W.g (.loadAll ag71 (by rfl) rfl f71) ?_
   have f72 := ((((hW.le (h0_4.trans h0_9)).ch h0_10 (fun q hq => by cases hq; exact (fun he => by have := (hW.row he).2; have := h0_4.size; omega))).le (h1_20.trans h3_4_1)).ch h3_5_1 (fun q hq => by cases hq; exact (fun he => by have := (hW.row he).2; have := h0_4.size; have := h0_9.size; have := h0_10.size; have := h1_20.size; omega)))
   have f73 := ((f59.le (h1_20.trans h3_4_1)).ch h3_5_1 (fun q hq => by cases hq; exact (fun he => by have := (f59.row he).2; have := h1_20.size; omega)))
   have f74 := ((f60.le (h1_20.trans h3_4_1)).ch h3_5_1 (fun q hq => by cases hq; exact (fun he => by have := (f60.row he).2; have := h1_20.size; omega)))
   have f75 := ((((hBw.le (h0_4.trans h0_9)).ch h0_10 (fun q hq => by cases hq; exact (fun he => by have := (hBw.row he).2; have := h0_4.size; omega))).le (h1_20.trans h3_4_1)).ch h3_5_1 (fun q hq => by cases hq; exact (fun he => by have := (hBw.row he).2; have := h0_4.size; have := h0_9.size; have := h0_10.size; have := h1_20.size; omega)))
   have f76 := ((f61.le (h1_20.trans h3_4_1)).ch h3_5_1 (fun q hq => by cases hq; exact (fun he => by have := (f61.row he).2; have := h1_20.size; omega)))
   have f77 := ((f62.le (h1_20.trans h3_4_1)).ch h3_5_1 (fun q hq => by cases hq; exact (fun he => by have := (f62.row he).2; have := h1_20.size; omega)))
   refine W.efg rfl rfl rfl (rfl) rfl rfl ?_
   refine Ef.call go38 rfl rfl (better_ok w3_5_1 f72.vec f73.vec f74.vec (by omega) (by omega) (by omega) f75.vec f76.vec f77.vec (by omega) (by omega) (by omega)) ?_
   rintro _ w4_6 ⟨rfl, h4_6⟩
   refine ⟨_, rfl, ?_⟩
   have L78 := L70.le h4_6
   refine W.run 1 rfl (W.nx ?_)
   by_cases c2 : (betterR (⟨way, ⟨((oddsR m way a x).1.n), ((oddsR m way a x).1.d)⟩, (oddsR m way a x).2.1⟩ : Fnd) (⟨b.way, ⟨b.odds.n, b.odds.d⟩, b.sent⟩ : Fnd)) = true
   ·refine WC.condY rfl (c2) ?_
    refine WC.region ?_
    have f79 := (b3_5_1.le h4_6)
    refine W.r (.loadAll ag71 (by rfl) rfl f79) ?_
    have f80 := (f71.le h4_6)
    refine W.ef0 rfl rfl ?_
    refine Ef.storeAll sz71 (by rfl) rfl rfl f80 (by rfl) (by simp [Value.oneCell']) ?_
    intro w5_1_1 b5_1_1 h5_1_1
    have b5_1_1 : Blk w5_1_1 gb 71 #[.slice A n c, .slice An0_4 ((digs ((oddsR m way a x).1.n)).length) cn0_4, .slice Ad0_4 ((digs ((oddsR m way a x).1.d)).length) cd0_4, .int .i64 ((oddsR m way a x).2.1)] := b5_1_1
    have L81 : ChP w w5_1_1 ((fun k => k = gb)) := L78.ch h5_1_1 (fun i hi _ => by cases hi; exact rfl)
    refine W.nx (WC.ret (E.thenR ?_))
    have f82 := ((f72.le h4_6).ch h5_1_1 (fun q hq => by cases hq; exact hWg))
    have f83 := ((f73.le h4_6).ch h5_1_1 (fun q hq => by cases hq; exact (fun he => by have := (f73.row he).1; have := hB0.lt; omega)))
    have f84 := ((f74.le h4_6).ch h5_1_1 (fun q hq => by cases hq; exact (fun he => by have := (f74.row he).1; have := hB0.lt; omega)))
    refine E.ret0 rfl ?_
    have hnc : ¬ cutR way (oddsR m way a x) b := (by first | exact not_cut1 q1_3 hwl | exact not_cut2 q1_6 q1_12 (.inl (hbn q1_16)) | exact not_cut2 q1_6 q1_12 (.inr c0))
    have hwn : way ≠ [] := fun hh => by first | exact absurd ((congrArg List.length hh).symm.trans hwl) (by simp; omega) | exact absurd c1 (hfr (by omega))
    have hlk : lookR g m fr to a x (k + 1) way at_ b = (fndR way (oddsR m way a x)) := lookR_new hnc c1 (by first | exact .inl (hbn q1_16) | exact .inl (hbn q4_3) | exact .inr c2)
    rw [hlk]
    subst hwl
    exact ⟨rfl, ⟨_, _, _, _, _, _, b5_1_1, f82, (f83.mono hbs0), (f84.mono hbs0), fun h => absurd h hwn, (show way.length ≤ 8 by omega), hol.1, hol.2⟩, L81⟩
   refine WC.condN rfl ((Bool.eq_false_iff.2 c2)) ?_
   refine WC.sn (WC.ret (E.thenR ?_))
   have f85 := (f71.le h4_6)
   have f86 := (f75.le h4_6)
   have f87 := (f76.le h4_6)
   have f88 := (f77.le h4_6)
   refine E.ret0 rfl ?_
   have hlk : lookR g m fr to a x (k + 1) way at_ b = b := (by first | exact lookR_cut (cut_of q1_3 hwl (.inl q1_6)) | exact lookR_cut (cut_of q1_3 hwl (.inr (.inl q1_12))) | exact lookR_cut (cut_of q1_3 hwl (.inr (.inr ⟨hbs q1_16, c0⟩))) | exact lookR_old (by first | exact not_cut1 q1_3 hwl | exact not_cut2 q1_6 q1_12 (.inl (hbn q1_16)) | exact not_cut2 q1_6 q1_12 (.inr c0)) c1 (fun hh => hh.elim (hbs q1_16) c2) | exact lookR_old (by first | exact not_cut1 q1_3 hwl | exact not_cut2 q1_6 q1_12 (.inl (hbn q1_16)) | exact not_cut2 q1_6 q1_12 (.inr c0)) c1 (fun hh => hh.elim (hbs q4_3) c2) | exact lookR_end (by first | exact not_cut1 q1_3 hwl | exact not_cut2 q1_6 q1_12 (.inl (hbn q1_16)) | exact not_cut2 q1_6 q1_12 (.inr c0)) c1 (by rw [hwl]; omega))
   rw [hlk]
   exact ⟨rfl, ⟨_, _, _, _, _, _, f85, f86, f87, f88, hBe, hBl, hBm, hBo⟩, L78⟩
  refine WC.condN rfl (decide_eq_false c1) ?_
  refine WC.sn (WC.seq (WC.sr (W.run 1 rfl ?_)))
  refine W.r (.len Tryz.underlying22 rfl) ?_
  refine W.run 1 rfl (W.nx ?_)
  by_cases c3 : ((n : Nat) : Int) = 8
  ·refine WC.condY rfl (decide_eq_true c3) ?_
   refine WC.ret (E.thenR ?_)
   have f89 := (f12.le h1_20)
   have f90 := (((hBw.le (h0_4.trans h0_9)).ch h0_10 (fun q hq => by cases hq; exact (fun he => by have := (hBw.row he).2; have := h0_4.size; omega))).le h1_20)
   have f91 := (f61.le h1_20)
   have f92 := (f62.le h1_20)
   refine E.ret0 rfl ?_
   have hlk : lookR g m fr to a x (k + 1) way at_ b = b := (by first | exact lookR_cut (cut_of q1_3 hwl (.inl q1_6)) | exact lookR_cut (cut_of q1_3 hwl (.inr (.inl q1_12))) | exact lookR_cut (cut_of q1_3 hwl (.inr (.inr ⟨hbs q1_16, c0⟩))) | exact lookR_old (by first | exact not_cut1 q1_3 hwl | exact not_cut2 q1_6 q1_12 (.inl (hbn q1_16)) | exact not_cut2 q1_6 q1_12 (.inr c0)) c1 (fun hh => hh.elim (hbs q1_16) c2) | exact lookR_old (by first | exact not_cut1 q1_3 hwl | exact not_cut2 q1_6 q1_12 (.inl (hbn q1_16)) | exact not_cut2 q1_6 q1_12 (.inr c0)) c1 (fun hh => hh.elim (hbs q4_3) c2) | exact lookR_end (by first | exact not_cut1 q1_3 hwl | exact not_cut2 q1_6 q1_12 (.inl (hbn q1_16)) | exact not_cut2 q1_6 q1_12 (.inr c0)) c1 (by rw [hwl]; omega))
   rw [hlk]
   exact ⟨rfl, ⟨_, _, _, _, _, _, f89, f90, f91, f92, hBe, hBl, hBm, hBo⟩, L63⟩
  refine WC.condN rfl (decide_eq_false c3) ?_
  refine WC.sn (WC.sr ?_)
  refine W.r (.loadB (v := .slice Ag ng cg) na22 rfl (hE.h7.chP L63 hE.n7) rfl) ?_
  refine W.run 1 rfl ?_
  refine W.cl go39 rfl rfl (in_ok at_ w1_20 (hE.hg.chP L63 hE.hgg) (by omega)) ?_
  rintro _ w7_2_1 ⟨Ao7_2_1, co7_2_1, rfl, oo7_2_1, h7_2_1⟩
  have L93 := L63.le h7_2_1
  refine W.r (.len Tryz.underlying22 rfl) ?_
  refine W.run 1 rfl (W.nx (WC.block ?_))
  have f94 := (f12.le (h1_20.trans h7_2_1))
  have f95 := (((hBw.le (h0_4.trans h0_9)).ch h0_10 (fun q hq => by cases hq; exact (fun he => by have := (hBw.row he).2; have := h0_4.size; omega))).le (h1_20.trans h7_2_1))
  have f96 := (f61.le (h1_20.trans h7_2_1))
  have f97 := (f62.le (h1_20.trans h7_2_1))
  have f98 := (((hW.le (h0_4.trans h0_9)).ch h0_10 (fun q hq => by cases hq; exact (fun he => by have := (hW.row he).2; have := h0_4.size; omega))).le (h1_20.trans h7_2_1))
  refine WC.loop (ι := Nat × Fnd × ((Option Addr)) × Nat × ((Option Addr)) × Nat × ((Option Addr)) × Nat) (fun ⟨j, bk, Ax, cx, Ay, cy, Az, cz⟩ => [(0, .slice A n c), (8, .pointer (some ⟨b8, 0, none⟩)), (9, .pointer (some ⟨b9, 0, none⟩)), (73, .slice Ao7_2_1 ((g.filter (fun e => decide (e.t = at_))).length) co7_2_1), (74, .int .i64 ((((g.filter (fun e => decide (e.t = at_))).length : Nat) : Int))), (75, .int .i64 (((j : Nat) : Int)))]) (fun ⟨j, bk, Ax, cx, Ay, cy, Az, cz⟩ wl0 => (j ≤ (g.filter (fun e => decide (e.t = at_))).length) ∧ (bk = ((g.filter (fun e => decide (e.t = at_))).take j).foldl (stepR (lookR g m fr to a x k) way to) b) ∧ (bk.way = [] → Ax = none) ∧ (bk.way.length ≤ 8 ∧ (digs bk.odds.n).length ≤ 100 ∧ (digs bk.odds.d).length ≤ 100) ∧ ChP w wl0 ((fun k => k = gb)) ∧ w7_2_1.heap.size ≤ wl0.heap.size ∧ OVec wl0 bs 51 edgeV 9 A n c way ∧ OVec wl0 w1_20.heap.size 51 edgeV 9 Ao7_2_1 ((g.filter (fun e => decide (e.t = at_))).length) co7_2_1 (g.filter (fun e => decide (e.t = at_))) ∧ OVec wl0 bs 51 edgeV 9 Ax bk.way.length cx bk.way ∧ OVec wl0 bs 122 dv 1 Ay ((digs bk.odds.n).length) cy (digs bk.odds.n) ∧ OVec wl0 bs 122 dv 1 Az ((digs bk.odds.d).length) cz (digs bk.odds.d) ∧ Blk wl0 gb 71 #[.slice Ax bk.way.length cx, .slice Ay ((digs bk.odds.n).length) cy, .slice Az ((digs bk.odds.d).length) cz, .int .i64 (bk.sent)]) (fun ⟨j, bk, Ax, cx, Ay, cy, Az, cz⟩ => (g.filter (fun e => decide (e.t = at_))).length - j) (0, b, Aw, cw, An, cn, Ad, cd) ?_ ?_ ?_
  ·exact .cons rfl (.cons rfl (.cons rfl (.cons rfl (.cons rfl (.cons rfl (.nil _))))))
  ·exact ⟨Nat.zero_le _, rfl, hBe, ⟨hBl, hBm, hBo⟩, L93, Nat.le_refl _, f98, oo7_2_1, f95, f96, f97, f94⟩
  rintro ⟨j, bk, Ax, cx, Ay, cy, Az, cz⟩ wl0 ⟨hj, hbk, hbe, hbl, Ll0, zl0, f0_0, f0_1, f0_2, f0_3, f0_4, f0_5⟩
  have lb0_27 : w1_20.heap.size ≤ wl0.heap.size := by have := h7_2_1.size; omega
  refine WC.sr (W.run 1 rfl (W.nx (WC.seq ?_)))
  by_cases c4 : ((j : Nat) : Int) < (((g.filter (fun e => decide (e.t = at_))).length : Nat) : Int)
  ·refine WC.condY rfl (decide_eq_true c4) ?_
   refine WC.sn (WC.seq (WC.block (WC.sr ?_)))
   refine W.a (.idxS (j) Tryz.underlying22 sz51 rfl rfl (oo7_2_1.vec.isSome edgeV_row (by omega)) (rfl) (by omega)) ?_
   refine W.r (.vload ag51 rfl f0_1.vec edgeV_row (getS (g.filter (fun e => decide (e.t = at_))) noEdge (by first | omega | (simp only [List.length_cons, List.length_nil]; omega)))) ?_
   refine W.ef rfl rfl rfl ?_
   refine Ef.allocA z51 ?_
   intro g9_2_1 w9_2_1 hg9_2_1 b9_2_1 h9_2_1
   have L99 := Ll0.le h9_2_1
   have b9_2_1 : Blk w9_2_1 g9_2_1 51 (edgeV noEdge).toArray := b9_2_1
   refine W.ef0 rfl rfl ?_
   refine Ef.storeAll sz51 (by rfl) rfl rfl b9_2_1 (by simp only [List.size_toArray, edgeV_row.len]) (edgeV_row.one ((g.filter (fun e => decide (e.t = at_))).getD j noEdge)) ?_
   intro w9_3_1 b9_3_1 h9_3_1
   have b9_3_1 : Blk w9_3_1 g9_2_1 51 (edgeV ((g.filter (fun e => decide (e.t = at_))).getD j noEdge)).toArray := b9_3_1
   have L100 : ChP w w9_3_1 ((fun k => k = gb)) := L99.ch h9_3_1 (fun i hi hlt => by cases hi; exact absurd hlt (by have := Ll0.size; have := hg9_2_1; omega))
   refine W.nx (WC.seq (WC.sr ?_))
   refine W.a (.field0 fa51_0 rfl) ?_
   refine W.r (.loadB (v := .int .i64 (((g.filter (fun e => decide (e.t = at_))).getD j noEdge).f)) na3 rfl b9_3_1 rfl) ?_
   refine W.r (.loadB (v := .int .i64 (to)) na3 rfl (hE.h8.chP L100 hE.n8) rfl) ?_
   refine W.run 1 rfl ?_
   by_cases q10_4 : (((g.filter (fun e => decide (e.t = at_))).getD j noEdge).f) = to
   ·refine W.dt q10_4 rfl rfl (W.run 4 rfl (W.nx (WC.condT rfl (WC.exit (E.thenX (E.blkH (E.thenN (WC.region ?_))))))))
    refine W.a (.add rfl rfl (by omega)) ?_
    refine W.run 1 rfl (W.nil ?_)
    have f101 := ((f0_0.le h9_2_1).ch h9_3_1 (fun q hq => by cases hq; exact (fun he => by have := (f0_0.row he).2; omega)))
    have f102 := ((f0_1.le h9_2_1).ch h9_3_1 (fun q hq => by cases hq; exact (fun he => by have := (f0_1.row he).2; omega)))
    have f103 := ((f0_2.le h9_2_1).ch h9_3_1 (fun q hq => by cases hq; exact (fun he => by have := (f0_2.row he).2; omega)))
    have f104 := ((f0_3.le h9_2_1).ch h9_3_1 (fun q hq => by cases hq; exact (fun he => by have := (f0_3.row he).2; omega)))
    have f105 := ((f0_4.le h9_2_1).ch h9_3_1 (fun q hq => by cases hq; exact (fun he => by have := (f0_4.row he).2; omega)))
    have f106 := ((f0_5.le h9_2_1).ch h9_3_1 (fun h => (show g9_2_1 ≠ gb from by have := f0_5.lt; omega) (Option.some.inj h)))
    refine E.again (j + 1, bk, Ax, cx, Ay, cy, Az, cz) (.cons rfl (.cons rfl (.cons rfl (.cons rfl (.cons rfl (.cons rfl (.nil _))))))) ?_ ?_
    ·exact ⟨by omega, (by rw [fold_next (z := noEdge) (l := (g.filter (fun e => decide (e.t = at_)))) (by omega), ← hbk]; exact (if_pos (by first | (unfold skipR; rw [decide_eq_true q10_4]; exact Bool.true_or _) | (unfold skipR; rw [c5]; exact Bool.or_true _))).symm), hbe, hbl, L100, by have := zl0; have := h9_2_1.size; have := h9_3_1.size; omega, f101, f102, f103, f104, f105, f106⟩
    first | omega | (simp only []; omega)
   refine W.df q10_4 rfl rfl (W.run 1 rfl ?_)
   refine W.g (Any.rd (.makeFunc rfl) _) ?_
   have f107 := ((f0_0.le h9_2_1).ch h9_3_1 (fun q hq => by cases hq; exact (fun he => by have := (f0_0.row he).2; omega)))
   refine W.efg rfl rfl rfl (rfl) rfl rfl ?_
   refine Ef.call go40 rfl rfl (contains_ok (fun y => decide (y.f = ((g.filter (fun e => decide (e.t = at_))).getD j noEdge).f)) go41 w9_3_1 f107.vec (by omega) (fun y w1 hl => seen_ok y w1 (b9_3_1.le hl))) ?_
   rintro _ w10_7_1 ⟨rfl, h10_7_1⟩
   refine ⟨_, rfl, ?_⟩
   have L108 := L100.le h10_7_1
   refine W.run 1 rfl (W.nx ?_)
   by_cases c5 : (way.any (fun y => decide (y.f = ((g.filter (fun e => decide (e.t = at_))).getD j noEdge).f))) = true
   ·refine WC.condY rfl (c5) ?_
    refine WC.exit (E.thenX (E.blkH (E.thenN (WC.region ?_))))
    refine W.a (.add rfl rfl (by omega)) ?_
    refine W.run 1 rfl (W.nil ?_)
    have f109 := (f107.le h10_7_1)
    have f110 := (((f0_1.le h9_2_1).ch h9_3_1 (fun q hq => by cases hq; exact (fun he => by have := (f0_1.row he).2; omega))).le h10_7_1)
    have f111 := (((f0_2.le h9_2_1).ch h9_3_1 (fun q hq => by cases hq; exact (fun he => by have := (f0_2.row he).2; omega))).le h10_7_1)
    have f112 := (((f0_3.le h9_2_1).ch h9_3_1 (fun q hq => by cases hq; exact (fun he => by have := (f0_3.row he).2; omega))).le h10_7_1)
    have f113 := (((f0_4.le h9_2_1).ch h9_3_1 (fun q hq => by cases hq; exact (fun he => by have := (f0_4.row he).2; omega))).le h10_7_1)
    have f114 := (((f0_5.le h9_2_1).ch h9_3_1 (fun h => (show g9_2_1 ≠ gb from by have := f0_5.lt; omega) (Option.some.inj h))).le h10_7_1)
    refine E.again (j + 1, bk, Ax, cx, Ay, cy, Az, cz) (.cons rfl (.cons rfl (.cons rfl (.cons rfl (.cons rfl (.cons rfl (.nil _))))))) ?_ ?_
    ·exact ⟨by omega, (by rw [fold_next (z := noEdge) (l := (g.filter (fun e => decide (e.t = at_)))) (by omega), ← hbk]; exact (if_pos (by first | (unfold skipR; rw [decide_eq_true q10_4]; exact Bool.true_or _) | (unfold skipR; rw [c5]; exact Bool.or_true _))).symm), hbe, hbl, L108, by have := zl0; have := h9_2_1.size; have := h9_3_1.size; have := h10_7_1.size; omega, f109, f110, f111, f112, f113, f114⟩
    first | omega | (simp only []; omega)
   refine WC.condN rfl ((Bool.eq_false_iff.2 c5)) ?_
   refine WC.sn ?_
   refine WC.drawR (fun w11 w' => ChP w w' ((fun k => k = gb)) ∧ Blk w' g9_2_1 51 (edgeV ((g.filter (fun e => decide (e.t = at_))).getD j noEdge)).toArray) [0, 1, 3, 5, 6, 2, 4, 7] mixed (by kernel_rfl) ?_
   intro w11 d11
   have L115 := L108.le d11
   have f116 := (b9_3_1.le (h10_7_1.trans d11))
   refine ⟨⟨L115, f116⟩, ?_⟩
   refine GR.rd rfl rfl (fun w' hs => .loadB (v := .func (.func 37) #[] #[.pointer (some ⟨b2, 0, none⟩), .pointer (some ⟨b3, 0, none⟩), .pointer (some ⟨b4, 0, none⟩), .pointer (some ⟨gb, 0, none⟩), .pointer (some ⟨b6, 0, none⟩), .pointer (some ⟨b7, 0, none⟩), .pointer (some ⟨b8, 0, none⟩), .pointer (some ⟨b9, 0, none⟩)]) na72 rfl (hE.h9.chP hs.1 hE.n9) rfl) rfl rfl rfl ?_
   refine GR.rd rfl rfl (fun w' hs => .loadAll ag51 (by rfl) rfl hs.2) rfl rfl rfl ?_
   refine GR.any rfl rfl (.move rfl) rfl rfl rfl ?_
   refine GR.any rfl rfl (.field0 fa51_0 rfl) rfl rfl rfl ?_
   refine GR.rd rfl rfl (fun w' hs => .loadB (v := .int .i64 (((g.filter (fun e => decide (e.t = at_))).getD j noEdge).f)) na3 rfl hs.2 rfl) rfl rfl rfl ?_
   refine GR.ef rfl rfl rfl rfl rfl ?_
   refine Ef.buildSliceV (len := 1) [_] Tryz.underlying22 el51 rfl (by simp [Value.cells, edgeV_row.len]) rfl (by decide) (by decide) ?_
   intro g11_2_1 w11_2_1 hg11_2_1 b11_2_1 h11_2_1
   have L117 := L115.le h11_2_1
   have b11_2_1 : Blk w11_2_1 g11_2_1 51 (([(g.filter (fun e => decide (e.t = at_))).getD j noEdge]).map edgeV).flatten.toArray := b11_2_1
   have o11_2_1 : OVec w11_2_1 w11.heap.size 51 edgeV 9 (some ⟨g11_2_1, 0, none⟩) 1 1 ([(g.filter (fun e => decide (e.t = at_))).getD j noEdge]) := b11_2_1.ovec hg11_2_1 edgeV_row rfl rfl (by decide)
   have f118 := (f116.le h11_2_1)
   refine ⟨fun _ => ⟨L117, f118⟩, ?_⟩
   have f119 := (f107.le (h10_7_1.trans (d11.trans h11_2_1)))
   refine GR.ef rfl rfl rfl rfl rfl ?_
   refine Ef.vcat Tryz.underlying22 el51 Tryz.underlying22 edgeV_row rfl o11_2_1 rfl f119.vec (by omega) (by unfold maxLen; omega) (by have := h11_2_1.size; omega) ?_
   intro A11_4_1 c11_4_1 w11_4_1 o11_4_1 h11_4_1 at11_4_1
   have L120 : ChP w w11_4_1 ((fun k => k = gb)) := L117.ch h11_4_1 (fun i hi hlt => absurd hlt (by have := (o11_2_1.row hi).1; have := L115.size; omega))
   have f121 := (f118.ch h11_4_1 (fun he => by have := (o11_2_1.row he).1; have := f116.lt; omega))
   refine ⟨fun _ => ⟨L120, f121⟩, ?_⟩
   have f122 := ((((f0_5.le h9_2_1).ch h9_3_1 (fun h => (show g9_2_1 ≠ gb from by have := f0_5.lt; omega) (Option.some.inj h))).le (h10_7_1.trans (d11.trans h11_2_1))).ch h11_4_1 (fun he => by have := (o11_2_1.row he).1; have := f0_5.lt; have := h9_2_1.size; have := h9_3_1.size; have := h10_7_1.size; have := d11.size; omega))
   have f123 := ((((f0_2.le h9_2_1).ch h9_3_1 (fun q hq => by cases hq; exact (fun he => by have := (f0_2.row he).2; omega))).le (h10_7_1.trans (d11.trans h11_2_1))).ch h11_4_1 ((Apart.symm (fun q h1 h2 => by have := (f0_2.row h1).2; have := (o11_2_1.row h2).1; have := h9_2_1.size; have := h9_3_1.size; have := h10_7_1.size; have := d11.size; omega))))
   have f124 := ((((f0_3.le h9_2_1).ch h9_3_1 (fun q hq => by cases hq; exact (fun he => by have := (f0_3.row he).2; omega))).le (h10_7_1.trans (d11.trans h11_2_1))).ch h11_4_1 ((Apart.symm (fun q h1 h2 => by have := (f0_3.row h1).2; have := (o11_2_1.row h2).1; have := h9_2_1.size; have := h9_3_1.size; have := h10_7_1.size; have := d11.size; omega))))
   have f125 := ((((f0_4.le h9_2_1).ch h9_3_1 (fun q hq => by cases hq; exact (fun he => by have := (f0_4.row he).2; omega))).le (h10_7_1.trans (d11.trans h11_2_1))).ch h11_4_1 ((Apart.symm (fun q h1 h2 => by have := (f0_4.row h1).2; have := (o11_2_1.row h2).1; have := h9_2_1.size; have := h9_3_1.size; have := h10_7_1.size; have := d11.size; omega))))
   have zb11_7_1 : BestAt w11_4_1 bs gb bk := ⟨_, _, _, _, _, _, f122, f123, f124, f125, hbe, hbl.1, hbl.2.1, hbl.2.2⟩
   have zi11_7_1 := ih ([(g.filter (fun e => decide (e.t = at_))).getD j noEdge] ++ way) (by omega) (((g.filter (fun e => decide (e.t = at_))).getD j noEdge).f) bk w11_4_1 L120 (o11_4_1.mono (Nat.le_trans hbs0 L115.size))
   have zj11_7_1 := zi11_7_1 (by omega) (by omega) (fun he => by have := (o11_4_1.row he).1; have := f0_5.lt; have := h9_2_1.size; have := h9_3_1.size; have := h10_7_1.size; have := d11.size; omega) zb11_7_1
   refine GR.ef rfl rfl rfl rfl rfl ?_
   refine Ef.callC go37 rfl rfl rfl (zj11_7_1) ?_
   rintro _ w11_7_1 ⟨rfl, ⟨Aw11_7_1, cw11_7_1, An11_7_1, cn11_7_1, Ad11_7_1, cd11_7_1, bp11_7_1, ow11_7_1, on11_7_1, od11_7_1, he11_7_1, hl11_7_1, hm11_7_1, hd11_7_1⟩, h11_7_1⟩
   refine ⟨_, rfl, ?_⟩
   have L126 := L120.sub h11_7_1 (fun i hi hlt => (by subst hi; exact rfl))
   refine ⟨fun h => absurd h (ne_true_of_eq_false (by kernel_rfl)), ?_⟩
   refine GR.nil ?_
   refine E.blkN (E.thenN (WC.region ?_))
   refine W.a (.add rfl rfl (by omega)) ?_
   refine W.run 1 rfl (W.nil ?_)
   have f127 := ((f119.ch h11_4_1 ((Apart.symm (fun q h1 h2 => by have := (f107.row h1).2; have := (o11_2_1.row h2).1; have := h10_7_1.size; have := d11.size; omega)))).chP h11_7_1 (fun q hqq hF => (by subst hF; exact hWg hqq)))
   have f128 := (((((f0_1.le h9_2_1).ch h9_3_1 (fun q hq => by cases hq; exact (fun he => by have := (f0_1.row he).2; omega))).le (h10_7_1.trans (d11.trans h11_2_1))).ch h11_4_1 ((Apart.symm (fun q h1 h2 => by have := (f0_1.row h1).2; have := (o11_2_1.row h2).1; have := h9_2_1.size; have := h9_3_1.size; have := h10_7_1.size; have := d11.size; omega)))).chP h11_7_1 (fun q hqq hF => (by subst hF; exact (fun he => by have := (f0_1.row he).1; have := f12.lt; have := h1_20.size; omega) hqq)))
   refine E.again (j + 1, (lookR g m fr to a x k ([(g.filter (fun e => decide (e.t = at_))).getD j noEdge] ++ way) (((g.filter (fun e => decide (e.t = at_))).getD j noEdge).f) bk), Aw11_7_1, cw11_7_1, An11_7_1, cn11_7_1, Ad11_7_1, cd11_7_1) (.cons rfl (.cons rfl (.cons rfl (.cons rfl (.cons rfl (.cons rfl (.nil _))))))) ?_ ?_
   ·exact ⟨by omega, (by rw [fold_next (z := noEdge) (l := (g.filter (fun e => decide (e.t = at_)))) (by omega), ← hbk]; exact (if_neg (by simp only [skipR, Bool.or_eq_true, decide_eq_true_eq, not_or]; exact ⟨q10_4, c5⟩)).symm), he11_7_1, ⟨hl11_7_1, hm11_7_1, hd11_7_1⟩, L126, by have := zl0; have := h9_2_1.size; have := h9_3_1.size; have := h10_7_1.size; have := d11.size; have := h11_2_1.size; have := h11_4_1.size; have := h11_7_1.size; omega, f127, f128, ow11_7_1, on11_7_1, od11_7_1, bp11_7_1⟩
   first | omega | (simp only []; omega)
  refine WC.condN rfl (decide_eq_false c4) ?_
  refine WC.exit (E.thenX (E.thenX (E.blkH (E.end_ ?_))))
  refine E.ret0 rfl ?_
  have hnc : ¬ cutR way (oddsR m way a x) b := (by first | exact not_cut1 q1_3 hwl | exact not_cut2 q1_6 q1_12 (.inl (hbn q1_16)) | exact not_cut2 q1_6 q1_12 (.inr c0))
  have hje : j = (g.filter (fun e => decide (e.t = at_))).length := (by omega)
  have hlk : lookR g m fr to a x (k + 1) way at_ b = bk := (by rw [lookR_go hnc c1 (by rw [hwl]; omega), hbk, hje, List.take_length]; rfl)
  rw [hlk]
  exact ⟨rfl, ⟨_, _, _, _, _, _, f0_5, f0_2, f0_3, f0_4, hbe, hbl.1, hbl.2.1, hbl.2.2⟩, Ll0⟩
 refine W.df q1_3 rfl rfl (W.run 3 rfl ?_)
 refine W.skipu rfl rfl rfl rfl rfl ?_
 refine W.skipu rfl rfl rfl rfl rfl ?_
 refine W.skipu rfl rfl rfl rfl rfl ?_
 refine W.skipu rfl rfl rfl rfl rfl ?_
 refine W.run 2 rfl ?_
 refine W.skipu rfl rfl rfl rfl rfl ?_
 refine W.skipu rfl rfl rfl rfl rfl ?_
 refine W.skipu rfl rfl rfl rfl rfl ?_
 refine W.skipu rfl rfl rfl rfl rfl ?_
 refine W.skipu rfl rfl rfl rfl rfl ?_
 refine W.skipu rfl rfl rfl rfl rfl ?_
 refine W.skipu rfl rfl rfl rfl rfl ?_
 refine W.skipu rfl rfl rfl rfl rfl ?_
 refine W.skipu rfl rfl rfl rfl rfl ?_
 refine W.skipu rfl rfl rfl rfl rfl ?_
 refine W.run 2 rfl (W.nx (WC.condF rfl (WC.sn (WC.seq (WC.sr (W.run 1 rfl ?_))))))
 refine W.r (.loadB (v := .int .i64 (fr)) na3 rfl (hE.h6.chP L3 hE.n6) rfl) ?_
 refine W.run 1 rfl (W.nx ?_)
 by_cases c1 : at_ = fr
 ·refine WC.condY rfl (decide_eq_true c1) ?_
  refine WC.seq (WC.sr (W.run 1 rfl ?_))
  refine W.r (.loadAll ag33 (by rfl) rfl b0_10) ?_
  refine W.run 1 rfl ?_
  refine W.a (.buildP [.slice A n c, .slice An0_4 ((digs ((oddsR m way a x).1.n)).length) cn0_4, .slice Ad0_4 ((digs ((oddsR m way a x).1.d)).length) cd0_4, .int .i64 ((oddsR m way a x).2.1)] pl71 z71 rfl rfl) ?_
  refine W.ef rfl rfl rfl ?_
  refine Ef.allocA z71 ?_
  intro g3_4_2 w3_4_2 hg3_4_2 b3_4_2 h3_4_2
  have L129 := L3.le h3_4_2
  have b3_4_2 : Blk w3_4_2 g3_4_2 71 #[.slice none 0 0, .slice none 0 0, .slice none 0 0, .int .i64 (0)] := b3_4_2
  refine W.ef0 rfl rfl ?_
  refine Ef.storeAll sz71 (by rfl) rfl rfl b3_4_2 (by rfl) (by simp [Value.oneCell']) ?_
  intro w3_5_2 b3_5_2 h3_5_2
  have b3_5_2 : Blk w3_5_2 g3_4_2 71 #[.slice A n c, .slice An0_4 ((digs ((oddsR m way a x).1.n)).length) cn0_4, .slice Ad0_4 ((digs ((oddsR m way a x).1.d)).length) cd0_4, .int .i64 ((oddsR m way a x).2.1)] := b3_5_2
  have L130 : ChP w w3_5_2 ((fun k => k = gb)) := L129.ch h3_5_2 (fun i hi hlt => by cases hi; exact absurd hlt (by have := L3.size; have := hg3_4_2; omega))
  refine W.nx (WC.sr ?_)
  refine W.a (.field0 fa71_0 rfl) ?_
  have f131 := ((((hB0.le (h0_4.trans h0_9)).ch h0_10 (fun h => (show g0_9 ≠ gb from by have := hB0.lt; have := h0_4.size; omega) (Option.some.inj h))).le h3_4_2).ch h3_5_2 (fun h => (show g3_4_2 ≠ gb from by have := hB0.lt; have := h0_4.size; have := h0_9.size; have := h0_10.size; omega) (Option.some.inj h)))
  refine W.r (.loadB (v := .slice Aw b.way.length cw) na22 rfl f131 rfl) ?_
  refine W.a (.isNil Tryz.underlying22 rfl) ?_
  by_cases q4_3 : Aw.isNone = true
  ·refine W.a (.dec (.move rfl) (q4_3)) ?_
   refine W.run 4 rfl (W.nx (WC.condT rfl (WC.region ?_)))
   refine W.r (.loadAll ag71 (by rfl) rfl b3_5_2) ?_
   refine W.ef0 rfl rfl ?_
   refine Ef.storeAll sz71 (by rfl) rfl rfl f131 (by rfl) (by simp [Value.oneCell']) ?_
   intro w5_1_2 b5_1_2 h5_1_2
   have b5_1_2 : Blk w5_1_2 gb 71 #[.slice A n c, .slice An0_4 ((digs ((oddsR m way a x).1.n)).length) cn0_4, .slice Ad0_4 ((digs ((oddsR m way a x).1.d)).length) cd0_4, .int .i64 ((oddsR m way a x).2.1)] := b5_1_2
   have L132 : ChP w w5_1_2 ((fun k => k = gb)) := L130.ch h5_1_2 (fun i hi _ => by cases hi; exact rfl)
   refine W.nx (WC.ret (E.thenR ?_))
   have f133 := (((((hW.le (h0_4.trans h0_9)).ch h0_10 (fun q hq => by cases hq; exact (fun he => by have := (hW.row he).2; have := h0_4.size; omega))).le h3_4_2).ch h3_5_2 (fun q hq => by cases hq; exact (fun he => by have := (hW.row he).2; have := h0_4.size; have := h0_9.size; have := h0_10.size; omega))).ch h5_1_2 (fun q hq => by cases hq; exact hWg))
   have f134 := (((((on0_4.le h0_9).ch h0_10 (fun q hq => by cases hq; exact (fun he => by have := (on0_4.row he).2; omega))).le h3_4_2).ch h3_5_2 (fun q hq => by cases hq; exact (fun he => by have := (on0_4.row he).2; have := h0_9.size; have := h0_10.size; omega))).ch h5_1_2 (fun q hq => by cases hq; exact (fun he => by have := (on0_4.row he).1; have := hB0.lt; omega)))
   have f135 := (((((od0_4.le h0_9).ch h0_10 (fun q hq => by cases hq; exact (fun he => by have := (od0_4.row he).2; omega))).le h3_4_2).ch h3_5_2 (fun q hq => by cases hq; exact (fun he => by have := (od0_4.row he).2; have := h0_9.size; have := h0_10.size; omega))).ch h5_1_2 (fun q hq => by cases hq; exact (fun he => by have := (od0_4.row he).1; have := hB0.lt; omega)))
   refine E.ret0 rfl ?_
   have hnc : ¬ cutR way (oddsR m way a x) b := (by first | exact not_cut1 q1_3 hwl | exact not_cut2 q1_6 q1_12 (.inl (hbn q1_16)) | exact not_cut2 q1_6 q1_12 (.inr c0))
   have hwn : way ≠ [] := fun hh => by first | exact absurd ((congrArg List.length hh).symm.trans hwl) (by simp; omega) | exact absurd c1 (hfr (by omega))
   have hlk : lookR g m fr to a x (k + 1) way at_ b = (fndR way (oddsR m way a x)) := lookR_new hnc c1 (by first | exact .inl (hbn q1_16) | exact .inl (hbn q4_3) | exact .inr c2)
   rw [hlk]
   subst hwl
   exact ⟨rfl, ⟨_, _, _, _, _, _, b5_1_2, f133, (f134.mono hbs0), (f135.mono hbs0), fun h => absurd h hwn, (show way.length ≤ 8 by omega), hol.1, hol.2⟩, L132⟩
  refine W.a (.dec (.move rfl) ((Bool.eq_false_iff.2 q4_3))) ?_
  refine W.g (.loadAll ag71 (by rfl) rfl b3_5_2) ?_
  refine W.g (.loadAll ag71 (by rfl) rfl f131) ?_
  have f136 := ((((hW.le (h0_4.trans h0_9)).ch h0_10 (fun q hq => by cases hq; exact (fun he => by have := (hW.row he).2; have := h0_4.size; omega))).le h3_4_2).ch h3_5_2 (fun q hq => by cases hq; exact (fun he => by have := (hW.row he).2; have := h0_4.size; have := h0_9.size; have := h0_10.size; omega)))
  have f137 := ((((on0_4.le h0_9).ch h0_10 (fun q hq => by cases hq; exact (fun he => by have := (on0_4.row he).2; omega))).le h3_4_2).ch h3_5_2 (fun q hq => by cases hq; exact (fun he => by have := (on0_4.row he).2; have := h0_9.size; have := h0_10.size; omega)))
  have f138 := ((((od0_4.le h0_9).ch h0_10 (fun q hq => by cases hq; exact (fun he => by have := (od0_4.row he).2; omega))).le h3_4_2).ch h3_5_2 (fun q hq => by cases hq; exact (fun he => by have := (od0_4.row he).2; have := h0_9.size; have := h0_10.size; omega)))
  have f139 := ((((hBw.le (h0_4.trans h0_9)).ch h0_10 (fun q hq => by cases hq; exact (fun he => by have := (hBw.row he).2; have := h0_4.size; omega))).le h3_4_2).ch h3_5_2 (fun q hq => by cases hq; exact (fun he => by have := (hBw.row he).2; have := h0_4.size; have := h0_9.size; have := h0_10.size; omega)))
  have f140 := ((((hBn.le (h0_4.trans h0_9)).ch h0_10 (fun q hq => by cases hq; exact (fun he => by have := (hBn.row he).2; have := h0_4.size; omega))).le h3_4_2).ch h3_5_2 (fun q hq => by cases hq; exact (fun he => by have := (hBn.row he).2; have := h0_4.size; have := h0_9.size; have := h0_10.size; omega)))
  have f141 := ((((hBd.le (h0_4.trans h0_9)).ch h0_10 (fun q hq => by cases hq; exact (fun he => by have := (hBd.row he).2; have := h0_4.size; omega))).le h3_4_2).ch h3_5_2 (fun q hq => by cases hq; exact (fun he => by have := (hBd.row he).2; have := h0_4.size; have := h0_9.size; have := h0_10.size; omega)))
  refine W.efg rfl rfl rfl (rfl) rfl rfl ?_
  refine Ef.call go38 rfl rfl (better_ok w3_5_2 f136.vec f137.vec f138.vec (by omega) (by omega) (by omega) f139.vec f140.vec f141.vec (by omega) (by omega) (by omega)) ?_
  rintro _ w4_6_1 ⟨rfl, h4_6_1⟩
  refine ⟨_, rfl, ?_⟩
  have L142 := L130.le h4_6_1
  refine W.run 1 rfl (W.nx ?_)
  by_cases c2 : (betterR (⟨way, ⟨((oddsR m way a x).1.n), ((oddsR m way a x).1.d)⟩, (oddsR m way a x).2.1⟩ : Fnd) (⟨b.way, ⟨b.odds.n, b.odds.d⟩, b.sent⟩ : Fnd)) = true
  ·refine WC.condY rfl (c2) ?_
   refine WC.region ?_
   have f143 := (b3_5_2.le h4_6_1)
   refine W.r (.loadAll ag71 (by rfl) rfl f143) ?_
   have f144 := (f131.le h4_6_1)
   refine W.ef0 rfl rfl ?_
   refine Ef.storeAll sz71 (by rfl) rfl rfl f144 (by rfl) (by simp [Value.oneCell']) ?_
   intro w5_1_3 b5_1_3 h5_1_3
   have b5_1_3 : Blk w5_1_3 gb 71 #[.slice A n c, .slice An0_4 ((digs ((oddsR m way a x).1.n)).length) cn0_4, .slice Ad0_4 ((digs ((oddsR m way a x).1.d)).length) cd0_4, .int .i64 ((oddsR m way a x).2.1)] := b5_1_3
   have L145 : ChP w w5_1_3 ((fun k => k = gb)) := L142.ch h5_1_3 (fun i hi _ => by cases hi; exact rfl)
   refine W.nx (WC.ret (E.thenR ?_))
   have f146 := ((f136.le h4_6_1).ch h5_1_3 (fun q hq => by cases hq; exact hWg))
   have f147 := ((f137.le h4_6_1).ch h5_1_3 (fun q hq => by cases hq; exact (fun he => by have := (f137.row he).1; have := hB0.lt; omega)))
   have f148 := ((f138.le h4_6_1).ch h5_1_3 (fun q hq => by cases hq; exact (fun he => by have := (f138.row he).1; have := hB0.lt; omega)))
   refine E.ret0 rfl ?_
   have hnc : ¬ cutR way (oddsR m way a x) b := (by first | exact not_cut1 q1_3 hwl | exact not_cut2 q1_6 q1_12 (.inl (hbn q1_16)) | exact not_cut2 q1_6 q1_12 (.inr c0))
   have hwn : way ≠ [] := fun hh => by first | exact absurd ((congrArg List.length hh).symm.trans hwl) (by simp; omega) | exact absurd c1 (hfr (by omega))
   have hlk : lookR g m fr to a x (k + 1) way at_ b = (fndR way (oddsR m way a x)) := lookR_new hnc c1 (by first | exact .inl (hbn q1_16) | exact .inl (hbn q4_3) | exact .inr c2)
   rw [hlk]
   subst hwl
   exact ⟨rfl, ⟨_, _, _, _, _, _, b5_1_3, f146, (f147.mono hbs0), (f148.mono hbs0), fun h => absurd h hwn, (show way.length ≤ 8 by omega), hol.1, hol.2⟩, L145⟩
  refine WC.condN rfl ((Bool.eq_false_iff.2 c2)) ?_
  refine WC.sn (WC.ret (E.thenR ?_))
  have f149 := (f131.le h4_6_1)
  have f150 := (f139.le h4_6_1)
  have f151 := (f140.le h4_6_1)
  have f152 := (f141.le h4_6_1)
  refine E.ret0 rfl ?_
  have hlk : lookR g m fr to a x (k + 1) way at_ b = b := (by first | exact lookR_cut (cut_of q1_3 hwl (.inl q1_6)) | exact lookR_cut (cut_of q1_3 hwl (.inr (.inl q1_12))) | exact lookR_cut (cut_of q1_3 hwl (.inr (.inr ⟨hbs q1_16, c0⟩))) | exact lookR_old (by first | exact not_cut1 q1_3 hwl | exact not_cut2 q1_6 q1_12 (.inl (hbn q1_16)) | exact not_cut2 q1_6 q1_12 (.inr c0)) c1 (fun hh => hh.elim (hbs q1_16) c2) | exact lookR_old (by first | exact not_cut1 q1_3 hwl | exact not_cut2 q1_6 q1_12 (.inl (hbn q1_16)) | exact not_cut2 q1_6 q1_12 (.inr c0)) c1 (fun hh => hh.elim (hbs q4_3) c2) | exact lookR_end (by first | exact not_cut1 q1_3 hwl | exact not_cut2 q1_6 q1_12 (.inl (hbn q1_16)) | exact not_cut2 q1_6 q1_12 (.inr c0)) c1 (by rw [hwl]; omega))
  rw [hlk]
  exact ⟨rfl, ⟨_, _, _, _, _, _, f149, f150, f151, f152, hBe, hBl, hBm, hBo⟩, L142⟩
 refine WC.condN rfl (decide_eq_false c1) ?_
 refine WC.sn (WC.seq (WC.sr (W.run 1 rfl ?_)))
 refine W.r (.len Tryz.underlying22 rfl) ?_
 refine W.run 1 rfl (W.nx ?_)
 by_cases c3 : ((n : Nat) : Int) = 8
 ·refine WC.condY rfl (decide_eq_true c3) ?_
  refine WC.ret (E.thenR ?_)
  have f153 := ((hB0.le (h0_4.trans h0_9)).ch h0_10 (fun h => (show g0_9 ≠ gb from by have := hB0.lt; have := h0_4.size; omega) (Option.some.inj h)))
  have f154 := ((hBw.le (h0_4.trans h0_9)).ch h0_10 (fun q hq => by cases hq; exact (fun he => by have := (hBw.row he).2; have := h0_4.size; omega)))
  have f155 := ((hBn.le (h0_4.trans h0_9)).ch h0_10 (fun q hq => by cases hq; exact (fun he => by have := (hBn.row he).2; have := h0_4.size; omega)))
  have f156 := ((hBd.le (h0_4.trans h0_9)).ch h0_10 (fun q hq => by cases hq; exact (fun he => by have := (hBd.row he).2; have := h0_4.size; omega)))
  refine E.ret0 rfl ?_
  have hlk : lookR g m fr to a x (k + 1) way at_ b = b := (by first | exact lookR_cut (cut_of q1_3 hwl (.inl q1_6)) | exact lookR_cut (cut_of q1_3 hwl (.inr (.inl q1_12))) | exact lookR_cut (cut_of q1_3 hwl (.inr (.inr ⟨hbs q1_16, c0⟩))) | exact lookR_old (by first | exact not_cut1 q1_3 hwl | exact not_cut2 q1_6 q1_12 (.inl (hbn q1_16)) | exact not_cut2 q1_6 q1_12 (.inr c0)) c1 (fun hh => hh.elim (hbs q1_16) c2) | exact lookR_old (by first | exact not_cut1 q1_3 hwl | exact not_cut2 q1_6 q1_12 (.inl (hbn q1_16)) | exact not_cut2 q1_6 q1_12 (.inr c0)) c1 (fun hh => hh.elim (hbs q4_3) c2) | exact lookR_end (by first | exact not_cut1 q1_3 hwl | exact not_cut2 q1_6 q1_12 (.inl (hbn q1_16)) | exact not_cut2 q1_6 q1_12 (.inr c0)) c1 (by rw [hwl]; omega))
  rw [hlk]
  exact ⟨rfl, ⟨_, _, _, _, _, _, f153, f154, f155, f156, hBe, hBl, hBm, hBo⟩, L3⟩
 refine WC.condN rfl (decide_eq_false c3) ?_
 refine WC.sn (WC.sr ?_)
 refine W.r (.loadB (v := .slice Ag ng cg) na22 rfl (hE.h7.chP L3 hE.n7) rfl) ?_
 refine W.run 1 rfl ?_
 refine W.cl go39 rfl rfl (in_ok at_ w0_10 (hE.hg.chP L3 hE.hgg) (by omega)) ?_
 rintro _ w7_2_2 ⟨Ao7_2_2, co7_2_2, rfl, oo7_2_2, h7_2_2⟩
 have L157 := L3.le h7_2_2
 refine W.r (.len Tryz.underlying22 rfl) ?_
 refine W.run 1 rfl (W.nx (WC.block ?_))
 have f158 := (((hB0.le (h0_4.trans h0_9)).ch h0_10 (fun h => (show g0_9 ≠ gb from by have := hB0.lt; have := h0_4.size; omega) (Option.some.inj h))).le h7_2_2)
 have f159 := (((hBw.le (h0_4.trans h0_9)).ch h0_10 (fun q hq => by cases hq; exact (fun he => by have := (hBw.row he).2; have := h0_4.size; omega))).le h7_2_2)
 have f160 := (((hBn.le (h0_4.trans h0_9)).ch h0_10 (fun q hq => by cases hq; exact (fun he => by have := (hBn.row he).2; have := h0_4.size; omega))).le h7_2_2)
 have f161 := (((hBd.le (h0_4.trans h0_9)).ch h0_10 (fun q hq => by cases hq; exact (fun he => by have := (hBd.row he).2; have := h0_4.size; omega))).le h7_2_2)
 have f162 := (((hW.le (h0_4.trans h0_9)).ch h0_10 (fun q hq => by cases hq; exact (fun he => by have := (hW.row he).2; have := h0_4.size; omega))).le h7_2_2)
 refine WC.loop (ι := Nat × Fnd × ((Option Addr)) × Nat × ((Option Addr)) × Nat × ((Option Addr)) × Nat) (fun ⟨j, bk, Ax, cx, Ay, cy, Az, cz⟩ => [(0, .slice A n c), (8, .pointer (some ⟨b8, 0, none⟩)), (9, .pointer (some ⟨b9, 0, none⟩)), (73, .slice Ao7_2_2 ((g.filter (fun e => decide (e.t = at_))).length) co7_2_2), (74, .int .i64 ((((g.filter (fun e => decide (e.t = at_))).length : Nat) : Int))), (75, .int .i64 (((j : Nat) : Int)))]) (fun ⟨j, bk, Ax, cx, Ay, cy, Az, cz⟩ wl0 => (j ≤ (g.filter (fun e => decide (e.t = at_))).length) ∧ (bk = ((g.filter (fun e => decide (e.t = at_))).take j).foldl (stepR (lookR g m fr to a x k) way to) b) ∧ (bk.way = [] → Ax = none) ∧ (bk.way.length ≤ 8 ∧ (digs bk.odds.n).length ≤ 100 ∧ (digs bk.odds.d).length ≤ 100) ∧ ChP w wl0 ((fun k => k = gb)) ∧ w7_2_2.heap.size ≤ wl0.heap.size ∧ OVec wl0 bs 51 edgeV 9 A n c way ∧ OVec wl0 w0_10.heap.size 51 edgeV 9 Ao7_2_2 ((g.filter (fun e => decide (e.t = at_))).length) co7_2_2 (g.filter (fun e => decide (e.t = at_))) ∧ OVec wl0 bs 51 edgeV 9 Ax bk.way.length cx bk.way ∧ OVec wl0 bs 122 dv 1 Ay ((digs bk.odds.n).length) cy (digs bk.odds.n) ∧ OVec wl0 bs 122 dv 1 Az ((digs bk.odds.d).length) cz (digs bk.odds.d) ∧ Blk wl0 gb 71 #[.slice Ax bk.way.length cx, .slice Ay ((digs bk.odds.n).length) cy, .slice Az ((digs bk.odds.d).length) cz, .int .i64 (bk.sent)]) (fun ⟨j, bk, Ax, cx, Ay, cy, Az, cz⟩ => (g.filter (fun e => decide (e.t = at_))).length - j) (0, b, Aw, cw, An, cn, Ad, cd) ?_ ?_ ?_
 ·exact .cons rfl (.cons rfl (.cons rfl (.cons rfl (.cons rfl (.cons rfl (.nil _))))))
 ·exact ⟨Nat.zero_le _, rfl, hBe, ⟨hBl, hBm, hBo⟩, L157, Nat.le_refl _, f162, oo7_2_2, f159, f160, f161, f158⟩
 rintro ⟨j, bk, Ax, cx, Ay, cy, Az, cz⟩ wl0 ⟨hj, hbk, hbe, hbl, Ll0, zl0, f0_0, f0_1, f0_2, f0_3, f0_4, f0_5⟩
 have lb0_35 : w0_10.heap.size ≤ wl0.heap.size := by have := h7_2_2.size; omega
 refine WC.sr (W.run 1 rfl (W.nx (WC.seq ?_)))
 by_cases c4 : ((j : Nat) : Int) < (((g.filter (fun e => decide (e.t = at_))).length : Nat) : Int)
 ·refine WC.condY rfl (decide_eq_true c4) ?_
  refine WC.sn (WC.seq (WC.block (WC.sr ?_)))
  refine W.a (.idxS (j) Tryz.underlying22 sz51 rfl rfl (oo7_2_2.vec.isSome edgeV_row (by omega)) (rfl) (by omega)) ?_
  refine W.r (.vload ag51 rfl f0_1.vec edgeV_row (getS (g.filter (fun e => decide (e.t = at_))) noEdge (by first | omega | (simp only [List.length_cons, List.length_nil]; omega)))) ?_
  refine W.ef rfl rfl rfl ?_
  refine Ef.allocA z51 ?_
  intro g9_2_2 w9_2_2 hg9_2_2 b9_2_2 h9_2_2
  have L163 := Ll0.le h9_2_2
  have b9_2_2 : Blk w9_2_2 g9_2_2 51 (edgeV noEdge).toArray := b9_2_2
  refine W.ef0 rfl rfl ?_
  refine Ef.storeAll sz51 (by rfl) rfl rfl b9_2_2 (by simp only [List.size_toArray, edgeV_row.len]) (edgeV_row.one ((g.filter (fun e => decide (e.t = at_))).getD j noEdge)) ?_
  intro w9_3_2 b9_3_2 h9_3_2
  have b9_3_2 : Blk w9_3_2 g9_2_2 51 (edgeV ((g.filter (fun e => decide (e.t = at_))).getD j noEdge)).toArray := b9_3_2
  have L164 : ChP w w9_3_2 ((fun k => k = gb)) := L163.ch h9_3_2 (fun i hi hlt => by cases hi; exact absurd hlt (by have := Ll0.size; have := hg9_2_2; omega))
  refine W.nx (WC.seq (WC.sr ?_))
  refine W.a (.field0 fa51_0 rfl) ?_
  refine W.r (.loadB (v := .int .i64 (((g.filter (fun e => decide (e.t = at_))).getD j noEdge).f)) na3 rfl b9_3_2 rfl) ?_
  refine W.r (.loadB (v := .int .i64 (to)) na3 rfl (hE.h8.chP L164 hE.n8) rfl) ?_
  refine W.run 1 rfl ?_
  by_cases q10_4 : (((g.filter (fun e => decide (e.t = at_))).getD j noEdge).f) = to
  ·refine W.dt q10_4 rfl rfl (W.run 4 rfl (W.nx (WC.condT rfl (WC.exit (E.thenX (E.blkH (E.thenN (WC.region ?_))))))))
   refine W.a (.add rfl rfl (by omega)) ?_
   refine W.run 1 rfl (W.nil ?_)
   have f165 := ((f0_0.le h9_2_2).ch h9_3_2 (fun q hq => by cases hq; exact (fun he => by have := (f0_0.row he).2; omega)))
   have f166 := ((f0_1.le h9_2_2).ch h9_3_2 (fun q hq => by cases hq; exact (fun he => by have := (f0_1.row he).2; omega)))
   have f167 := ((f0_2.le h9_2_2).ch h9_3_2 (fun q hq => by cases hq; exact (fun he => by have := (f0_2.row he).2; omega)))
   have f168 := ((f0_3.le h9_2_2).ch h9_3_2 (fun q hq => by cases hq; exact (fun he => by have := (f0_3.row he).2; omega)))
   have f169 := ((f0_4.le h9_2_2).ch h9_3_2 (fun q hq => by cases hq; exact (fun he => by have := (f0_4.row he).2; omega)))
   have f170 := ((f0_5.le h9_2_2).ch h9_3_2 (fun h => (show g9_2_2 ≠ gb from by have := f0_5.lt; omega) (Option.some.inj h)))
   refine E.again (j + 1, bk, Ax, cx, Ay, cy, Az, cz) (.cons rfl (.cons rfl (.cons rfl (.cons rfl (.cons rfl (.cons rfl (.nil _))))))) ?_ ?_
   ·exact ⟨by omega, (by rw [fold_next (z := noEdge) (l := (g.filter (fun e => decide (e.t = at_)))) (by omega), ← hbk]; exact (if_pos (by first | (unfold skipR; rw [decide_eq_true q10_4]; exact Bool.true_or _) | (unfold skipR; rw [c5]; exact Bool.or_true _))).symm), hbe, hbl, L164, by have := zl0; have := h9_2_2.size; have := h9_3_2.size; omega, f165, f166, f167, f168, f169, f170⟩
   first | omega | (simp only []; omega)
  refine W.df q10_4 rfl rfl (W.run 1 rfl ?_)
  refine W.g (Any.rd (.makeFunc rfl) _) ?_
  have f171 := ((f0_0.le h9_2_2).ch h9_3_2 (fun q hq => by cases hq; exact (fun he => by have := (f0_0.row he).2; omega)))
  refine W.efg rfl rfl rfl (rfl) rfl rfl ?_
  refine Ef.call go40 rfl rfl (contains_ok (fun y => decide (y.f = ((g.filter (fun e => decide (e.t = at_))).getD j noEdge).f)) go41 w9_3_2 f171.vec (by omega) (fun y w1 hl => seen_ok y w1 (b9_3_2.le hl))) ?_
  rintro _ w10_7_2 ⟨rfl, h10_7_2⟩
  refine ⟨_, rfl, ?_⟩
  have L172 := L164.le h10_7_2
  refine W.run 1 rfl (W.nx ?_)
  by_cases c5 : (way.any (fun y => decide (y.f = ((g.filter (fun e => decide (e.t = at_))).getD j noEdge).f))) = true
  ·refine WC.condY rfl (c5) ?_
   refine WC.exit (E.thenX (E.blkH (E.thenN (WC.region ?_))))
   refine W.a (.add rfl rfl (by omega)) ?_
   refine W.run 1 rfl (W.nil ?_)
   have f173 := (f171.le h10_7_2)
   have f174 := (((f0_1.le h9_2_2).ch h9_3_2 (fun q hq => by cases hq; exact (fun he => by have := (f0_1.row he).2; omega))).le h10_7_2)
   have f175 := (((f0_2.le h9_2_2).ch h9_3_2 (fun q hq => by cases hq; exact (fun he => by have := (f0_2.row he).2; omega))).le h10_7_2)
   have f176 := (((f0_3.le h9_2_2).ch h9_3_2 (fun q hq => by cases hq; exact (fun he => by have := (f0_3.row he).2; omega))).le h10_7_2)
   have f177 := (((f0_4.le h9_2_2).ch h9_3_2 (fun q hq => by cases hq; exact (fun he => by have := (f0_4.row he).2; omega))).le h10_7_2)
   have f178 := (((f0_5.le h9_2_2).ch h9_3_2 (fun h => (show g9_2_2 ≠ gb from by have := f0_5.lt; omega) (Option.some.inj h))).le h10_7_2)
   refine E.again (j + 1, bk, Ax, cx, Ay, cy, Az, cz) (.cons rfl (.cons rfl (.cons rfl (.cons rfl (.cons rfl (.cons rfl (.nil _))))))) ?_ ?_
   ·exact ⟨by omega, (by rw [fold_next (z := noEdge) (l := (g.filter (fun e => decide (e.t = at_)))) (by omega), ← hbk]; exact (if_pos (by first | (unfold skipR; rw [decide_eq_true q10_4]; exact Bool.true_or _) | (unfold skipR; rw [c5]; exact Bool.or_true _))).symm), hbe, hbl, L172, by have := zl0; have := h9_2_2.size; have := h9_3_2.size; have := h10_7_2.size; omega, f173, f174, f175, f176, f177, f178⟩
   first | omega | (simp only []; omega)
  refine WC.condN rfl ((Bool.eq_false_iff.2 c5)) ?_
  refine WC.sn ?_
  refine WC.drawR (fun w11 w' => ChP w w' ((fun k => k = gb)) ∧ Blk w' g9_2_2 51 (edgeV ((g.filter (fun e => decide (e.t = at_))).getD j noEdge)).toArray) [0, 1, 3, 5, 6, 2, 4, 7] mixed (by kernel_rfl) ?_
  intro w11 d11
  have L179 := L172.le d11
  have f180 := (b9_3_2.le (h10_7_2.trans d11))
  refine ⟨⟨L179, f180⟩, ?_⟩
  refine GR.rd rfl rfl (fun w' hs => .loadB (v := .func (.func 37) #[] #[.pointer (some ⟨b2, 0, none⟩), .pointer (some ⟨b3, 0, none⟩), .pointer (some ⟨b4, 0, none⟩), .pointer (some ⟨gb, 0, none⟩), .pointer (some ⟨b6, 0, none⟩), .pointer (some ⟨b7, 0, none⟩), .pointer (some ⟨b8, 0, none⟩), .pointer (some ⟨b9, 0, none⟩)]) na72 rfl (hE.h9.chP hs.1 hE.n9) rfl) rfl rfl rfl ?_
  refine GR.rd rfl rfl (fun w' hs => .loadAll ag51 (by rfl) rfl hs.2) rfl rfl rfl ?_
  refine GR.any rfl rfl (.move rfl) rfl rfl rfl ?_
  refine GR.any rfl rfl (.field0 fa51_0 rfl) rfl rfl rfl ?_
  refine GR.rd rfl rfl (fun w' hs => .loadB (v := .int .i64 (((g.filter (fun e => decide (e.t = at_))).getD j noEdge).f)) na3 rfl hs.2 rfl) rfl rfl rfl ?_
  refine GR.ef rfl rfl rfl rfl rfl ?_
  refine Ef.buildSliceV (len := 1) [_] Tryz.underlying22 el51 rfl (by simp [Value.cells, edgeV_row.len]) rfl (by decide) (by decide) ?_
  intro g11_2_2 w11_2_2 hg11_2_2 b11_2_2 h11_2_2
  have L181 := L179.le h11_2_2
  have b11_2_2 : Blk w11_2_2 g11_2_2 51 (([(g.filter (fun e => decide (e.t = at_))).getD j noEdge]).map edgeV).flatten.toArray := b11_2_2
  have o11_2_2 : OVec w11_2_2 w11.heap.size 51 edgeV 9 (some ⟨g11_2_2, 0, none⟩) 1 1 ([(g.filter (fun e => decide (e.t = at_))).getD j noEdge]) := b11_2_2.ovec hg11_2_2 edgeV_row rfl rfl (by decide)
  have f182 := (f180.le h11_2_2)
  refine ⟨fun _ => ⟨L181, f182⟩, ?_⟩
  have f183 := (f171.le (h10_7_2.trans (d11.trans h11_2_2)))
  refine GR.ef rfl rfl rfl rfl rfl ?_
  refine Ef.vcat Tryz.underlying22 el51 Tryz.underlying22 edgeV_row rfl o11_2_2 rfl f183.vec (by omega) (by unfold maxLen; omega) (by have := h11_2_2.size; omega) ?_
  intro A11_4_2 c11_4_2 w11_4_2 o11_4_2 h11_4_2 at11_4_2
  have L184 : ChP w w11_4_2 ((fun k => k = gb)) := L181.ch h11_4_2 (fun i hi hlt => absurd hlt (by have := (o11_2_2.row hi).1; have := L179.size; omega))
  have f185 := (f182.ch h11_4_2 (fun he => by have := (o11_2_2.row he).1; have := f180.lt; omega))
  refine ⟨fun _ => ⟨L184, f185⟩, ?_⟩
  have f186 := ((((f0_5.le h9_2_2).ch h9_3_2 (fun h => (show g9_2_2 ≠ gb from by have := f0_5.lt; omega) (Option.some.inj h))).le (h10_7_2.trans (d11.trans h11_2_2))).ch h11_4_2 (fun he => by have := (o11_2_2.row he).1; have := f0_5.lt; have := h9_2_2.size; have := h9_3_2.size; have := h10_7_2.size; have := d11.size; omega))
  have f187 := ((((f0_2.le h9_2_2).ch h9_3_2 (fun q hq => by cases hq; exact (fun he => by have := (f0_2.row he).2; omega))).le (h10_7_2.trans (d11.trans h11_2_2))).ch h11_4_2 ((Apart.symm (fun q h1 h2 => by have := (f0_2.row h1).2; have := (o11_2_2.row h2).1; have := h9_2_2.size; have := h9_3_2.size; have := h10_7_2.size; have := d11.size; omega))))
  have f188 := ((((f0_3.le h9_2_2).ch h9_3_2 (fun q hq => by cases hq; exact (fun he => by have := (f0_3.row he).2; omega))).le (h10_7_2.trans (d11.trans h11_2_2))).ch h11_4_2 ((Apart.symm (fun q h1 h2 => by have := (f0_3.row h1).2; have := (o11_2_2.row h2).1; have := h9_2_2.size; have := h9_3_2.size; have := h10_7_2.size; have := d11.size; omega))))
  have f189 := ((((f0_4.le h9_2_2).ch h9_3_2 (fun q hq => by cases hq; exact (fun he => by have := (f0_4.row he).2; omega))).le (h10_7_2.trans (d11.trans h11_2_2))).ch h11_4_2 ((Apart.symm (fun q h1 h2 => by have := (f0_4.row h1).2; have := (o11_2_2.row h2).1; have := h9_2_2.size; have := h9_3_2.size; have := h10_7_2.size; have := d11.size; omega))))
  have zb11_7_2 : BestAt w11_4_2 bs gb bk := ⟨_, _, _, _, _, _, f186, f187, f188, f189, hbe, hbl.1, hbl.2.1, hbl.2.2⟩
  have zi11_7_2 := ih ([(g.filter (fun e => decide (e.t = at_))).getD j noEdge] ++ way) (by omega) (((g.filter (fun e => decide (e.t = at_))).getD j noEdge).f) bk w11_4_2 L184 (o11_4_2.mono (Nat.le_trans hbs0 L179.size))
  have zj11_7_2 := zi11_7_2 (by omega) (by omega) (fun he => by have := (o11_4_2.row he).1; have := f0_5.lt; have := h9_2_2.size; have := h9_3_2.size; have := h10_7_2.size; have := d11.size; omega) zb11_7_2
  refine GR.ef rfl rfl rfl rfl rfl ?_
  refine Ef.callC go37 rfl rfl rfl (zj11_7_2) ?_
  rintro _ w11_7_2 ⟨rfl, ⟨Aw11_7_2, cw11_7_2, An11_7_2, cn11_7_2, Ad11_7_2, cd11_7_2, bp11_7_2, ow11_7_2, on11_7_2, od11_7_2, he11_7_2, hl11_7_2, hm11_7_2, hd11_7_2⟩, h11_7_2⟩
  refine ⟨_, rfl, ?_⟩
  have L190 := L184.sub h11_7_2 (fun i hi hlt => (by subst hi; exact rfl))
  refine ⟨fun h => absurd h (ne_true_of_eq_false (by kernel_rfl)), ?_⟩
  refine GR.nil ?_
  refine E.blkN (E.thenN (WC.region ?_))
  refine W.a (.add rfl rfl (by omega)) ?_
  refine W.run 1 rfl (W.nil ?_)
  have f191 := ((f183.ch h11_4_2 ((Apart.symm (fun q h1 h2 => by have := (f171.row h1).2; have := (o11_2_2.row h2).1; have := h10_7_2.size; have := d11.size; omega)))).chP h11_7_2 (fun q hqq hF => (by subst hF; exact hWg hqq)))
  have f192 := (((((f0_1.le h9_2_2).ch h9_3_2 (fun q hq => by cases hq; exact (fun he => by have := (f0_1.row he).2; omega))).le (h10_7_2.trans (d11.trans h11_2_2))).ch h11_4_2 ((Apart.symm (fun q h1 h2 => by have := (f0_1.row h1).2; have := (o11_2_2.row h2).1; have := h9_2_2.size; have := h9_3_2.size; have := h10_7_2.size; have := d11.size; omega)))).chP h11_7_2 (fun q hqq hF => (by subst hF; exact (fun he => by have := (f0_1.row he).1; have := hB0.lt; have := h0_4.size; have := h0_9.size; have := h0_10.size; omega) hqq)))
  refine E.again (j + 1, (lookR g m fr to a x k ([(g.filter (fun e => decide (e.t = at_))).getD j noEdge] ++ way) (((g.filter (fun e => decide (e.t = at_))).getD j noEdge).f) bk), Aw11_7_2, cw11_7_2, An11_7_2, cn11_7_2, Ad11_7_2, cd11_7_2) (.cons rfl (.cons rfl (.cons rfl (.cons rfl (.cons rfl (.cons rfl (.nil _))))))) ?_ ?_
  ·exact ⟨by omega, (by rw [fold_next (z := noEdge) (l := (g.filter (fun e => decide (e.t = at_)))) (by omega), ← hbk]; exact (if_neg (by simp only [skipR, Bool.or_eq_true, decide_eq_true_eq, not_or]; exact ⟨q10_4, c5⟩)).symm), he11_7_2, ⟨hl11_7_2, hm11_7_2, hd11_7_2⟩, L190, by have := zl0; have := h9_2_2.size; have := h9_3_2.size; have := h10_7_2.size; have := d11.size; have := h11_2_2.size; have := h11_4_2.size; have := h11_7_2.size; omega, f191, f192, ow11_7_2, on11_7_2, od11_7_2, bp11_7_2⟩
  first | omega | (simp only []; omega)
 refine WC.condN rfl (decide_eq_false c4) ?_
 refine WC.exit (E.thenX (E.thenX (E.blkH (E.end_ ?_))))
 refine E.ret0 rfl ?_
 have hnc : ¬ cutR way (oddsR m way a x) b := (by first | exact not_cut1 q1_3 hwl | exact not_cut2 q1_6 q1_12 (.inl (hbn q1_16)) | exact not_cut2 q1_6 q1_12 (.inr c0))
 have hje : j = (g.filter (fun e => decide (e.t = at_))).length := (by omega)
 have hlk : lookR g m fr to a x (k + 1) way at_ b = bk := (by rw [lookR_go hnc c1 (by rw [hwl]; omega), hbk, hje, List.take_length]; rfl)
 rw [hlk]
 exact ⟨rfl, ⟨_, _, _, _, _, _, f0_5, f0_2, f0_3, f0_4, hbe, hbl.1, hbl.2.1, hbl.2.2⟩, Ll0⟩


theorem look_ok {bs base gp ng cg b2 b3 b4 gb b6 b7 b8 b9 : Nat} {F : Nat → Prop} {m : MF} {Ag : Option Addr} {g : List Gsp.Edge} {fr to a x : Int} : ∀ (k : Nat) (way : List Gsp.Edge) {A : Option Addr} {n c : Nat} (hk1 : 1 ≤ k) (at_ : Int) (b : Fnd) (w : World), LookE w base gp F m Ag ng cg g fr to a x b2 b3 b4 gb b6 b7 b8 b9 → bs ≤ w.heap.size → OVec w bs 51 edgeV 9 A n c way → n + k = 9 → (n = 0 → A = none) → (n = 0 → at_ ≠ fr) → rowOf A c ≠ some gb → BestAt w bs gb b →
    Calls Tryz.prog 37 #[.slice A n c, .int .i64 at_, .pointer (some ⟨b2, 0, none⟩), .pointer (some ⟨b3, 0, none⟩), .pointer (some ⟨b4, 0, none⟩), .pointer (some ⟨gb, 0, none⟩), .pointer (some ⟨b6, 0, none⟩), .pointer (some ⟨b7, 0, none⟩), .pointer (some ⟨b8, 0, none⟩), .pointer (some ⟨b9, 0, none⟩)] w fun r w2 => r = .returned (.tuple #[]) ∧ BestAt w2 bs gb (lookR g m fr to a x k way at_ b) ∧ ChP w w2 (fun k => k = gb)
  | 0, _, _, _, _, h, _, _, _, _, _, _, _, _, _, _, _ => absurd h (by decide)
  | k + 1, way, A, n, c, _, at_, b, w, hE, hbs, hW, hnk, hn0, hnf, hWg, hB => by
    obtain ⟨Aw, cw, An, cn, Ad, cd, hB⟩ := hB
    refine look_step at_ w hE (fun way' A' n' c' hk1 at' b' w1 hc hW' hn' h1 hg' hB' => look_ok k way' hk1 at' b' w1 (hE.chP hc) (Nat.le_trans hbs hc.size) hW' hn' (fun h => by omega) (fun h => by omega) hg' hB') hbs hW hWg (by omega) hB hn0 hnf

end Go.Proofs.YtmkdeemjkcigkaaGreatDoor

namespace Go.Proofs.YtmkdeemjkcigkaaGreatDoor
open Go Go.Sx Go.Num Go.Gsp Go.Nsp Go.Msp Go.Rtp
set_option maxRecDepth 20000
set_option maxHeartbeats 4000000
theorem best_none {w : World} {bs gb : Nat} (h : Blk w gb 71 #[.slice none 0 0, .slice none 0 0, .slice none 0 0, .int .i64 0]) : BestAt w bs gb noFnd := by
  refine ⟨none, 0, none, 0, none, 0, ?_, OVec.nil _ _ _ _ _ _, ?_, ?_, fun _ => rfl, by decide, ?_, ?_⟩
  · show Blk w gb 71 #[.slice none 0 0, .slice none (digs 0).length 0, .slice none (digs 0).length 0, .int .i64 0]
    rw [digs_zero]; exact h
  · show OVec w bs 122 dv 1 none (digs 0).length 0 (digs 0)
    rw [digs_zero]; exact OVec.nil _ _ _ _ _ _
  · show OVec w bs 122 dv 1 none (digs 0).length 0 (digs 0)
    rw [digs_zero]; exact OVec.nil _ _ _ _ _ _
  · show (digs 0).length ≤ 100
    rw [digs_zero]; decide
  · show (digs 0).length ≤ 100
    rw [digs_zero]; decide
theorem bestR_none {g : List Gsp.Edge} {m : MF} {fr to a x : Int} (hb : badR g fr to a x = false) (h : (lookR g m fr to a x 9 [] to noFnd).way = []) : bestR g m fr to a x = ([], ⟨0, 0⟩, 19) := by unfold bestR; rw [if_neg (by rw [hb]; decide), if_pos h]
theorem bestR_some {g : List Gsp.Edge} {m : MF} {fr to a x : Int} (hb : badR g fr to a x = false) (h : (lookR g m fr to a x 9 [] to noFnd).way ≠ []) : bestR g m fr to a x = ((lookR g m fr to a x 9 [] to noFnd).way, (lookR g m fr to a x 9 [] to noFnd).odds, 0) := by unfold bestR; rw [if_neg (by rw [hb]; decide), if_neg h]
theorem rbest_ok {base gp : Nat} {F : Nat → Prop} {m : MF} (fr to a x : Int) {A : Option Addr} {n c : Nat} {g : List Gsp.Edge} (w : World) (hP : MPool w base gp F m) (hV : Vec w edgeV 9 A n g) (hn : n ≤ 1000000) : Calls Tryz.prog 11 #[.slice A n c, .pointer (some ⟨gp, 0, none⟩), .int .i64 (fr), .int .i64 (to), .int .i64 (a), .int .i64 (x)] w fun r w' => ∃ Aw cw An cn Ad cd, r = .returned (.tuple #[.slice Aw (bestR g m fr to a x).1.length cw, .agg #[.slice An (digs (bestR g m fr to a x).2.1.n).length cn, .slice Ad (digs (bestR g m fr to a x).2.1.d).length cd], .int .i64 (bestR g m fr to a x).2.2]) ∧ OVec w' w.heap.size 51 edgeV 9 Aw (bestR g m fr to a x).1.length cw (bestR g m fr to a x).1 ∧ OVec w' w.heap.size 122 dv 1 An (digs (bestR g m fr to a x).2.1.n).length cn (digs (bestR g m fr to a x).2.1.n) ∧ OVec w' w.heap.size 122 dv 1 Ad (digs (bestR g m fr to a x).2.1.d).length cd (digs (bestR g m fr to a x).2.1.d) ∧ Le w w' := by
 have hl := hV.1
 have hgm := hP.good
 refine enter Tryz.func11 rfl rfl ?_
 have L0 := Le.refl w
 refine WC.sr (W.ef rfl rfl rfl ?_)
 refine Ef.box rfl ?_
 intro g0_0 w0_0 hg0_0 b0_0 h0_0
 have L1 := L0.trans h0_0
 have b0_0 : Blk w0_0 g0_0 22 #[.slice A n c] := b0_0
 refine W.ef rfl rfl rfl ?_
 refine Ef.box rfl ?_
 intro g0_1 w0_1 hg0_1 b0_1 h0_1
 have L2 := L1.trans h0_1
 have b0_1 : Blk w0_1 g0_1 27 #[.pointer (some ⟨gp, 0, none⟩)] := b0_1
 refine W.ef rfl rfl rfl ?_
 refine Ef.box rfl ?_
 intro g0_2 w0_2 hg0_2 b0_2 h0_2
 have L3 := L2.trans h0_2
 have b0_2 : Blk w0_2 g0_2 3 #[.int .i64 (fr)] := b0_2
 refine W.ef rfl rfl rfl ?_
 refine Ef.box rfl ?_
 intro g0_3 w0_3 hg0_3 b0_3 h0_3
 have L4 := L3.trans h0_3
 have b0_3 : Blk w0_3 g0_3 3 #[.int .i64 (to)] := b0_3
 refine W.ef rfl rfl rfl ?_
 refine Ef.box rfl ?_
 intro g0_4 w0_4 hg0_4 b0_4 h0_4
 have L5 := L4.trans h0_4
 have b0_4 : Blk w0_4 g0_4 3 #[.int .i64 (a)] := b0_4
 refine W.ef rfl rfl rfl ?_
 refine Ef.box rfl ?_
 intro g0_5 w0_5 hg0_5 b0_5 h0_5
 have L6 := L5.trans h0_5
 have b0_5 : Blk w0_5 g0_5 3 #[.int .i64 (x)] := b0_5
 refine W.run 1 rfl (W.ef rfl rfl rfl ?_)
 refine Ef.allocA z33 ?_
 intro g0_7 w0_7 hg0_7 b0_7 h0_7
 have L7 := L6.trans h0_7
 have b0_7 : Blk w0_7 g0_7 33 #[.slice none 0 0, .slice none 0 0] := b0_7
 refine W.run 1 rfl (W.nx (WC.seq (WC.sr ?_)))
 have f8 := (b0_0.le (h0_1.trans (h0_2.trans (h0_3.trans (h0_4.trans (h0_5.trans h0_7))))))
 refine W.r (.loadB (v := .slice A n c) na22 rfl f8 rfl) ?_
 refine W.cl go24 rfl rfl (gright_ok w0_7 (hV.le L7) (by omega)) ?_
 rintro _ w1_1 ⟨rfl, h1_1⟩
 have L9 := L7.trans h1_1
 refine W.run 1 rfl ?_
 by_cases q1_3 : (rightG g) = true
 ·refine W.a (.dec (.move rfl) (congrArg not (q1_3))) ?_
  have f10 := (b0_2.le (h0_3.trans (h0_4.trans (h0_5.trans (h0_7.trans h1_1)))))
  refine W.g (.loadB (v := .int .i64 (fr)) na3 rfl f10 rfl) ?_
  refine W.efg rfl rfl rfl (rfl) rfl rfl ?_
  refine Ef.call go36 rfl rfl (within_ok fr 0 11 w1_1) ?_
  rintro _ w1_5 ⟨rfl, h1_5⟩
  refine ⟨_, rfl, ?_⟩
  have L11 := L9.trans h1_5
  refine W.run 2 rfl ?_
  by_cases q1_8 : (inB fr 0 11) = true
  ·refine W.a (.dec (.move rfl) (congrArg not (q1_8))) ?_
   have f12 := (b0_3.le (h0_4.trans (h0_5.trans (h0_7.trans (h1_1.trans h1_5)))))
   refine W.g (.loadB (v := .int .i64 (to)) na3 rfl f12 rfl) ?_
   refine W.efg rfl rfl rfl (rfl) rfl rfl ?_
   refine Ef.call go36 rfl rfl (within_ok to 0 11 w1_5) ?_
   rintro _ w1_10 ⟨rfl, h1_10⟩
   refine ⟨_, rfl, ?_⟩
   have L13 := L11.trans h1_10
   refine W.run 2 rfl ?_
   by_cases q1_13 : (inB to 0 11) = true
   ·refine W.a (.dec (.move rfl) (congrArg not (q1_13))) ?_
    have f14 := (f10.le (h1_5.trans h1_10))
    refine W.g (.loadB (v := .int .i64 (fr)) na3 rfl f14 rfl) ?_
    have f15 := (f12.le h1_10)
    refine W.g (.loadB (v := .int .i64 (to)) na3 rfl f15 rfl) ?_
    refine W.run 2 rfl ?_
    by_cases q1_18 : fr = to
    ·refine W.dt q1_18 rfl rfl (W.run 9 rfl (W.nx (WC.condT rfl (WC.sr ?_))))
     refine W.a (.buildP [.slice none 0 0, .slice none 0 0] pl33 z33 rfl rfl) ?_
     refine W.run 1 rfl ?_
     have f16 := (b0_7.le (h1_1.trans (h1_5.trans h1_10)))
     refine W.ef0 rfl rfl ?_
     refine Ef.storeAll sz33 (by rfl) rfl rfl f16 (by rfl) (by simp [Value.oneCell']) ?_
     intro w2_2 b2_2 h2_2
     have b2_2 : Blk w2_2 g0_7 33 #[.slice none 0 0, .slice none 0 0] := b2_2
     have L17 := L13.then_ h2_2 (fun q hq => by cases hq; exact Nat.le_trans L6.size hg0_7)
     refine W.run 1 rfl (W.nx (WC.ret (E.thenR ?_)))
     refine E.retG3 rfl rfl (resA rfl b2_2 ag33 (by rfl)) rfl ?_
     rw [bestR_bad (by unfold badR; simp [q1_3, q1_8, q1_13, q1_18])]
     exact ⟨none, 0, none, 0, none, 0, by simp only [digs_zero]; rfl, OVec.nil _ _ _ _ _ _, by simp only [digs_zero]; exact OVec.nil _ _ _ _ _ _, by simp only [digs_zero]; exact OVec.nil _ _ _ _ _ _, L17⟩
    refine W.df q1_18 rfl rfl ?_
    have f18 := (b0_4.le (h0_5.trans (h0_7.trans (h1_1.trans (h1_5.trans h1_10)))))
    refine W.g (.loadB (v := .int .i64 (a)) na3 rfl f18 rfl) ?_
    refine W.efg rfl rfl rfl (rfl) rfl rfl ?_
    refine Ef.call go36 rfl rfl (within_ok a 1 1125899906842624 w1_10) ?_
    rintro _ w1_20 ⟨rfl, h1_20⟩
    refine ⟨_, rfl, ?_⟩
    have L19 := L13.trans h1_20
    refine W.run 2 rfl ?_
    by_cases q1_23 : (inB a 1 1125899906842624) = true
    ·refine W.a (.dec (.move rfl) (congrArg not (q1_23))) ?_
     have f20 := (b0_5.le (h0_7.trans (h1_1.trans (h1_5.trans (h1_10.trans h1_20)))))
     refine W.g (.loadB (v := .int .i64 (x)) na3 rfl f20 rfl) ?_
     refine W.efg rfl rfl rfl (rfl) rfl rfl ?_
     refine Ef.call go36 rfl rfl (within_ok x 1 1048576 w1_20) ?_
     rintro _ w1_25 ⟨rfl, h1_25⟩
     refine ⟨_, rfl, ?_⟩
     have L21 := L19.trans h1_25
     refine W.run 2 rfl (W.nx ?_)
     by_cases c0 : (inB x 1 1048576) = true
     ·refine WC.condN rfl (congrArg not (c0)) ?_
      have hbad : badR g fr to a x = false := by unfold badR; simp [q1_3, q1_8, q1_13, q1_18, q1_23, c0]
      have hft := (bad_T hbad).2.2.2.1
      refine WC.sn (WC.sr (W.ef rfl rfl rfl ?_))
      refine Ef.allocA z71 ?_
      intro g3_0 w3_0 hg3_0 b3_0 h3_0
      have L22 := L21.trans h3_0
      have b3_0 : Blk w3_0 g3_0 71 #[.slice none 0 0, .slice none 0 0, .slice none 0 0, .int .i64 (0)] := b3_0
      refine W.nx (WC.sr (W.ef rfl rfl rfl ?_))
      refine Ef.alloc z72 ?_
      intro g4_0 w4_0 hg4_0 b4_0 h4_0
      have L23 := L22.trans h4_0
      have b4_0 : Blk w4_0 g4_0 72 #[.nilFunc] := b4_0
      refine W.nx (WC.sr ?_)
      refine W.a (.makeFunc rfl) ?_
      refine W.ef0 rfl rfl ?_
      refine Ef.store sz72 rfl rfl b4_0 (by first | decide | (simp; done)) (rfl) ?_
      intro w5_1 b5_1 h5_1
      have b5_1 : Blk w5_1 g4_0 72 #[.func (.func 37) #[] #[.pointer (some ⟨g0_1, 0, none⟩), .pointer (some ⟨g0_4, 0, none⟩), .pointer (some ⟨g0_5, 0, none⟩), .pointer (some ⟨g3_0, 0, none⟩), .pointer (some ⟨g0_2, 0, none⟩), .pointer (some ⟨g0_0, 0, none⟩), .pointer (some ⟨g0_3, 0, none⟩), .pointer (some ⟨g4_0, 0, none⟩)]] := b5_1
      have L24 := L23.then_ h5_1 (fun q hq => by cases hq; exact Nat.le_trans L22.size hg4_0)
      refine W.nx (WC.sr ?_)
      refine W.r (.loadB (v := .func (.func 37) #[] #[.pointer (some ⟨g0_1, 0, none⟩), .pointer (some ⟨g0_4, 0, none⟩), .pointer (some ⟨g0_5, 0, none⟩), .pointer (some ⟨g3_0, 0, none⟩), .pointer (some ⟨g0_2, 0, none⟩), .pointer (some ⟨g0_0, 0, none⟩), .pointer (some ⟨g0_3, 0, none⟩), .pointer (some ⟨g4_0, 0, none⟩)]) na72 rfl b5_1 rfl) ?_
      have f25 := ((f15.le (h1_20.trans (h1_25.trans (h3_0.trans h4_0)))).ch h5_1 (fun h => (show g4_0 ≠ g0_3 from by have := f15.lt; have := h1_20.size; have := h1_25.size; have := h3_0.size; omega) (Option.some.inj h)))
      refine W.r (.loadB (v := .int .i64 (to)) na3 rfl f25 rfl) ?_
      have f26 := ((b0_1.le (h0_2.trans (h0_3.trans (h0_4.trans (h0_5.trans (h0_7.trans (h1_1.trans (h1_5.trans (h1_10.trans (h1_20.trans (h1_25.trans (h3_0.trans h4_0)))))))))))).ch h5_1 (fun h => (show g4_0 ≠ g0_1 from by have := b0_1.lt; have := h0_2.size; have := h0_3.size; have := h0_4.size; have := h0_5.size; have := h0_7.size; have := h1_1.size; have := h1_5.size; have := h1_10.size; have := h1_20.size; have := h1_25.size; have := h3_0.size; omega) (Option.some.inj h)))
      have f27 := ((f18.le (h1_20.trans (h1_25.trans (h3_0.trans h4_0)))).ch h5_1 (fun h => (show g4_0 ≠ g0_4 from by have := f18.lt; have := h1_20.size; have := h1_25.size; have := h3_0.size; omega) (Option.some.inj h)))
      have f28 := ((f20.le (h1_25.trans (h3_0.trans h4_0))).ch h5_1 (fun h => (show g4_0 ≠ g0_5 from by have := f20.lt; have := h1_25.size; have := h3_0.size; omega) (Option.some.inj h)))
      have f29 := ((b3_0.le h4_0).ch h5_1 (fun h => (show g4_0 ≠ g3_0 from by have := b3_0.lt; omega) (Option.some.inj h)))
      have f30 := ((f14.le (h1_20.trans (h1_25.trans (h3_0.trans h4_0)))).ch h5_1 (fun h => (show g4_0 ≠ g0_2 from by have := f14.lt; have := h1_20.size; have := h1_25.size; have := h3_0.size; omega) (Option.some.inj h)))
      have f31 := ((f8.le (h1_1.trans (h1_5.trans (h1_10.trans (h1_20.trans (h1_25.trans (h3_0.trans h4_0))))))).ch h5_1 (fun h => (show g4_0 ≠ g0_0 from by have := f8.lt; have := h1_1.size; have := h1_5.size; have := h1_10.size; have := h1_20.size; have := h1_25.size; have := h3_0.size; omega) (Option.some.inj h)))
      have f32 := ((hP.le (h0_0.trans (h0_1.trans (h0_2.trans (h0_3.trans (h0_4.trans (h0_5.trans (h0_7.trans (h1_1.trans (h1_5.trans (h1_10.trans (h1_20.trans (h1_25.trans (h3_0.trans h4_0)))))))))))))).ch h5_1 (fun q hqq hF => by cases hqq; have := hP.lt hF; have := h0_0.size; have := h0_1.size; have := h0_2.size; have := h0_3.size; have := h0_4.size; have := h0_5.size; have := h0_7.size; have := h1_1.size; have := h1_5.size; have := h1_10.size; have := h1_20.size; have := h1_25.size; have := h3_0.size; have := hg4_0; omega))
      have zE6_2 : LookE w5_1 base gp F m A n c g fr to a x g0_1 g0_4 g0_5 g3_0 g0_2 g0_0 g0_3 g4_0 := ⟨f26, f27, f28, f30, f31, f25, b5_1, f32, (hV.le L24), (show g0_1 ≠ g3_0 from by have := b0_1.lt; have := h0_2.size; have := h0_3.size; have := h0_4.size; have := h0_5.size; have := h0_7.size; have := h1_1.size; have := h1_5.size; have := h1_10.size; have := h1_20.size; have := h1_25.size; omega), (show g0_4 ≠ g3_0 from by have := f18.lt; have := h1_20.size; have := h1_25.size; omega), (show g0_5 ≠ g3_0 from by have := f20.lt; have := h1_25.size; omega), (show g0_2 ≠ g3_0 from by have := f14.lt; have := h1_20.size; have := h1_25.size; omega), (show g0_0 ≠ g3_0 from by have := f8.lt; have := h1_1.size; have := h1_5.size; have := h1_10.size; have := h1_20.size; have := h1_25.size; omega), (show g0_3 ≠ g3_0 from by have := f15.lt; have := h1_20.size; have := h1_25.size; omega), (show g4_0 ≠ g3_0 from by have := b3_0.lt; omega), (fun k hk he => (show ¬ F g3_0 from (fun hF => by have := hP.lt hF; have := h0_0.size; have := h0_1.size; have := h0_2.size; have := h0_3.size; have := h0_4.size; have := h0_5.size; have := h0_7.size; have := h1_1.size; have := h1_5.size; have := h1_10.size; have := h1_20.size; have := h1_25.size; have := hg3_0; omega)) (he ▸ hk)), (fun q h1 h2 _ he => by have := hV.blk_lt edgeV_row h2 h1; have := L21.size; have := hg3_0; omega), hn⟩
      have zi6_2 := look_ok 9 [] (by decide) to noFnd w5_1 zE6_2 (bs := w5_1.heap.size) (Nat.le_refl _) (OVec.nil _ _ _ _ _ _) (by decide) (fun _ => rfl) (fun _ h => hft h.symm) (by simp [rowOf]) (best_none f29)
      refine W.ef rfl rfl rfl ?_
      refine Ef.callC go37 rfl rfl rfl (zi6_2) ?_
      rintro _ w6_2 ⟨rfl, ⟨Aw6_2, cw6_2, An6_2, cn6_2, Ad6_2, cd6_2, bp6_2, ow6_2, on6_2, od6_2, he6_2, hl6_2, hm6_2, hd6_2⟩, h6_2⟩
      refine ⟨_, rfl, ?_⟩
      have L33 := L24.chP_then h6_2 (fun i hi => (by subst hi; exact Nat.le_trans L21.size hg3_0))
      refine W.nx (WC.seq (WC.sr ?_))
      refine W.a (.field0 fa71_0 rfl) ?_
      refine W.r (.loadB (v := .slice Aw6_2 ((lookR g m fr to a x 9 [] to noFnd).way.length) cw6_2) na22 rfl bp6_2 rfl) ?_
      refine W.a (.isNil Tryz.underlying22 rfl) ?_
      refine W.nx ?_
      by_cases c1 : Aw6_2.isNone = true
      ·refine WC.condY rfl (c1) ?_
       refine WC.sr ?_
       refine W.a (.buildP [.slice none 0 0, .slice none 0 0] pl33 z33 rfl rfl) ?_
       refine W.run 1 rfl ?_
       have f34 := (((b0_7.le (h1_1.trans (h1_5.trans (h1_10.trans (h1_20.trans (h1_25.trans (h3_0.trans h4_0))))))).ch h5_1 (fun h => (show g4_0 ≠ g0_7 from by have := b0_7.lt; have := h1_1.size; have := h1_5.size; have := h1_10.size; have := h1_20.size; have := h1_25.size; have := h3_0.size; omega) (Option.some.inj h))).chP h6_2 (fun hF => (show g0_7 ≠ g3_0 from by have := b0_7.lt; have := h1_1.size; have := h1_5.size; have := h1_10.size; have := h1_20.size; have := h1_25.size; omega) hF))
       refine W.ef0 rfl rfl ?_
       refine Ef.storeAll sz33 (by rfl) rfl rfl f34 (by rfl) (by simp [Value.oneCell']) ?_
       intro w8_2 b8_2 h8_2
       have b8_2 : Blk w8_2 g0_7 33 #[.slice none 0 0, .slice none 0 0] := b8_2
       have L35 := L33.then_ h8_2 (fun q hq => by cases hq; exact Nat.le_trans L6.size hg0_7)
       refine W.run 1 rfl (W.nx (WC.ret (E.thenR ?_)))
       refine E.retG3 rfl rfl (resA rfl b8_2 ag33 (by rfl)) rfl ?_
       rw [bestR_none hbad (Decidable.byContradiction fun hh => by have hs := ow6_2.vec.isSome edgeV_row (List.length_pos_iff.2 hh); have hc := c1; revert hc hs; cases Aw6_2 <;> simp)]
       exact ⟨none, 0, none, 0, none, 0, by simp only [digs_zero]; rfl, OVec.nil _ _ _ _ _ _, by simp only [digs_zero]; exact OVec.nil _ _ _ _ _ _, by simp only [digs_zero]; exact OVec.nil _ _ _ _ _ _, L35⟩
      refine WC.condN rfl ((Bool.eq_false_iff.2 c1)) ?_
      refine WC.sn (WC.seq ?_)
      refine WC.draw [0, 1, 2, 3, 4, 5, 6] mixed (by kernel_rfl) ?_
      intro w9 d9
      have L36 := L33.trans d9
      refine G.a rfl (.field0 fa71_0 rfl) ?_
      have f37 := (bp6_2.le d9)
      refine G.r rfl (.loadB (v := .slice Aw6_2 ((lookR g m fr to a x 9 [] to noFnd).way.length) cw6_2) na22 rfl f37 rfl) ?_
      refine G.a rfl (.field0 fa71_1 rfl) ?_
      refine G.r rfl (.bpart [.slice An6_2 ((digs (lookR g m fr to a x 9 [] to noFnd).odds.n).length) cn6_2, .slice Ad6_2 ((digs (lookR g m fr to a x 9 [] to noFnd).odds.d).length) cd6_2] ag33 rfl (by decide) rfl f37 rfl) ?_
      refine G.run 1 rfl ?_
      have f38 := ((((b0_7.le (h1_1.trans (h1_5.trans (h1_10.trans (h1_20.trans (h1_25.trans (h3_0.trans h4_0))))))).ch h5_1 (fun h => (show g4_0 ≠ g0_7 from by have := b0_7.lt; have := h1_1.size; have := h1_5.size; have := h1_10.size; have := h1_20.size; have := h1_25.size; have := h3_0.size; omega) (Option.some.inj h))).chP h6_2 (fun hF => (show g0_7 ≠ g3_0 from by have := b0_7.lt; have := h1_1.size; have := h1_5.size; have := h1_10.size; have := h1_20.size; have := h1_25.size; omega) hF)).le d9)
      refine G.ef0 rfl rfl rfl rfl ?_
      refine Ef.storeAll sz33 (by rfl) rfl rfl f38 (by rfl) (by simp [Value.oneCell']) ?_
      intro w9_5 b9_5 h9_5
      refine ⟨fun h => absurd h (ne_true_of_eq_false (by kernel_rfl)), ?_⟩
      have b9_5 : Blk w9_5 g0_7 33 #[.slice An6_2 ((digs (lookR g m fr to a x 9 [] to noFnd).odds.n).length) cn6_2, .slice Ad6_2 ((digs (lookR g m fr to a x 9 [] to noFnd).odds.d).length) cd6_2] := b9_5
      have L39 := L36.then_ h9_5 (fun q hq => by cases hq; exact Nat.le_trans L6.size hg0_7)
      refine G.run 1 rfl (G.nil (E.thenN (WC.ret ?_)))
      have f40 := ((ow6_2.le d9).ch h9_5 (fun q hq => by cases hq; exact (fun he => by have := (ow6_2.row he).1; have := b0_7.lt; have := h1_1.size; have := h1_5.size; have := h1_10.size; have := h1_20.size; have := h1_25.size; have := h3_0.size; have := h4_0.size; have := h5_1.size; omega)))
      have f41 := ((on6_2.le d9).ch h9_5 (fun q hq => by cases hq; exact (fun he => by have := (on6_2.row he).1; have := b0_7.lt; have := h1_1.size; have := h1_5.size; have := h1_10.size; have := h1_20.size; have := h1_25.size; have := h3_0.size; have := h4_0.size; have := h5_1.size; omega)))
      have f42 := ((od6_2.le d9).ch h9_5 (fun q hq => by cases hq; exact (fun he => by have := (od6_2.row he).1; have := b0_7.lt; have := h1_1.size; have := h1_5.size; have := h1_10.size; have := h1_20.size; have := h1_25.size; have := h3_0.size; have := h4_0.size; have := h5_1.size; omega)))
      refine E.retG3 rfl rfl (resA rfl b9_5 ag33 (by rfl)) rfl ?_
      rw [bestR_some hbad (fun hh => c1 (by rw [he6_2 hh]; rfl))]
      exact ⟨_, _, _, _, _, _, rfl, (f40.mono L24.size), (f41.mono L24.size), (f42.mono L24.size), L39⟩
     refine WC.condY rfl (congrArg not ((Bool.eq_false_iff.2 c0))) ?_
     refine WC.sr ?_
     refine W.a (.buildP [.slice none 0 0, .slice none 0 0] pl33 z33 rfl rfl) ?_
     refine W.run 1 rfl ?_
     have f43 := (b0_7.le (h1_1.trans (h1_5.trans (h1_10.trans (h1_20.trans h1_25)))))
     refine W.ef0 rfl rfl ?_
     refine Ef.storeAll sz33 (by rfl) rfl rfl f43 (by rfl) (by simp [Value.oneCell']) ?_
     intro w2_2_1 b2_2_1 h2_2_1
     have b2_2_1 : Blk w2_2_1 g0_7 33 #[.slice none 0 0, .slice none 0 0] := b2_2_1
     have L44 := L21.then_ h2_2_1 (fun q hq => by cases hq; exact Nat.le_trans L6.size hg0_7)
     refine W.run 1 rfl (W.nx (WC.ret (E.thenR ?_)))
     refine E.retG3 rfl rfl (resA rfl b2_2_1 ag33 (by rfl)) rfl ?_
     rw [bestR_bad (by unfold badR; simp [q1_3, q1_8, q1_13, q1_18, q1_23, c0])]
     exact ⟨none, 0, none, 0, none, 0, by simp only [digs_zero]; rfl, OVec.nil _ _ _ _ _ _, by simp only [digs_zero]; exact OVec.nil _ _ _ _ _ _, by simp only [digs_zero]; exact OVec.nil _ _ _ _ _ _, L44⟩
    refine W.a (.dec (.move rfl) (congrArg not ((Bool.eq_false_iff.2 q1_23)))) ?_
    refine W.run 4 rfl (W.nx (WC.condT rfl (WC.sr ?_)))
    refine W.a (.buildP [.slice none 0 0, .slice none 0 0] pl33 z33 rfl rfl) ?_
    refine W.run 1 rfl ?_
    have f45 := (b0_7.le (h1_1.trans (h1_5.trans (h1_10.trans h1_20))))
    refine W.ef0 rfl rfl ?_
    refine Ef.storeAll sz33 (by rfl) rfl rfl f45 (by rfl) (by simp [Value.oneCell']) ?_
    intro w2_2_2 b2_2_2 h2_2_2
    have b2_2_2 : Blk w2_2_2 g0_7 33 #[.slice none 0 0, .slice none 0 0] := b2_2_2
    have L46 := L19.then_ h2_2_2 (fun q hq => by cases hq; exact Nat.le_trans L6.size hg0_7)
    refine W.run 1 rfl (W.nx (WC.ret (E.thenR ?_)))
    refine E.retG3 rfl rfl (resA rfl b2_2_2 ag33 (by rfl)) rfl ?_
    rw [bestR_bad (by unfold badR; simp [q1_3, q1_8, q1_13, q1_18, q1_23])]
    exact ⟨none, 0, none, 0, none, 0, by simp only [digs_zero]; rfl, OVec.nil _ _ _ _ _ _, by simp only [digs_zero]; exact OVec.nil _ _ _ _ _ _, by simp only [digs_zero]; exact OVec.nil _ _ _ _ _ _, L46⟩
   refine W.a (.dec (.move rfl) (congrArg not ((Bool.eq_false_iff.2 q1_13)))) ?_
   refine W.run 14 rfl (W.nx (WC.condT rfl (WC.sr ?_)))
   refine W.a (.buildP [.slice none 0 0, .slice none 0 0] pl33 z33 rfl rfl) ?_
   refine W.run 1 rfl ?_
   have f47 := (b0_7.le (h1_1.trans (h1_5.trans h1_10)))
   refine W.ef0 rfl rfl ?_
   refine Ef.storeAll sz33 (by rfl) rfl rfl f47 (by rfl) (by simp [Value.oneCell']) ?_
   intro w2_2_3 b2_2_3 h2_2_3
   have b2_2_3 : Blk w2_2_3 g0_7 33 #[.slice none 0 0, .slice none 0 0] := b2_2_3
   have L48 := L13.then_ h2_2_3 (fun q hq => by cases hq; exact Nat.le_trans L6.size hg0_7)
   refine W.run 1 rfl (W.nx (WC.ret (E.thenR ?_)))
   refine E.retG3 rfl rfl (resA rfl b2_2_3 ag33 (by rfl)) rfl ?_
   rw [bestR_bad (by unfold badR; simp [q1_3, q1_8, q1_13])]
   exact ⟨none, 0, none, 0, none, 0, by simp only [digs_zero]; rfl, OVec.nil _ _ _ _ _ _, by simp only [digs_zero]; exact OVec.nil _ _ _ _ _ _, by simp only [digs_zero]; exact OVec.nil _ _ _ _ _ _, L48⟩
  refine W.a (.dec (.move rfl) (congrArg not ((Bool.eq_false_iff.2 q1_8)))) ?_
  refine W.run 19 rfl (W.nx (WC.condT rfl (WC.sr ?_)))
  refine W.a (.buildP [.slice none 0 0, .slice none 0 0] pl33 z33 rfl rfl) ?_
  refine W.run 1 rfl ?_
  have f49 := (b0_7.le (h1_1.trans h1_5))
  refine W.ef0 rfl rfl ?_
  refine Ef.storeAll sz33 (by rfl) rfl rfl f49 (by rfl) (by simp [Value.oneCell']) ?_
  intro w2_2_4 b2_2_4 h2_2_4
  have b2_2_4 : Blk w2_2_4 g0_7 33 #[.slice none 0 0, .slice none 0 0] := b2_2_4
  have L50 := L11.then_ h2_2_4 (fun q hq => by cases hq; exact Nat.le_trans L6.size hg0_7)
  refine W.run 1 rfl (W.nx (WC.ret (E.thenR ?_)))
  refine E.retG3 rfl rfl (resA rfl b2_2_4 ag33 (by rfl)) rfl ?_
  rw [bestR_bad (by unfold badR; simp [q1_3, q1_8])]
  exact ⟨none, 0, none, 0, none, 0, by simp only [digs_zero]; rfl, OVec.nil _ _ _ _ _ _, by simp only [digs_zero]; exact OVec.nil _ _ _ _ _ _, by simp only [digs_zero]; exact OVec.nil _ _ _ _ _ _, L50⟩
 refine W.a (.dec (.move rfl) (congrArg not ((Bool.eq_false_iff.2 q1_3)))) ?_
 refine W.run 24 rfl (W.nx (WC.condT rfl (WC.sr ?_)))
 refine W.a (.buildP [.slice none 0 0, .slice none 0 0] pl33 z33 rfl rfl) ?_
 refine W.run 1 rfl ?_
 have f51 := (b0_7.le h1_1)
 refine W.ef0 rfl rfl ?_
 refine Ef.storeAll sz33 (by rfl) rfl rfl f51 (by rfl) (by simp [Value.oneCell']) ?_
 intro w2_2_5 b2_2_5 h2_2_5
 have b2_2_5 : Blk w2_2_5 g0_7 33 #[.slice none 0 0, .slice none 0 0] := b2_2_5
 have L52 := L9.then_ h2_2_5 (fun q hq => by cases hq; exact Nat.le_trans L6.size hg0_7)
 refine W.run 1 rfl (W.nx (WC.ret (E.thenR ?_)))
 refine E.retG3 rfl rfl (resA rfl b2_2_5 ag33 (by rfl)) rfl ?_
 rw [bestR_bad (by unfold badR; simp [q1_3])]
 exact ⟨none, 0, none, 0, none, 0, by simp only [digs_zero]; rfl, OVec.nil _ _ _ _ _ _, by simp only [digs_zero]; exact OVec.nil _ _ _ _ _ _, by simp only [digs_zero]; exact OVec.nil _ _ _ _ _ _, L52⟩
end Go.Proofs.YtmkdeemjkcigkaaGreatDoor

namespace Go.Proofs.YtmkdeemjkcigkaaGreatDoor
open Go Go.Sx Go.Num Go.Gsp Go.Nsp Go.Msp Go.Rtp
set_option maxRecDepth 20000
def knV (q : Kn) : List Value := [.int .i64 q.p, .int .i64 q.d, .int .i64 q.a]
theorem knV_row : RowF knV 3 := ⟨fun _ => rfl, fun x v hv => by simp [knV] at hv; rcases hv with rfl | rfl | rfl <;> rfl, by decide⟩
def I64n (x : Int) : Prop := -9223372036854775808 ≤ x ∧ x ≤ 9223372036854775807
theorem apart_vec {α : Type} {w : World} {base e s : Nat} {f : α → List Value} {A : Option Addr} {m c : Nat} {xs : List α} {F : Nat → Prop} (h : OVec w base e f s A m c xs) (hn : ∀ g, rowOf A c = some g → ¬ F g) : ∀ q, blkOf A = some q → 0 < m → q < w.heap.size → ¬ F q := by
  intro q h1 h2 _
  have := h.cap.1
  exact hn q (by unfold rowOf; rw [if_neg (by omega)]; exact h1)
theorem getD_in {α : Type} {l : List α} {z : α} {k : Nat} (h : k < l.length) : l.getD k z ∈ l := by
  have : l.getD k z = l[k] := by simp [List.getD, h]
  rw [this]; exact List.getElem_mem h
theorem mind_next {g : List Gsp.Edge} {l : List Kn} {k : Nat} (hk : k < l.length) : (l.take (k + 1)).foldl (mindS g) (fun _ => none) = mindS g ((l.take k).foldl (mindS g) (fun _ => none)) (l.getD k noKn) := by
  rw [List.take_add_one, List.foldl_append]
  simp [List.getD, hk]
theorem rows_next {g : List Gsp.Edge} {l : List Int} {k : Nat} (hk : k < l.length) : rowsG g (l.take (k + 1)) = rowsG g (l.take k) ++ rowG g (l.getD k 0) := by
  unfold rowsG
  rw [List.take_add_one, List.flatMap_append]
  simp [List.getD, hk]
theorem rows_yes {g : List Gsp.Edge} {l : List Int} {k : Nat} (hk : k < l.length) (h : 0 ≤ l.getD k 0 ∧ l.getD k 0 < g.length) : rowsG g (l.take (k + 1)) = rowsG g (l.take k) ++ [g.getD (l.getD k 0).toNat noEdge] := by
  rw [rows_next hk]; unfold rowG; rw [if_pos h]
theorem rows_no {g : List Gsp.Edge} {l : List Int} {k : Nat} (hk : k < l.length) (h : ¬ (0 ≤ l.getD k 0 ∧ l.getD k 0 < g.length)) : rowsG g (l.take (k + 1)) = rowsG g (l.take k) := by
  rw [rows_next hk]; unfold rowG; rw [if_neg h, List.append_nil]
theorem rledge_ok (c f t : Int) (w : World) : Calls Tryz.prog 28 #[.int .i64 (c), .int .i64 (f), .int .i64 (t)] w fun r w' => r = .returned (.agg (edgeV ⟨f, t, c, 1000, ⟨1, 0, 5, 1, 1000⟩⟩).toArray) ∧ Le w w' := by
 refine enter Tryz.func28 rfl rfl ?_
 have L0 := Le.refl w
 refine WC.sr (W.ef rfl rfl rfl ?_)
 refine Ef.allocA z51 ?_
 intro g0_0 w0_0 hg0_0 b0_0 h0_0
 have L1 := L0.trans h0_0
 have b0_0 : Blk w0_0 g0_0 51 (edgeV noEdge).toArray := b0_0
 refine W.nx (WC.sr (W.run 3 rfl ?_))
 refine W.a (.buildP (polV (⟨1, 0, 5, 1, 1000⟩)) pl49 z49 rfl rfl) ?_
 refine W.a (.buildP (edgeV (⟨f, t, c, 1000, ⟨1, 0, 5, 1, 1000⟩⟩)) pl51 z51 rfl rfl) ?_
 refine W.ef0 rfl rfl ?_
 refine Ef.storeAll sz51 (by rfl) rfl rfl b0_0 (by simp only [List.size_toArray, edgeV_row.len]) (edgeV_row.one (⟨f, t, c, 1000, ⟨1, 0, 5, 1, 1000⟩⟩)) ?_
 intro w1_5 b1_5 h1_5
 have b1_5 : Blk w1_5 g0_0 51 (edgeV (⟨f, t, c, 1000, ⟨1, 0, 5, 1, 1000⟩⟩)).toArray := b1_5
 have L2 := L1.then_ h1_5 (fun q hq => by cases hq; exact Nat.le_trans L0.size hg0_0)
 refine W.nx (WC.ret ?_)
 refine E.retG1 rfl (resA rfl b1_5 ag51 (by rfl)) ?_
 exact ⟨rfl, L2⟩

theorem few_ok {A A2 : Option Addr} {n c n2 c2 : Nat} (w : World) : Calls Tryz.prog 8 #[.slice A n c, .slice A2 n2 c2] w fun r w' => r = .returned (.bool (decide (n ≤ 12) && decide (n2 ≤ 20))) ∧ Le w w' := by
 refine enter Tryz.func8 rfl rfl ?_
 have L0 := Le.refl w
 refine WC.sr (W.run 1 rfl (W.nx (WC.sr (W.run 1 rfl ?_))))
 refine W.r (.len Tryz.underlying22 rfl) ?_
 refine W.run 1 rfl ?_
 by_cases q1_3 : ((n : Nat) : Int) ≤ 12
 ·refine W.dt q1_3 rfl rfl (W.run 1 rfl ?_)
  refine W.g (.len Tryz.underlying23 rfl) ?_
  refine W.run 3 rfl (W.nx (WC.ret ?_))
  refine E.retG1 rfl rfl ?_
  exact ⟨rB (Bool.eq_iff_iff.2 (by simp only [Bool.and_eq_true, decide_eq_true_eq, Bool.false_eq_true, false_iff, not_and]; omega)), L0⟩
 refine W.df q1_3 rfl rfl (W.run 5 rfl (W.nx (WC.ret ?_)))
 refine E.retG1 rfl rfl ?_
 exact ⟨rB (Bool.eq_iff_iff.2 (by simp only [Bool.and_eq_true, decide_eq_true_eq, Bool.false_eq_true, false_iff, not_and]; omega)), L0⟩

theorem mind_ok {A A2 : Option Addr} {n c n2 c2 : Nat} {g : List Gsp.Edge} {l : List Kn} (w : World) (hV : Vec w edgeV 9 A n g) (hL : Vec w knV 3 A2 n2 l) (hgl : ∀ q ∈ l, I64n q.d) (hn : n ≤ 9223372036854775807) (hn2 : n2 ≤ 9223372036854775807) : Calls Tryz.prog 9 #[.slice A n c, .slice A2 n2 c2] w fun r w' => ∃ gp F, r = .returned (.pointer (some ⟨gp, 0, none⟩)) ∧ MPool w' w.heap.size gp F (mindG g l) ∧ Le w w' := by
 have hl := hV.1; have hl2 := hL.1
 refine enter Tryz.func9 rfl rfl ?_
 have L0 := Le.refl w
 refine WC.sr (W.run 1 rfl (W.nx (WC.sr ?_)))
 refine W.cl go29 rfl rfl (new_mind w) ?_
 rintro _ w1_0 ⟨gp1_0, F1_0, rfl, p1_0, h1_0⟩
 have L1 := L0.trans h1_0
 refine W.run 1 rfl (W.nx (WC.seq (WC.sr (W.run 1 rfl ?_))))
 refine W.a (.dec (.isNilP (by kernel_rfl) rfl) rfl) ?_
 refine W.nx (WC.condF rfl (WC.sn (WC.seq (WC.sr (W.run 1 rfl (W.nx (WC.block ?_)))))))
 refine WC.loop (ι := Nat) (fun k => [(0, .slice A n c), (1, .slice A2 n2 c2), (5, .pointer (some ⟨gp1_0, 0, none⟩)), (6, .int .i64 (((k : Nat) : Int)))]) (fun k wl0 => (k ≤ n2) ∧ Le w wl0 ∧ w1_0.heap.size ≤ wl0.heap.size ∧ MPool wl0 w.heap.size gp1_0 F1_0 ((l.take k).foldl (mindS g) (fun _ => none))) (fun k => n2 - k) 0 ?_ ?_ ?_
 ·exact .cons rfl (.cons rfl (.cons rfl (.cons rfl (.nil _))))
 ·exact ⟨Nat.zero_le _, L1, Nat.le_refl _, p1_0⟩
 rintro k wl0 ⟨hk, Ll0, zl0, f0_0⟩
 refine WC.seq (WC.sr (W.run 2 rfl ?_))
 refine W.r (.len Tryz.underlying23 rfl) ?_
 refine W.run 1 rfl (W.nx ?_)
 by_cases c1 : ((k : Nat) : Int) < ((n2 : Nat) : Int)
 ·refine WC.condY rfl (decide_eq_true c1) ?_
  have hd64 := hgl (l.getD k noKn) (getD_in (z := noKn) (by omega))
  unfold I64n at hd64
  have hnx := mind_next (g := g) (l := l) (k := k) (by omega)
  refine WC.sn (WC.seq (WC.block (WC.seq (WC.sr (W.run 2 rfl ?_)))))
  refine W.a (.idxS (k) Tryz.underlying23 sz66 rfl rfl (hL.isSome knV_row (by omega)) (rfl) (by omega)) ?_
  refine W.a (.vfield fa66_0 (hL.isSome knV_row (by omega)) rfl) ?_
  refine W.r (.vcell (j := k) (o := 0) (v := .int .i64 ((l.getD k noKn).p)) na3 rfl (hL.le Ll0) knV_row (getS l noKn (by omega)) rfl) ?_
  refine W.run 1 rfl ?_
  by_cases q7_6 : ((l.getD k noKn).p) < 0
  ·refine W.dt q7_6 rfl rfl (W.run 9 rfl (W.nx (WC.condT rfl ?_)))
   have hms : ((l.take (k + 1)).foldl (mindS g) (fun _ => none)) = ((l.take k).foldl (mindS g) (fun _ => none)) := (by rw [hnx]; unfold mindS; exact if_pos (by omega))
   refine WC.exit (E.thenX (E.blkH (E.thenN (WC.region (W.run 1 rfl ?_)))))
   refine W.a (.add rfl rfl (by omega)) ?_
   refine W.run 1 rfl (W.nil ?_)
   refine E.again (k + 1) (.cons rfl (.cons rfl (.cons rfl (.cons rfl (.nil _))))) ?_ ?_
   ·exact ⟨by omega, Ll0, by have := zl0; omega, (by rw [hnx]; unfold mindS; first | (rw [if_pos (by omega)]; exact f0_0) | (rw [if_neg (by omega), if_pos (by omega)]; exact f0_0) | (rw [if_neg (by omega), if_neg (by omega)]; exact f0_0))⟩
   first | omega | (simp only []; omega)
  refine W.df q7_6 rfl rfl (W.run 2 rfl ?_)
  refine W.g (Any.rd (.idxS (k) Tryz.underlying23 sz66 rfl rfl (hL.isSome knV_row (by omega)) (rfl) (by omega)) _) ?_
  refine W.g (Any.rd (.vfield fa66_0 (hL.isSome knV_row (by omega)) rfl) _) ?_
  refine W.g (.vcell (j := k) (o := 0) (v := .int .i64 ((l.getD k noKn).p)) na3 rfl (hL.le Ll0) knV_row (getS l noKn (by omega)) rfl) ?_
  refine W.run 1 rfl ?_
  refine W.g (.len Tryz.underlying22 rfl) ?_
  refine W.run 2 rfl (W.nx ?_)
  by_cases c2 : ((n : Nat) : Int) ≤ ((l.getD k noKn).p)
  ·refine WC.condY rfl (decide_eq_true c2) ?_
   have hms : ((l.take (k + 1)).foldl (mindS g) (fun _ => none)) = ((l.take k).foldl (mindS g) (fun _ => none)) := (by rw [hnx]; unfold mindS; exact if_pos (by omega))
   refine WC.exit (E.thenX (E.blkH (E.thenN (WC.region (W.run 1 rfl ?_)))))
   refine W.a (.add rfl rfl (by omega)) ?_
   refine W.run 1 rfl (W.nil ?_)
   refine E.again (k + 1) (.cons rfl (.cons rfl (.cons rfl (.cons rfl (.nil _))))) ?_ ?_
   ·exact ⟨by omega, Ll0, by have := zl0; omega, (by rw [hnx]; unfold mindS; first | (rw [if_pos (by omega)]; exact f0_0) | (rw [if_neg (by omega), if_pos (by omega)]; exact f0_0) | (rw [if_neg (by omega), if_neg (by omega)]; exact f0_0))⟩
   first | omega | (simp only []; omega)
  refine WC.condN rfl (decide_eq_false c2) ?_
  refine WC.sn (WC.sr (W.run 2 rfl ?_))
  refine W.a (.idxS (k) Tryz.underlying23 sz66 rfl rfl (hL.isSome knV_row (by omega)) (rfl) (by omega)) ?_
  refine W.a (.vfield fa66_1 (hL.isSome knV_row (by omega)) rfl) ?_
  refine W.r (.vcell (j := k) (o := 1) (v := .int .i64 ((l.getD k noKn).d)) na3 rfl (hL.le Ll0) knV_row (getS l noKn (by omega)) rfl) ?_
  refine W.a (.and1 rfl rfl (by omega)) ?_
  refine W.run 1 rfl (W.nx ?_)
  by_cases c3 : (((l.getD k noKn).d) % 2) = 0
  ·refine WC.condY rfl (decide_eq_true c3) ?_
   refine WC.draw [0, 1, 2, 3, 4, 5, 6, 7, 8, 9, 10, 11, 12, 13, 14] mixed (by kernel_rfl) ?_
   intro w9 d9
   have L2 := Ll0.trans d9
   refine G.run 4 rfl ?_
   refine G.a rfl (.idxS (k) Tryz.underlying23 sz66 rfl rfl (hL.isSome knV_row (by omega)) (rfl) (by omega)) ?_
   refine G.a rfl (.vfield fa66_0 (hL.isSome knV_row (by omega)) rfl) ?_
   refine G.r rfl (.vcell (j := k) (o := 0) (v := .int .i64 ((l.getD k noKn).p)) na3 rfl (hL.le L2) knV_row (getS l noKn (by omega)) rfl) ?_
   refine G.a rfl (.idxS ((l.getD k noKn).p.toNat) Tryz.underlying22 sz51 rfl rfl (hV.isSome edgeV_row (by omega)) (by omega) (by omega)) ?_
   refine G.r rfl (.vload ag51 rfl (hV.le L2) edgeV_row (getS g noEdge (by omega))) ?_
   refine G.run 2 rfl ?_
   refine G.a rfl (.idxS (k) Tryz.underlying23 sz66 rfl rfl (hL.isSome knV_row (by omega)) (rfl) (by omega)) ?_
   refine G.a rfl (.vfield fa66_2 (hL.isSome knV_row (by omega)) rfl) ?_
   refine G.r rfl (.vcell (j := k) (o := 2) (v := .int .i64 ((l.getD k noKn).a)) na3 rfl (hL.le L2) knV_row (getS l noKn (by omega)) rfl) ?_
   have f3 := (f0_0.le d9)
   refine G.ef rfl rfl rfl rfl rfl ?_
   refine Ef.call go31 rfl rfl (fail_mind (g.getD ((l.getD k noKn).p.toNat) noEdge) ((l.getD k noKn).a) f3) ?_
   rintro _ w9_14 ⟨rfl, p9_14, g9_14, h9_14⟩
   refine ⟨_, rfl, ?_⟩
   refine ⟨fun h => absurd h (ne_true_of_eq_false (by kernel_rfl)), ?_⟩
   have L4 := L2.chP_then h9_14 (fun i hi => Nat.le_trans L0.size (f3.old hi))
   refine G.nil (E.blkN (E.thenN (WC.region (W.run 1 rfl ?_))))
   refine W.a (.add rfl rfl (by omega)) ?_
   refine W.run 1 rfl (W.nil ?_)
   refine E.again (k + 1) (.cons rfl (.cons rfl (.cons rfl (.cons rfl (.nil _))))) ?_ ?_
   ·exact ⟨by omega, L4, by have := zl0; have := d9.size; have := h9_14.size; omega, (by rw [hnx]; unfold mindS; first | (rw [if_pos (by omega)]; exact p9_14) | (rw [if_neg (by omega), if_pos (by omega)]; exact p9_14) | (rw [if_neg (by omega), if_neg (by omega)]; exact p9_14))⟩
   first | omega | (simp only []; omega)
  refine WC.condN rfl (decide_eq_false c3) ?_
  refine WC.draw [0, 1, 2, 3, 4, 5, 6, 7, 8, 9, 10, 11, 12, 13, 14] mixed (by kernel_rfl) ?_
  intro w10 d10
  have L5 := Ll0.trans d10
  refine G.run 4 rfl ?_
  refine G.a rfl (.idxS (k) Tryz.underlying23 sz66 rfl rfl (hL.isSome knV_row (by omega)) (rfl) (by omega)) ?_
  refine G.a rfl (.vfield fa66_0 (hL.isSome knV_row (by omega)) rfl) ?_
  refine G.r rfl (.vcell (j := k) (o := 0) (v := .int .i64 ((l.getD k noKn).p)) na3 rfl (hL.le L5) knV_row (getS l noKn (by omega)) rfl) ?_
  refine G.a rfl (.idxS ((l.getD k noKn).p.toNat) Tryz.underlying22 sz51 rfl rfl (hV.isSome edgeV_row (by omega)) (by omega) (by omega)) ?_
  refine G.r rfl (.vload ag51 rfl (hV.le L5) edgeV_row (getS g noEdge (by omega))) ?_
  refine G.run 2 rfl ?_
  refine G.a rfl (.idxS (k) Tryz.underlying23 sz66 rfl rfl (hL.isSome knV_row (by omega)) (rfl) (by omega)) ?_
  refine G.a rfl (.vfield fa66_2 (hL.isSome knV_row (by omega)) rfl) ?_
  refine G.r rfl (.vcell (j := k) (o := 2) (v := .int .i64 ((l.getD k noKn).a)) na3 rfl (hL.le L5) knV_row (getS l noKn (by omega)) rfl) ?_
  have f6 := (f0_0.le d10)
  refine G.ef rfl rfl rfl rfl rfl ?_
  refine Ef.call go32 rfl rfl (pass_mind (g.getD ((l.getD k noKn).p.toNat) noEdge) ((l.getD k noKn).a) f6) ?_
  rintro _ w10_14 ⟨rfl, p10_14, g10_14, h10_14⟩
  refine ⟨_, rfl, ?_⟩
  refine ⟨fun h => absurd h (ne_true_of_eq_false (by kernel_rfl)), ?_⟩
  have L7 := L5.chP_then h10_14 (fun i hi => Nat.le_trans L0.size (f6.old hi))
  refine G.nil (E.blkN (E.thenN (WC.region (W.run 1 rfl ?_))))
  refine W.a (.add rfl rfl (by omega)) ?_
  refine W.run 1 rfl (W.nil ?_)
  refine E.again (k + 1) (.cons rfl (.cons rfl (.cons rfl (.cons rfl (.nil _))))) ?_ ?_
  ·exact ⟨by omega, L7, by have := zl0; have := d10.size; have := h10_14.size; omega, (by rw [hnx]; unfold mindS; first | (rw [if_pos (by omega)]; exact p10_14) | (rw [if_neg (by omega), if_pos (by omega)]; exact p10_14) | (rw [if_neg (by omega), if_neg (by omega)]; exact p10_14))⟩
  first | omega | (simp only []; omega)
 refine WC.condN rfl (decide_eq_false c1) ?_
 refine WC.exit (E.thenX (E.thenX (E.blkH (E.thenN (WC.sr (W.run 2 rfl (W.nx (WC.ret ?_))))))))
 refine E.retG1 rfl rfl ?_
 have hke : k = n2 := (by omega)
 subst hke
 rw [show MPool = MPool from rfl]
 exact ⟨_, _, rfl, (by have h := f0_0; rw [← hl2, List.take_length] at h; exact h), Ll0⟩

theorem rows_ok {A A2 : Option Addr} {n c n2 c2 : Nat} {g : List Gsp.Edge} {ps : List Int} (w : World) (hV : Vec w edgeV 9 A n g) (hL : Vec w iv 1 A2 n2 ps) (hn : n ≤ 9223372036854775807) (hn2 : n2 ≤ 1000000) : Calls Tryz.prog 13 #[.slice A n c, .slice A2 n2 c2] w fun r w' => ∃ A' c', r = .returned (.slice A' (rowsG g ps).length c') ∧ OVec w' w.heap.size 51 edgeV 9 A' (rowsG g ps).length c' (rowsG g ps) ∧ Le w w' := by
 have hl := hV.1; have hl2 := hL.1
 refine enter Tryz.func13 rfl rfl ?_
 have L0 := Le.refl w
 refine WC.sr (W.run 1 rfl (W.nx (WC.sr (W.run 1 rfl (W.nx (WC.seq (WC.sr (W.run 1 rfl (W.nx (WC.block ?_))))))))))
 refine WC.loop (ι := Nat × ((Option Addr)) × Nat) (fun ⟨k, Ar, cr⟩ => [(0, .slice A n c), (1, .slice A2 n2 c2), (5, .slice Ar ((rowsG g (ps.take k)).length) cr), (6, .int .i64 (((k : Nat) : Int)))]) (fun ⟨k, Ar, cr⟩ wl0 => (k ≤ n2) ∧ Le w wl0 ∧ w.heap.size ≤ wl0.heap.size ∧ OVec wl0 w.heap.size 51 edgeV 9 Ar ((rowsG g (ps.take k)).length) cr (rowsG g (ps.take k))) (fun ⟨k, Ar, cr⟩ => n2 - k) (0, none, 0) ?_ ?_ ?_
 ·exact .cons rfl (.cons rfl (.cons rfl (.cons rfl (.nil _))))
 ·exact ⟨Nat.zero_le _, L0, Nat.le_refl _, (OVec.nil w w.heap.size 51 edgeV 9 none)⟩
 rintro ⟨k, Ar, cr⟩ wl0 ⟨hk, Ll0, zl0, f0_0⟩
 have lb0_3 : w.heap.size ≤ wl0.heap.size := by omega
 have hrl := rowsG_len (g := g) (ps.take k)
 have htl := List.length_take_le k ps
 refine WC.seq (WC.sr (W.run 2 rfl ?_))
 refine W.r (.len Tryz.underlying24 rfl) ?_
 refine W.run 1 rfl (W.nx ?_)
 by_cases c0 : ((k : Nat) : Int) < ((n2 : Nat) : Int)
 ·refine WC.condY rfl (decide_eq_true c0) ?_
  refine WC.sn (WC.seq (WC.block (WC.sr (W.run 2 rfl ?_))))
  refine W.a (.idxS (k) Tryz.underlying24 sz3 rfl rfl (hL.isSome iv_row (by omega)) (rfl) (by omega)) ?_
  refine W.r (.vone (v := .int .i64 ((ps.getD k 0))) na3 rfl (hL.le Ll0) iv_row (getS ps 0 (by omega)) rfl) ?_
  refine W.run 1 rfl ?_
  by_cases q5_5 : 0 ≤ (ps.getD k 0)
  ·refine W.dt q5_5 rfl rfl (W.run 2 rfl ?_)
   refine W.g (Any.rd (.idxS (k) Tryz.underlying24 sz3 rfl rfl (hL.isSome iv_row (by omega)) (rfl) (by omega)) _) ?_
   refine W.g (.vone (v := .int .i64 ((ps.getD k 0))) na3 rfl (hL.le Ll0) iv_row (getS ps 0 (by omega)) rfl) ?_
   refine W.run 1 rfl ?_
   refine W.g (.len Tryz.underlying22 rfl) ?_
   refine W.run 2 rfl (W.nx ?_)
   by_cases c1 : (ps.getD k 0) < ((n : Nat) : Int)
   ·refine WC.condY rfl (decide_eq_true c1) ?_
    refine WC.region (W.run 4 rfl ?_)
    refine W.a (.idxS (k) Tryz.underlying24 sz3 rfl rfl (hL.isSome iv_row (by omega)) (rfl) (by omega)) ?_
    refine W.r (.vone (v := .int .i64 ((ps.getD k 0))) na3 rfl (hL.le Ll0) iv_row (getS ps 0 (by omega)) rfl) ?_
    refine W.a (.idxS ((ps.getD k 0).toNat) Tryz.underlying22 sz51 rfl rfl (hV.isSome edgeV_row (by omega)) (by omega) (by omega)) ?_
    refine W.r (.vload ag51 rfl (hV.le Ll0) edgeV_row (getS g noEdge (by omega))) ?_
    refine W.ef rfl rfl rfl ?_
    refine Ef.buildSliceV (len := 1) [_] Tryz.underlying22 el51 rfl (by simp [Value.cells, edgeV_row.len]) rfl (by decide) (by decide) ?_
    intro g6_8 w6_8 hg6_8 b6_8 h6_8
    have L1 := Ll0.trans h6_8
    have b6_8 : Blk w6_8 g6_8 51 (([g.getD ((ps.getD k 0).toNat) noEdge]).map edgeV).flatten.toArray := b6_8
    have o6_8 : OVec w6_8 wl0.heap.size 51 edgeV 9 (some ⟨g6_8, 0, none⟩) 1 1 ([g.getD ((ps.getD k 0).toNat) noEdge]) := b6_8.ovec hg6_8 edgeV_row rfl rfl (by decide)
    have f2 := (f0_0.le h6_8)
    refine W.ef rfl rfl rfl ?_
    refine Ef.vpush (a := (g.getD ((ps.getD k 0).toNat) noEdge)) Tryz.underlying22 el51 Tryz.underlying22 edgeV_row rfl f2 rfl b6_8 (by omega) (by unfold maxLen; omega) (by have := lb0_3; have := h6_8.size; omega) ?_
    intro A6_9 c6_9 w6_9 o6_9 h6_9 at6_9
    have L3 := L1.then_ h6_9 (fun q hq => Nat.le_trans L0.size (f2.row hq).1)
    refine W.run 1 rfl (W.nil (E.blkN (E.thenN (WC.region (W.run 1 rfl ?_)))))
    refine W.a (.add rfl rfl (by omega)) ?_
    refine W.run 1 rfl (W.nil ?_)
    refine E.again (k + 1, A6_9, c6_9) (.cons rfl (.cons rfl (.cons' rfl (slice_eq (by rw [rows_yes (g := g) (l := ps) (k := k) (by omega) (by omega)]; try (simp; done))) (.cons rfl (.nil _))))) ?_ ?_
    ·exact ⟨by omega, L3, by have := zl0; have := h6_8.size; have := h6_9.size; omega, (o6_9.cast (by rw [rows_yes (g := g) (l := ps) (k := k) (by omega) (by omega)]; try (simp; done)) (by rw [rows_yes (g := g) (l := ps) (k := k) (by omega) (by omega)]))⟩
    first | omega | (simp only []; omega)
   refine WC.condN rfl (decide_eq_false c1) ?_
   refine WC.skip (E.blkN (E.thenN (WC.region (W.run 1 rfl ?_))))
   refine W.a (.add rfl rfl (by omega)) ?_
   refine W.run 1 rfl (W.nil ?_)
   refine E.again (k + 1, Ar, cr) (.cons rfl (.cons rfl (.cons' rfl (slice_eq (by rw [rows_no (g := g) (l := ps) (k := k) (by omega) (by omega)]; try (simp; done))) (.cons rfl (.nil _))))) ?_ ?_
   ·exact ⟨by omega, Ll0, by have := zl0; omega, (f0_0.cast (by rw [rows_no (g := g) (l := ps) (k := k) (by omega) (by omega)]; try (simp; done)) (by rw [rows_no (g := g) (l := ps) (k := k) (by omega) (by omega)]))⟩
   first | omega | (simp only []; omega)
  refine W.df q5_5 rfl rfl (W.run 8 rfl (W.nx (WC.condF rfl (WC.skip (E.blkN (E.thenN (WC.region (W.run 1 rfl ?_))))))))
  refine W.a (.add rfl rfl (by omega)) ?_
  refine W.run 1 rfl (W.nil ?_)
  refine E.again (k + 1, Ar, cr) (.cons rfl (.cons rfl (.cons' rfl (slice_eq (by rw [rows_no (g := g) (l := ps) (k := k) (by omega) (by omega)]; try (simp; done))) (.cons rfl (.nil _))))) ?_ ?_
  ·exact ⟨by omega, Ll0, by have := zl0; omega, (f0_0.cast (by rw [rows_no (g := g) (l := ps) (k := k) (by omega) (by omega)]; try (simp; done)) (by rw [rows_no (g := g) (l := ps) (k := k) (by omega) (by omega)]))⟩
  first | omega | (simp only []; omega)
 refine WC.condN rfl (decide_eq_false c0) ?_
 refine WC.exit (E.thenX (E.thenX (E.blkH (E.thenN (WC.sr (W.run 2 rfl (W.nx (WC.ret ?_))))))))
 refine E.retG1 rfl rfl ?_
 have hke : k = n2 := (by omega)
 subst hke
 exact ⟨_, _, by rw [← hl2, List.take_length], (by have h := (f0_0.mono L0.size); rw [← hl2, List.take_length] at h; exact h), Ll0⟩
end Go.Proofs.YtmkdeemjkcigkaaGreatDoor

