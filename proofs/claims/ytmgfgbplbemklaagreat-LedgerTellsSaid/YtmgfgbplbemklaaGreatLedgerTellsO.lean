/- LedgerTells: for every input the law answers true and leaves its arguments as they were. -/
import Derived.Test.YtmgfgbplbemklaaGreatLedgerTellsN
import Derived.OrdersHeld
import Derived.WalkKit
import Derived.Deep.AppendSrc
import Derived.Deep.MidRow
import Derived.Laws.OwnMore
import Derived.WalkSpells
import Derived.Lib.ConvBytes
import Derived.Lib.AppendZerosOnto
import Derived.Laws.StructEq
import Derived.Maps.RangeRun
import Derived.Laws.Pointers
import Derived.Test.YtmgfgbplbemklaaGreatProg
import Derived.KernelRfl
import Derived.Lib.Mul64
import Derived.Shelf.SlIterI.Nil
import Derived.Shelf.SortM.Plain
import Derived.Shelf.SortM.SortNone
import Derived.Ground.GgzProg
import Derived.Ground.SlgmProg
namespace Go.Proofs.YtmgfgbplbemklaaGreat
open Go Go.Sx Go.Num Go.Gsp Go.Lsp
set_option maxRecDepth 20000
set_option linter.unusedSimpArgs false
set_option linter.unusedVariables false
theorem set_getD {l : List Seat} {q : Nat} {u : Seat} (h : q < l.length) : (l.set q u).getD q noSeat = u := by simp [List.getD, h]
theorem set_getS {l : List Seat} {q : Nat} {u : Seat} (h : q < l.length) : (l.set q u)[q]? = some u := List.getElem?_set_self h
theorem set_same {l : List Seat} {q : Nat} (h : q < l.length) : l.set q (l.getD q noSeat) = l := by
  apply List.ext_getElem?
  intro i
  by_cases e : q = i
  · subst e
    rw [List.getElem?_set_self h, List.getD_eq_getElem?_getD, List.getElem?_eq_getElem h]
    rfl
  · rw [List.getElem?_set_ne e]
theorem pay_row {l : List Seat} {q : Nat} {A : Seat} {g : Leg} (h : q < l.length) (hA : A = (l.getD q noSeat).setH g.side.toNat ((l.getD q noSeat).h g.side.toNat - g.am)) : (l.set q A).set q (((l.set q A).getD q noSeat).setH (1 - g.side).toNat (((l.set q A).getD q noSeat).h (1 - g.side).toNat + g.am)) = l.set q (legS (l.getD q noSeat) g) := by
  subst hA
  rw [set_getD h, List.set_set]
  rfl
theorem payF_bad {ls : SM} {g : Leg} (h : ¬ legOk g) : (payF (ls, 0) g).2 = 1 := by rw [payF_0, if_pos h]
theorem payF_none {ls : SM} {g : Leg} (h : legOk g) (hn : getG g.ch ls = none) : (payF (ls, 0) g).2 = 5 := by rw [payF_0, if_neg (not_not_intro h), hn]
theorem payF_few {ls : SM} {g : Leg} {t : Seat} (h : legOk g) (hn : getG g.ch ls = some t) (hf : t.h g.side.toNat < g.am) : (payF (ls, 0) g).2 = 8 := by rw [payF_0, if_neg (not_not_intro h), hn]; simp only; rw [if_pos hf]
theorem payF_ok {ls : SM} {g : Leg} {t : Seat} (h : legOk g) (hn : getG g.ch ls = some t) (hf : ¬ t.h g.side.toNat < g.am) : payF (ls, 0) g = (updM g.ch (legS t g) ls, 0) := by rw [payF_0, if_neg (not_not_intro h), hn]; simp only; rw [if_neg hf]
def ledK (s : Led) (legs : List Leg) (k : Nat) : Led := ⟨s.own, (payTo s.ls (legs.take k)).1, s.cs, s.lh, s.ck, s.lost⟩
theorem ledK_good {s : Led} (h : GoodL s) (legs : List Leg) (k : Nat) : GoodL (ledK s legs k) := (pay_good_aux (legs.take k) h).1
theorem pay_err {s : Led} {legs : List Leg} {k : Nat} {c : Int} (hk : k < legs.length) (h0 : (payTo s.ls (legs.take k)).2 = 0) (hc : c ≠ 0) (h : (payF ((payTo s.ls (legs.take k)).1, 0) (legs.getD k noLeg)).2 = c) : payL s legs = (s, c) := by
  have e1 : payTo s.ls (legs.take k) = ((payTo s.ls (legs.take k)).1, 0) := Prod.ext rfl h0
  have e2 : (payTo s.ls (legs.take (k + 1))).2 = c := by rw [payTo_next hk, e1]; exact h
  have e3 : payTo s.ls legs = payTo s.ls (legs.take (k + 1)) := payTo_err (by rw [e2]; exact hc)
  unfold payL
  rw [e3, e2, if_pos hc]
theorem pay_step {s : Led} {m : RLed} {legs : List Leg} {k q : Nat} {lc : List Seat} (hG : GoodL s) (hk : k < legs.length) (h0 : (payTo s.ls (legs.take k)).2 = 0) (hR : RelL (ledK s legs k) ⟨m.mine, lc, m.hs, m.gone⟩) (hlo : legOk (legs.getD k noLeg)) (hq : q < lc.length) (hc : (lc.getD q noSeat).ch = (legs.getD k noLeg).ch) (hf : ¬ (lc.getD q noSeat).h (legs.getD k noLeg).side.toNat < (legs.getD k noLeg).am) :
    (payTo s.ls (legs.take (k + 1))).2 = 0 ∧ RelL (ledK s legs (k + 1)) ⟨m.mine, lc.set q (legS (lc.getD q noSeat) (legs.getD k noLeg)), m.hs, m.gone⟩ := by
  have e1 : payTo s.ls (legs.take k) = ((payTo s.ls (legs.take k)).1, 0) := Prod.ext rfl h0
  have hg : getG (legs.getD k noLeg).ch (payTo s.ls (legs.take k)).1 = some (lc.getD q noSeat) := by
    have h := hR.at_some (ledK_good hG legs k) hq
    rw [show ((⟨m.mine, lc, m.hs, m.gone⟩ : RLed).l.getD q noSeat).ch = (legs.getD k noLeg).ch from hc] at h
    exact h
  have e2 : payTo s.ls (legs.take (k + 1)) = (updM (legs.getD k noLeg).ch (legS (lc.getD q noSeat) (legs.getD k noLeg)) (payTo s.ls (legs.take k)).1, 0) := by rw [payTo_next hk, e1]; exact payF_ok hlo hg hf
  have hch : (legS (lc.getD q noSeat) (legs.getD k noLeg)).ch = (lc.getD q noSeat).ch := by unfold legS; rw [setH_ch, setH_ch]
  have hu := hR.seats.upd (z := noSeat) (ledK_good hG legs k).keys hq (u := legS (lc.getD q noSeat) (legs.getD k noLeg)) hch
  rw [show (entS (legS (lc.getD q noSeat) (legs.getD k noLeg))).1 = (legs.getD k noLeg).ch from hch.trans hc] at hu
  refine ⟨by rw [e2], hR.mine, hR.gone, ?_, set_srt hR.srt hch, hR.holds⟩
  show RelM entS (payTo s.ls (legs.take (k + 1))).1 _
  rw [e2]
  exact hu
theorem spO_cong {own : List Int} {t u : Seat} {d fee : Pair} (h : ∀ j, t.p j = u.p j) : ∀ k, spO own t d fee k = spO own u d fee k
  | 0 => rfl
  | k + 1 => by simp only [spO, giveO, spO_cong h k, h k]
theorem addK_ch (t : Seat) (d : Pair) : ∀ k, (addK t d k).ch = t.ch
  | 0 => rfl
  | k + 1 => by rw [addK, setH_ch, addK_ch t d k]
theorem addK_now {t : Seat} {d : Pair} {k : Nat} (hk : k < 2) : (addK t d (k + 1)).h k = t.h k + d.ix k := by rw [addK, setH_h hk, addK_h hk]
theorem spO_now {own : List Int} {t : Seat} {d fee : Pair} {k : Nat} (hk : k < 2) (hs : seatOk own.length t) : (spO own t d fee (k + 1)).getD (t.p k).toNat 0 = own.getD (t.p k).toNat 0 - (d.ix k + fee.ix k) := by
  have hp := (seatOk_at hs hk).1
  have h := spO_at (own := own) (d := d) (fee := fee) hk hs.1.1 hs.2.1.1 hs.2.2.1
  rw [spO, giveO, List.getD_eq_getElem?_getD, List.getElem?_set_self (by rw [spO_len]; omega), h]
  rfl
theorem rpay_ok {gp cm cl ch_ : Nat} {Am Al Ah : Option Addr} {m : RLed} {s : Led} {Ag : Option Addr} {ng cg : Nat} {legs : List Leg} (w : World) (hL : RLL w gp Am cm Al cl Ah ch_ m) (hf : SmallR m) (hR : RelL s m) (hG : GoodL s) (hg : Vec w legV 3 Ag ng legs) (hng : ng ≤ 1000) (hga : ∀ q, blkOf Ag = some q → 0 < ng → q < w.heap.size → ¬ RLF gp Am cm Al cl Ah ch_ q) : Calls Tryz.prog 35 #[.pointer (some ⟨gp, 0, none⟩), .slice Ag ng cg] w fun r w' => ChP w w' (fun k => k = gp ∨ rowOf Am cm = some k ∨ rowOf Al cl = some k ∨ rowOf Ah ch_ = some k) ∧ ∃ Am' cm' Al' cl' Ah' ch' m', r = .returned (.int .i64 (payL s legs).2) ∧ RLL w' gp Am' cm' Al' cl' Ah' ch' m' ∧ RelL (payL s legs).1 m' ∧ ∀ g, RLF gp Am' cm' Al' cl' Ah' ch' g → RLF gp Am cm Al cl Ah ch_ g ∨ w.heap.size ≤ g := by
 have hp0 := hL.hp; have hM0 := hL.hM; have hS0 := hL.hS; have hH0 := hL.hH
 have hfl := hf.few
 have e1 := hR.mine; have e2 := hR.gone
 have hgl := hG.len; have e3l : m.mine.length = s.own.length := by rw [e1]
 have hgn := hg.1
 refine enter Tryz.func35 rfl rfl ?_
 have L0 := ChP.refl w (fun k => k = gp ∨ rowOf Am cm = some k ∨ rowOf Al cl = some k ∨ rowOf Ah ch_ = some k)
 refine WC.seq (WC.region ?_)
 refine W.any (.assign rfl) rfl rfl rfl ?_
 refine W.nil (E.thenN (WC.seq (WC.region ?_)))
 refine W.any (.move rfl) rfl rfl rfl ?_
 refine W.ef rfl rfl rfl ?_
 refine Ef.call go67 rfl rfl (rcopy_ok w ⟨hp0, hM0, hS0, hH0, hL.mp, hL.lp, hL.hpp, hL.ml, hL.mh, hL.lh⟩ hf) ?_
 rintro _ w1_1 ⟨gp1_1, Am1_1, cm1_1, Al1_1, cl1_1, Ah1_1, ch1_1, rfl, hg1_1, bp1_1, om1_1, os1_1, oh1_1, ⟨n11_1, n21_1, n31_1⟩, ⟨p11_1, p21_1, p31_1⟩, h1_1⟩
 refine ⟨_, rfl, ?_⟩
 have L1 := L0.le h1_1
 refine W.any (.assign rfl) rfl rfl rfl ?_
 refine W.nil (E.thenN (WC.seq (WC.seq (WC.region ?_))))
 refine W.any (.assign rfl) rfl rfl rfl ?_
 refine W.nil (E.thenN (WC.block ?_))
 have f2 := (hp0.le h1_1)
 have f3 := (hM0.le h1_1)
 have f4 := (hS0.le h1_1)
 have f5 := (hH0.le h1_1)
 refine WC.loop (ι := Nat × ((List Seat))) (fun ⟨k, lc⟩ => [(0, .pointer (some ⟨gp, 0, none⟩)), (1, .slice Ag ng cg), (5, .pointer (some ⟨gp1_1, 0, none⟩)), (6, .int .i64 (((k : Nat) : Int)))]) (fun ⟨k, lc⟩ wl0 => (k ≤ ng) ∧ ((payTo s.ls (legs.take k)).2 = 0) ∧ (RelL (ledK s legs k) ⟨m.mine, lc, m.hs, m.gone⟩) ∧ (lc.length = m.l.length) ∧ ChP w wl0 (fun k => k = gp ∨ rowOf Am cm = some k ∨ rowOf Al cl = some k ∨ rowOf Ah ch_ = some k) ∧ w1_1.heap.size ≤ wl0.heap.size ∧ Blk wl0 gp 71 #[.slice Am m.mine.length cm, .slice Al m.l.length cl, .slice Ah m.hs.length ch_, .int .i64 (m.gone)] ∧ OVec wl0 0 3 iv 1 Am m.mine.length cm m.mine ∧ OVec wl0 0 73 seatV 5 Al m.l.length cl m.l ∧ OVec wl0 0 103 rholdV 5 Ah m.hs.length ch_ m.hs ∧ Blk wl0 gp1_1 71 #[.slice Am1_1 m.mine.length cm1_1, .slice Al1_1 m.l.length cl1_1, .slice Ah1_1 m.hs.length ch1_1, .int .i64 (m.gone)] ∧ OVec wl0 w.heap.size 3 iv 1 Am1_1 m.mine.length cm1_1 m.mine ∧ OVec wl0 w.heap.size 73 seatV 5 Al1_1 m.l.length cl1_1 lc ∧ OVec wl0 w.heap.size 103 rholdV 5 Ah1_1 m.hs.length ch1_1 m.hs) (fun ⟨k, lc⟩ => ng - k) (0, m.l) ?_ ?_ ?_
 ·exact .cons rfl (.cons rfl (.cons rfl (.cons rfl (.nil _))))
 ·exact ⟨Nat.zero_le _, rfl, ⟨hR.mine, hR.gone, hR.seats, hR.srt, hR.holds⟩, rfl, L1, Nat.le_refl _, f2, f3, f4, f5, bp1_1, om1_1, os1_1, oh1_1⟩
 ·rintro ⟨k, lc⟩ wl0 ⟨hk, h0k, hRk, hlc, Ll0, zl0, f0_0, f0_1, f0_2, f0_3, f0_4, f0_5, f0_6, f0_7⟩
  have lb0_6 : w.heap.size ≤ wl0.heap.size := by have := h1_1.size; omega
  have lb0_7 : w.heap.size ≤ wl0.heap.size := by have := h1_1.size; omega
  have lb0_8 : w.heap.size ≤ wl0.heap.size := by have := h1_1.size; omega
  refine WC.seq (WC.seq (WC.region ?_))
  refine W.any (.move rfl) rfl rfl rfl ?_
  refine W.any (.move rfl) rfl rfl rfl ?_
  refine W.rd (.len Tryz.underlying74 rfl) rfl rfl rfl ?_
  refine W.any (.lss rfl rfl) rfl rfl rfl ?_
  refine W.nil (E.thenN ?_)
  by_cases c0 : ((k : Nat) : Int) < ((ng : Nat) : Int)
  ·refine WC.condY rfl (decide_eq_true c0) ?_
   refine WC.skip (E.thenN (WC.seq (WC.block (WC.seq (WC.region ?_)))))
   refine W.any (.move rfl) rfl rfl rfl ?_
   refine W.any (.move rfl) rfl rfl rfl ?_
   refine W.any (.idxS (k) Tryz.underlying74 sz75 rfl rfl (hg.isSome legV_row (by omega)) (rfl) (by omega)) rfl rfl rfl ?_
   refine W.rd (.vload ag75 rfl (hg.chP Ll0 hga) legV_row (getS legs noLeg (by first | omega | (simp only [List.length_cons, List.length_nil]; omega)))) rfl rfl rfl ?_
   refine W.ef rfl rfl rfl ?_
   refine Ef.allocA z75 ?_
   intro g5_4 w5_4 hg5_4 b5_4 h5_4
   have L6 := Ll0.le h5_4
   have b5_4 : Blk w5_4 g5_4 75 (legV noLeg).toArray := b5_4
   refine W.ef0 rfl rfl ?_
   refine Ef.storeAll sz75 (by rfl) rfl rfl b5_4 (by simp only [List.size_toArray, legV_row.len]) (legV_row.one (legs.getD k noLeg)) ?_
   intro w5_5 b5_5 h5_5
   have b5_5 : Blk w5_5 g5_4 75 (legV (legs.getD k noLeg)).toArray := b5_5
   have L7 : ChP w w5_5 (fun k => k = gp ∨ rowOf Am cm = some k ∨ rowOf Al cl = some k ∨ rowOf Ah ch_ = some k) := L6.ch h5_5 (fun i hi hlt => by cases hi; exact absurd hlt (by have := Ll0.size; have := hg5_4; omega))
   refine W.nil (E.thenN (WC.seq (WC.seq (WC.region ?_))))
   refine W.any (.field0 fa75_1 rfl) rfl rfl rfl ?_
   refine W.rd (.loadB (v := .int .i64 ((legs.getD k noLeg).side)) na3 rfl b5_5 rfl) rfl rfl rfl ?_
   refine W.any (.lss rfl rfl) rfl rfl rfl ?_
   by_cases q6_3 : ((legs.getD k noLeg).side) < 0
   ·refine W.any (.dec (.move rfl) (decide_eq_true q6_3)) rfl rfl rfl ?_
    refine W.skip rfl rfl rfl (rfl) rfl rfl ?_
    refine W.skip rfl rfl rfl (rfl) rfl rfl ?_
    refine W.skip rfl rfl rfl (rfl) rfl rfl ?_
    refine W.any (.pickT rfl rfl rfl) rfl rfl rfl ?_
    refine W.any (.move rfl) rfl rfl rfl ?_
    refine W.skip rfl rfl rfl (rfl) rfl rfl ?_
    refine W.skip rfl rfl rfl (rfl) rfl rfl ?_
    refine W.skip rfl rfl rfl (rfl) rfl rfl ?_
    refine W.any (.pickT rfl rfl rfl) rfl rfl rfl ?_
    refine W.any (.move rfl) rfl rfl rfl ?_
    refine W.skip rfl rfl rfl (rfl) rfl rfl ?_
    refine W.skip rfl rfl rfl (rfl) rfl rfl ?_
    refine W.skip rfl rfl rfl (rfl) rfl rfl ?_
    refine W.any (.pickT rfl rfl rfl) rfl rfl rfl ?_
    refine W.nil (E.thenN ?_)
    refine WC.condT rfl ?_
    refine WC.seq (WC.region ?_)
    refine W.any (.assign rfl) rfl rfl rfl ?_
    refine W.nil (E.thenN (WC.ret (E.thenR (E.blkR (E.thenR (E.thenR (E.blkR (E.thenR ?_))))))))
    have f8 := ((f0_0.le h5_4).ch h5_5 (fun h => (show g5_4 ≠ gp from by have := f0_0.lt; omega) (Option.some.inj h)))
    have f9 := ((f0_1.le h5_4).ch h5_5 (fun q hq => by cases hq; exact (fun he => by have := (f0_1.row he).2; omega)))
    have f10 := ((f0_2.le h5_4).ch h5_5 (fun q hq => by cases hq; exact (fun he => by have := (f0_2.row he).2; omega)))
    have f11 := ((f0_3.le h5_4).ch h5_5 (fun q hq => by cases hq; exact (fun he => by have := (f0_3.row he).2; omega)))
    refine E.retG1 rfl rfl ?_
    have ho : (payL s legs) = (s, 1) := pay_err (k := k) (by omega) h0k (by decide) (payF_bad (by rintro ⟨⟨z1, z2⟩, z3, z4⟩; omega))
    rw [ho]; exact ⟨L7, _, _, _, _, _, _, m, rfl, ⟨f8, f9, f10, f11, hL.mp, hL.lp, hL.hpp, hL.ml, hL.mh, hL.lh⟩, hR, fun g hg => .inl hg⟩
   ·refine W.any (.dec (.move rfl) (decide_eq_false q6_3)) rfl rfl rfl ?_
    refine W.rdg (Any.rd (.field0 fa75_1 rfl) _) rfl rfl rfl (rfl) rfl rfl ?_
    refine W.rdg (.loadB (v := .int .i64 ((legs.getD k noLeg).side)) na3 rfl b5_5 rfl) rfl rfl rfl (rfl) rfl rfl ?_
    refine W.rdg (Any.rd (.gtr rfl rfl) _) rfl rfl rfl (rfl) rfl rfl ?_
    refine W.any (.pickF rfl rfl rfl) rfl rfl rfl ?_
    by_cases q6_8 : 1 < ((legs.getD k noLeg).side)
    ·refine W.any (.dec (.move rfl) (decide_eq_true q6_8)) rfl rfl rfl ?_
     refine W.skip rfl rfl rfl (rfl) rfl rfl ?_
     refine W.skip rfl rfl rfl (rfl) rfl rfl ?_
     refine W.skip rfl rfl rfl (rfl) rfl rfl ?_
     refine W.any (.pickT rfl rfl rfl) rfl rfl rfl ?_
     refine W.any (.move rfl) rfl rfl rfl ?_
     refine W.skip rfl rfl rfl (rfl) rfl rfl ?_
     refine W.skip rfl rfl rfl (rfl) rfl rfl ?_
     refine W.skip rfl rfl rfl (rfl) rfl rfl ?_
     refine W.any (.pickT rfl rfl rfl) rfl rfl rfl ?_
     refine W.nil (E.thenN ?_)
     refine WC.condT rfl ?_
     refine WC.seq (WC.region ?_)
     refine W.any (.assign rfl) rfl rfl rfl ?_
     refine W.nil (E.thenN (WC.ret (E.thenR (E.blkR (E.thenR (E.thenR (E.blkR (E.thenR ?_))))))))
     have f12 := ((f0_0.le h5_4).ch h5_5 (fun h => (show g5_4 ≠ gp from by have := f0_0.lt; omega) (Option.some.inj h)))
     have f13 := ((f0_1.le h5_4).ch h5_5 (fun q hq => by cases hq; exact (fun he => by have := (f0_1.row he).2; omega)))
     have f14 := ((f0_2.le h5_4).ch h5_5 (fun q hq => by cases hq; exact (fun he => by have := (f0_2.row he).2; omega)))
     have f15 := ((f0_3.le h5_4).ch h5_5 (fun q hq => by cases hq; exact (fun he => by have := (f0_3.row he).2; omega)))
     refine E.retG1 rfl rfl ?_
     have ho : (payL s legs) = (s, 1) := pay_err (k := k) (by omega) h0k (by decide) (payF_bad (by rintro ⟨⟨z1, z2⟩, z3, z4⟩; omega))
     rw [ho]; exact ⟨L7, _, _, _, _, _, _, m, rfl, ⟨f12, f13, f14, f15, hL.mp, hL.lp, hL.hpp, hL.ml, hL.mh, hL.lh⟩, hR, fun g hg => .inl hg⟩
    ·refine W.any (.dec (.move rfl) (decide_eq_false q6_8)) rfl rfl rfl ?_
     refine W.rdg (Any.rd (.field0 fa75_2 rfl) _) rfl rfl rfl (rfl) rfl rfl ?_
     refine W.rdg (.loadB (v := .int .i64 ((legs.getD k noLeg).am)) na3 rfl b5_5 rfl) rfl rfl rfl (rfl) rfl rfl ?_
     refine W.rdg (Any.rd (.lss rfl rfl) _) rfl rfl rfl (rfl) rfl rfl ?_
     refine W.any (.pickF rfl rfl rfl) rfl rfl rfl ?_
     by_cases q6_13 : ((legs.getD k noLeg).am) < 1
     ·refine W.any (.dec (.move rfl) (decide_eq_true q6_13)) rfl rfl rfl ?_
      refine W.skip rfl rfl rfl (rfl) rfl rfl ?_
      refine W.skip rfl rfl rfl (rfl) rfl rfl ?_
      refine W.skip rfl rfl rfl (rfl) rfl rfl ?_
      refine W.any (.pickT rfl rfl rfl) rfl rfl rfl ?_
      refine W.nil (E.thenN ?_)
      refine WC.condT rfl ?_
      refine WC.seq (WC.region ?_)
      refine W.any (.assign rfl) rfl rfl rfl ?_
      refine W.nil (E.thenN (WC.ret (E.thenR (E.blkR (E.thenR (E.thenR (E.blkR (E.thenR ?_))))))))
      have f16 := ((f0_0.le h5_4).ch h5_5 (fun h => (show g5_4 ≠ gp from by have := f0_0.lt; omega) (Option.some.inj h)))
      have f17 := ((f0_1.le h5_4).ch h5_5 (fun q hq => by cases hq; exact (fun he => by have := (f0_1.row he).2; omega)))
      have f18 := ((f0_2.le h5_4).ch h5_5 (fun q hq => by cases hq; exact (fun he => by have := (f0_2.row he).2; omega)))
      have f19 := ((f0_3.le h5_4).ch h5_5 (fun q hq => by cases hq; exact (fun he => by have := (f0_3.row he).2; omega)))
      refine E.retG1 rfl rfl ?_
      have ho : (payL s legs) = (s, 1) := pay_err (k := k) (by omega) h0k (by decide) (payF_bad (by rintro ⟨⟨z1, z2⟩, z3, z4⟩; omega))
      rw [ho]; exact ⟨L7, _, _, _, _, _, _, m, rfl, ⟨f16, f17, f18, f19, hL.mp, hL.lp, hL.hpp, hL.ml, hL.mh, hL.lh⟩, hR, fun g hg => .inl hg⟩
     ·refine W.any (.dec (.move rfl) (decide_eq_false q6_13)) rfl rfl rfl ?_
      refine W.rdg (Any.rd (.field0 fa75_2 rfl) _) rfl rfl rfl (rfl) rfl rfl ?_
      refine W.rdg (.loadB (v := .int .i64 ((legs.getD k noLeg).am)) na3 rfl b5_5 rfl) rfl rfl rfl (rfl) rfl rfl ?_
      refine W.rdg (Any.rd (.gtr rfl rfl) _) rfl rfl rfl (rfl) rfl rfl ?_
      refine W.any (.pickF rfl rfl rfl) rfl rfl rfl ?_
      refine W.nil (E.thenN ?_)
      by_cases c1 : 1125899906842624 < ((legs.getD k noLeg).am)
      ·refine WC.condY rfl (decide_eq_true c1) ?_
       refine WC.seq (WC.region ?_)
       refine W.any (.assign rfl) rfl rfl rfl ?_
       refine W.nil (E.thenN (WC.ret (E.thenR (E.blkR (E.thenR (E.thenR (E.blkR (E.thenR ?_))))))))
       have f20 := ((f0_0.le h5_4).ch h5_5 (fun h => (show g5_4 ≠ gp from by have := f0_0.lt; omega) (Option.some.inj h)))
       have f21 := ((f0_1.le h5_4).ch h5_5 (fun q hq => by cases hq; exact (fun he => by have := (f0_1.row he).2; omega)))
       have f22 := ((f0_2.le h5_4).ch h5_5 (fun q hq => by cases hq; exact (fun he => by have := (f0_2.row he).2; omega)))
       have f23 := ((f0_3.le h5_4).ch h5_5 (fun q hq => by cases hq; exact (fun he => by have := (f0_3.row he).2; omega)))
       refine E.retG1 rfl rfl ?_
       have ho : (payL s legs) = (s, 1) := pay_err (k := k) (by omega) h0k (by decide) (payF_bad (by rintro ⟨⟨z1, z2⟩, z3, z4⟩; omega))
       rw [ho]; exact ⟨L7, _, _, _, _, _, _, m, rfl, ⟨f20, f21, f22, f23, hL.mp, hL.lp, hL.hpp, hL.ml, hL.mh, hL.lh⟩, hR, fun g hg => .inl hg⟩
      ·refine WC.condN rfl (decide_eq_false c1) ?_
       have hlo : legOk (legs.getD k noLeg) := ⟨⟨by omega, by omega⟩, by omega, by omega⟩
       refine WC.skip (E.thenN (WC.seq (WC.region ?_)))
       refine W.any (.move rfl) rfl rfl rfl ?_
       refine W.any (.field0 fa75_0 rfl) rfl rfl rfl ?_
       refine W.rd (.loadB (v := .int .i64 ((legs.getD k noLeg).ch)) na3 rfl b5_5 rfl) rfl rfl rfl ?_
       have f24 := ((f0_6.le h5_4).ch h5_5 (fun q hq => by cases hq; exact (fun he => by have := (f0_6.row he).2; omega)))
       have f25 := ((f0_4.le h5_4).ch h5_5 (fun h => (show g5_4 ≠ gp1_1 from by have := f0_4.lt; omega) (Option.some.inj h)))
       refine W.ef rfl rfl rfl ?_
       refine Ef.call go59 rfl rfl (rat3_ok ((legs.getD k noLeg).ch) w5_5 f25 f24.vec (by omega)) ?_
       rintro _ w8_3 ⟨v8_3, rfl, hat8_3, h8_3⟩
       refine ⟨_, rfl, ?_⟩
       have L26 := L7.le h8_3
       refine W.any (.assign rfl) rfl rfl rfl ?_
       refine W.nil (E.thenN (WC.seq (WC.seq (WC.region ?_))))
       refine W.any (.move rfl) rfl rfl rfl ?_
       refine W.any (.lss rfl rfl) rfl rfl rfl ?_
       refine W.nil (E.thenN ?_)
       by_cases c2 : v8_3 < 0
       ·refine WC.condY rfl (decide_eq_true c2) ?_
        refine WC.seq (WC.region ?_)
        refine W.any (.assign rfl) rfl rfl rfl ?_
        refine W.nil (E.thenN (WC.ret (E.thenR (E.blkR (E.thenR (E.thenR (E.blkR (E.thenR ?_))))))))
        have f27 := (((f0_0.le h5_4).ch h5_5 (fun h => (show g5_4 ≠ gp from by have := f0_0.lt; omega) (Option.some.inj h))).le h8_3)
        have f28 := (((f0_1.le h5_4).ch h5_5 (fun q hq => by cases hq; exact (fun he => by have := (f0_1.row he).2; omega))).le h8_3)
        have f29 := (((f0_2.le h5_4).ch h5_5 (fun q hq => by cases hq; exact (fun he => by have := (f0_2.row he).2; omega))).le h8_3)
        have f30 := (((f0_3.le h5_4).ch h5_5 (fun q hq => by cases hq; exact (fun he => by have := (f0_3.row he).2; omega))).le h8_3)
        refine E.retG1 rfl rfl ?_
        have ho : (payL s legs) = (s, 5) := pay_err (k := k) (by omega) h0k (by decide) (payF_none hlo (by rcases hat8_3 with ⟨_, z⟩ | ⟨q, z, z1, z2⟩; exact hRk.at_none z; omega))
        rw [ho]; exact ⟨L26, _, _, _, _, _, _, m, rfl, ⟨f27, f28, f29, f30, hL.mp, hL.lp, hL.hpp, hL.ml, hL.mh, hL.lh⟩, hR, fun g hg => .inl hg⟩
       ·refine WC.condN rfl (decide_eq_false c2) ?_
        obtain ⟨q, hq0, hq1, hq2⟩ : ∃ q : Nat, v8_3 = (q : Int) ∧ q < lc.length ∧ (lc.getD q noSeat).ch = (legs.getD k noLeg).ch := by rcases hat8_3 with ⟨z, _⟩ | z; omega; exact z
        have hgk : getG (legs.getD k noLeg).ch (payTo s.ls (legs.take k)).1 = some (lc.getD q noSeat) := by have h := hRk.at_some (ledK_good hG legs k) hq1; rw [show ((⟨m.mine, lc, m.hs, m.gone⟩ : RLed).l.getD q noSeat).ch = (legs.getD k noLeg).ch from hq2] at h; exact h
        obtain ⟨_, _, hso, _⟩ := (ledK_good hG legs k).seat hgk
        have hlb := seatOk_at hso (k := (legs.getD k noLeg).side.toNat) (by omega); have hlb2 := seatOk_at hso (k := (1 - (legs.getD k noLeg).side).toNat) (by omega)
        refine WC.skip (E.thenN (WC.seq (WC.seq ?_)))
        refine WC.draw [0, 1, 2, 3, 4, 5, 6, 7, 8, 9, 10, 11, 12, 13] mixed (by kernel_rfl) ?_
        intro w11 d11
        have L31 := L26.le d11
        refine G.any rfl rfl (.move rfl) rfl rfl rfl ?_
        refine G.any rfl rfl (.nilCheck rfl) rfl rfl rfl ?_
        refine G.any rfl rfl (.field0 fa71_1 rfl) rfl rfl rfl ?_
        have f32 := (f25.le (h8_3.trans d11))
        refine G.rd rfl rfl (.loadB (v := .slice Al1_1 m.l.length cl1_1) na68 rfl f32 rfl) rfl rfl rfl ?_
        refine G.any rfl rfl (.move rfl) rfl rfl rfl ?_
        refine G.any rfl rfl (.field0 fa75_1 rfl) rfl rfl rfl ?_
        have f33 := (b5_5.le (h8_3.trans d11))
        refine G.rd rfl rfl (.loadB (v := .int .i64 ((legs.getD k noLeg).side)) na3 rfl f33 rfl) rfl rfl rfl ?_
        refine G.any rfl rfl (.idxS (q) Tryz.underlying68 sz73 rfl rfl (os1_1.vec.isSome seatV_row (by omega)) (by omega) (by omega)) rfl rfl rfl ?_
        refine G.any rfl rfl (.vfield fa73_2 (os1_1.vec.isSome seatV_row (by omega)) rfl) rfl rfl rfl ?_
        refine G.any rfl rfl (.vidx ((legs.getD k noLeg).side.toNat) Tryz.underlying35 sz3 (os1_1.vec.isSome seatV_row (by omega)) rfl rfl (by omega) (by omega)) rfl rfl rfl ?_
        have f34 := (f24.le (h8_3.trans d11))
        refine G.rd rfl rfl (.vcellQ (j := q) (o := 3) (q := (legs.getD k noLeg).side.toNat) (v := .int .i64 (((lc.getD q noSeat).h ((legs.getD k noLeg).side.toNat)))) na3 rfl f34.vec seatV_row (getS lc noSeat (by omega)) (seatH_at _ (by omega))) rfl rfl rfl ?_
        refine G.any rfl rfl (.field0 fa75_2 rfl) rfl rfl rfl ?_
        refine G.rd rfl rfl (.loadB (v := .int .i64 ((legs.getD k noLeg).am)) na3 rfl f33 rfl) rfl rfl rfl ?_
        refine G.any rfl rfl (.lss rfl rfl) rfl rfl rfl ?_
        refine G.nil (E.thenN ?_)
        by_cases c3 : ((lc.getD q noSeat).h ((legs.getD k noLeg).side.toNat)) < ((legs.getD k noLeg).am)
        ·refine WC.condY rfl (decide_eq_true c3) ?_
         refine WC.seq (WC.region ?_)
         refine W.any (.assign rfl) rfl rfl rfl ?_
         refine W.nil (E.thenN (WC.ret (E.thenR (E.blkR (E.thenR (E.thenR (E.blkR (E.thenR ?_))))))))
         have f35 := (((f0_0.le h5_4).ch h5_5 (fun h => (show g5_4 ≠ gp from by have := f0_0.lt; omega) (Option.some.inj h))).le (h8_3.trans d11))
         have f36 := (((f0_1.le h5_4).ch h5_5 (fun q hq => by cases hq; exact (fun he => by have := (f0_1.row he).2; omega))).le (h8_3.trans d11))
         have f37 := (((f0_2.le h5_4).ch h5_5 (fun q hq => by cases hq; exact (fun he => by have := (f0_2.row he).2; omega))).le (h8_3.trans d11))
         have f38 := (((f0_3.le h5_4).ch h5_5 (fun q hq => by cases hq; exact (fun he => by have := (f0_3.row he).2; omega))).le (h8_3.trans d11))
         refine E.retG1 rfl rfl ?_
         have ho : (payL s legs) = (s, 8) := pay_err (k := k) (by omega) h0k (by decide) (payF_few hlo hgk (by assumption))
         rw [ho]; exact ⟨L31, _, _, _, _, _, _, m, rfl, ⟨f35, f36, f37, f38, hL.mp, hL.lp, hL.hpp, hL.ml, hL.mh, hL.lh⟩, hR, fun g hg => .inl hg⟩
        ·refine WC.condN rfl (decide_eq_false c3) ?_
         refine WC.skip (E.thenN (WC.seq ?_))
         refine WC.draw [0, 1, 2, 3, 4, 5, 6, 7, 8, 9, 10, 11, 12, 13, 14, 15, 16, 17, 18, 19, 20, 21, 22, 23, 24] mixed (by kernel_rfl) ?_
         intro w13 d13
         have L39 := L31.le d13
         refine G.any rfl rfl (.move rfl) rfl rfl rfl ?_
         refine G.any rfl rfl (.nilCheck rfl) rfl rfl rfl ?_
         refine G.any rfl rfl (.field0 fa71_1 rfl) rfl rfl rfl ?_
         have f40 := (f32.le d13)
         refine G.rd rfl rfl (.loadB (v := .slice Al1_1 m.l.length cl1_1) na68 rfl f40 rfl) rfl rfl rfl ?_
         refine G.any rfl rfl (.move rfl) rfl rfl rfl ?_
         refine G.any rfl rfl (.field0 fa75_1 rfl) rfl rfl rfl ?_
         have f41 := (f33.le d13)
         refine G.rd rfl rfl (.loadB (v := .int .i64 ((legs.getD k noLeg).side)) na3 rfl f41 rfl) rfl rfl rfl ?_
         refine G.any rfl rfl (.move rfl) rfl rfl rfl ?_
         refine G.any rfl rfl (.nilCheck rfl) rfl rfl rfl ?_
         refine G.any rfl rfl (.field0 fa71_1 rfl) rfl rfl rfl ?_
         refine G.rd rfl rfl (.loadB (v := .slice Al1_1 m.l.length cl1_1) na68 rfl f40 rfl) rfl rfl rfl ?_
         refine G.any rfl rfl (.move rfl) rfl rfl rfl ?_
         refine G.any rfl rfl (.field0 fa75_1 rfl) rfl rfl rfl ?_
         refine G.rd rfl rfl (.loadB (v := .int .i64 ((legs.getD k noLeg).side)) na3 rfl f41 rfl) rfl rfl rfl ?_
         refine G.any rfl rfl (.idxS (q) Tryz.underlying68 sz73 rfl rfl (os1_1.vec.isSome seatV_row (by omega)) (by omega) (by omega)) rfl rfl rfl ?_
         refine G.any rfl rfl (.vfield fa73_2 (os1_1.vec.isSome seatV_row (by omega)) rfl) rfl rfl rfl ?_
         refine G.any rfl rfl (.vidx ((legs.getD k noLeg).side.toNat) Tryz.underlying35 sz3 (os1_1.vec.isSome seatV_row (by omega)) rfl rfl (by omega) (by omega)) rfl rfl rfl ?_
         have f42 := (f34.le d13)
         refine G.rd rfl rfl (.vcellQ (j := q) (o := 3) (q := (legs.getD k noLeg).side.toNat) (v := .int .i64 (((lc.getD q noSeat).h ((legs.getD k noLeg).side.toNat)))) na3 rfl f42.vec seatV_row (getS lc noSeat (by omega)) (seatH_at _ (by omega))) rfl rfl rfl ?_
         refine G.any rfl rfl (.field0 fa75_2 rfl) rfl rfl rfl ?_
         refine G.rd rfl rfl (.loadB (v := .int .i64 ((legs.getD k noLeg).am)) na3 rfl f41 rfl) rfl rfl rfl ?_
         refine G.any rfl rfl (.sub rfl rfl (by omega)) rfl rfl rfl ?_
         refine G.any rfl rfl (.idxS (q) Tryz.underlying68 sz73 rfl rfl (os1_1.vec.isSome seatV_row (by omega)) (by omega) (by omega)) rfl rfl rfl ?_
         refine G.any rfl rfl (.vfield fa73_2 (os1_1.vec.isSome seatV_row (by omega)) rfl) rfl rfl rfl ?_
         refine G.any rfl rfl (.vidx ((legs.getD k noLeg).side.toNat) Tryz.underlying35 sz3 (os1_1.vec.isSome seatV_row (by omega)) rfl rfl (by omega) (by omega)) rfl rfl rfl ?_
         refine G.ef0 rfl rfl rfl rfl ?_
         refine Ef.vset (j := q) (o := 3 + ((legs.getD k noLeg).side.toNat)) ((lc.getD q noSeat).setH ((legs.getD k noLeg).side.toNat) (((lc.getD q noSeat).h ((legs.getD k noLeg).side.toNat)) - ((legs.getD k noLeg).am))) sz3 rfl (by omega) rfl f42 seatV_row (getS lc noSeat (by omega)) (by omega) (seatH_setL _ _ (by omega)) rfl ?_
         intro w13_24 o13_24 h13_24
         refine ⟨fun h => absurd h (ne_true_of_eq_false (by kernel_rfl)), ?_⟩
         have L43 : ChP w w13_24 (fun k => k = gp ∨ rowOf Am cm = some k ∨ rowOf Al cl = some k ∨ rowOf Ah ch_ = some k) := L39.ch h13_24 (fun i hi hlt => absurd hlt (by have := (f42.row hi).1; have := L0.size; omega))
         refine G.nil (E.thenN ?_)
         refine WC.draw [0, 1, 2, 3, 4, 5, 6, 7, 8, 9, 10, 11, 12, 13, 14, 15, 16, 17, 18, 19, 20, 21, 22, 23, 24, 25, 26] mixed (by kernel_rfl) ?_
         intro w14 d14
         have L44 := L43.le d14
         refine G.any rfl rfl (.move rfl) rfl rfl rfl ?_
         refine G.any rfl rfl (.nilCheck rfl) rfl rfl rfl ?_
         refine G.any rfl rfl (.field0 fa71_1 rfl) rfl rfl rfl ?_
         have f45 := ((f40.ch h13_24 n21_1).le d14)
         refine G.rd rfl rfl (.loadB (v := .slice Al1_1 m.l.length cl1_1) na68 rfl f45 rfl) rfl rfl rfl ?_
         refine G.any rfl rfl (.move rfl) rfl rfl rfl ?_
         refine G.any rfl rfl (.field0 fa75_1 rfl) rfl rfl rfl ?_
         have f46 := ((f41.ch h13_24 (fun he => by have := (f0_6.row he).2; omega)).le d14)
         refine G.rd rfl rfl (.loadB (v := .int .i64 ((legs.getD k noLeg).side)) na3 rfl f46 rfl) rfl rfl rfl ?_
         refine G.any rfl rfl (.sub rfl rfl (by omega)) rfl rfl rfl ?_
         refine G.any rfl rfl (.move rfl) rfl rfl rfl ?_
         refine G.any rfl rfl (.nilCheck rfl) rfl rfl rfl ?_
         refine G.any rfl rfl (.field0 fa71_1 rfl) rfl rfl rfl ?_
         refine G.rd rfl rfl (.loadB (v := .slice Al1_1 m.l.length cl1_1) na68 rfl f45 rfl) rfl rfl rfl ?_
         refine G.any rfl rfl (.move rfl) rfl rfl rfl ?_
         refine G.any rfl rfl (.field0 fa75_1 rfl) rfl rfl rfl ?_
         refine G.rd rfl rfl (.loadB (v := .int .i64 ((legs.getD k noLeg).side)) na3 rfl f46 rfl) rfl rfl rfl ?_
         refine G.any rfl rfl (.sub rfl rfl (by omega)) rfl rfl rfl ?_
         refine G.any rfl rfl (.idxS (q) Tryz.underlying68 sz73 rfl rfl (os1_1.vec.isSome seatV_row (by omega)) (by omega) (by omega)) rfl rfl rfl ?_
         refine G.any rfl rfl (.vfield fa73_2 (os1_1.vec.isSome seatV_row (by omega)) rfl) rfl rfl rfl ?_
         refine G.any rfl rfl (.vidx ((1 - (legs.getD k noLeg).side).toNat) Tryz.underlying35 sz3 (os1_1.vec.isSome seatV_row (by omega)) rfl rfl (by omega) (by omega)) rfl rfl rfl ?_
         have f47 := (o13_24.le d14)
         refine G.rd rfl rfl (.vcellQ (j := q) (o := 3) (q := (1 - (legs.getD k noLeg).side).toNat) (v := .int .i64 ((((lc.set q ((lc.getD q noSeat).setH ((legs.getD k noLeg).side.toNat) (((lc.getD q noSeat).h ((legs.getD k noLeg).side.toNat)) - ((legs.getD k noLeg).am)))).getD q noSeat).h ((1 - (legs.getD k noLeg).side).toNat)))) na3 rfl f47.vec seatV_row (getS (lc.set q ((lc.getD q noSeat).setH ((legs.getD k noLeg).side.toNat) (((lc.getD q noSeat).h ((legs.getD k noLeg).side.toNat)) - ((legs.getD k noLeg).am)))) noSeat (by first | omega | (rw [List.length_set]; omega))) (seatH_at _ (by omega))) rfl rfl rfl ?_
         refine G.any rfl rfl (.field0 fa75_2 rfl) rfl rfl rfl ?_
         refine G.rd rfl rfl (.loadB (v := .int .i64 ((legs.getD k noLeg).am)) na3 rfl f46 rfl) rfl rfl rfl ?_
         refine G.any rfl rfl (.add rfl rfl (by rw [set_getD hq1, setH_ne (by omega) (by omega) (by omega)]; omega)) rfl rfl rfl ?_
         refine G.any rfl rfl (.idxS (q) Tryz.underlying68 sz73 rfl rfl (os1_1.vec.isSome seatV_row (by omega)) (by omega) (by omega)) rfl rfl rfl ?_
         refine G.any rfl rfl (.vfield fa73_2 (os1_1.vec.isSome seatV_row (by omega)) rfl) rfl rfl rfl ?_
         refine G.any rfl rfl (.vidx ((1 - (legs.getD k noLeg).side).toNat) Tryz.underlying35 sz3 (os1_1.vec.isSome seatV_row (by omega)) rfl rfl (by omega) (by omega)) rfl rfl rfl ?_
         refine G.ef0 rfl rfl rfl rfl ?_
         refine Ef.vset (j := q) (o := 3 + ((1 - (legs.getD k noLeg).side).toNat)) (((lc.set q ((lc.getD q noSeat).setH ((legs.getD k noLeg).side.toNat) (((lc.getD q noSeat).h ((legs.getD k noLeg).side.toNat)) - ((legs.getD k noLeg).am)))).getD q noSeat).setH ((1 - (legs.getD k noLeg).side).toNat) ((((lc.set q ((lc.getD q noSeat).setH ((legs.getD k noLeg).side.toNat) (((lc.getD q noSeat).h ((legs.getD k noLeg).side.toNat)) - ((legs.getD k noLeg).am)))).getD q noSeat).h ((1 - (legs.getD k noLeg).side).toNat)) + ((legs.getD k noLeg).am))) sz3 rfl (by omega) rfl f47 seatV_row (getS (lc.set q ((lc.getD q noSeat).setH ((legs.getD k noLeg).side.toNat) (((lc.getD q noSeat).h ((legs.getD k noLeg).side.toNat)) - ((legs.getD k noLeg).am)))) noSeat (by first | omega | (rw [List.length_set]; omega))) (by omega) (seatH_setL _ _ (by omega)) rfl ?_
         intro w14_26 o14_26 h14_26
         refine ⟨fun h => absurd h (ne_true_of_eq_false (by kernel_rfl)), ?_⟩
         have L48 : ChP w w14_26 (fun k => k = gp ∨ rowOf Am cm = some k ∨ rowOf Al cl = some k ∨ rowOf Ah ch_ = some k) := L44.ch h14_26 (fun i hi hlt => absurd hlt (by have := (f47.row hi).1; have := L0.size; omega))
         have o49 := o14_26.cast (m' := m.l.length) (ys := (lc.set q (legS (lc.getD q noSeat) (legs.getD k noLeg)))) (rfl) (pay_row hq1 rfl)
         refine G.nil (E.blkN (E.thenN (WC.region ?_)))
         refine W.any (.move rfl) rfl rfl rfl ?_
         refine W.any (.add rfl rfl (by omega)) rfl rfl rfl ?_
         refine W.any (.assign rfl) rfl rfl rfl ?_
         refine W.nil ?_
         have f50 := ((((((f0_0.le h5_4).ch h5_5 (fun h => (show g5_4 ≠ gp from by have := f0_0.lt; omega) (Option.some.inj h))).le (h8_3.trans (d11.trans d13))).ch h13_24 (fun he => by have := (f42.row he).1; have := hp0.lt; omega)).le d14).ch h14_26 (fun he => by have := (f47.row he).1; have := hp0.lt; omega))
         have f51 := ((((((f0_1.le h5_4).ch h5_5 (fun q hq => by cases hq; exact (fun he => by have := (f0_1.row he).2; omega))).le (h8_3.trans (d11.trans d13))).ch h13_24 ((Apart.symm (fun q h1 h2 => by have := (hM0.row h1).2; have := (f42.row h2).1; omega)))).le d14).ch h14_26 ((Apart.symm (fun q h1 h2 => by have := (hM0.row h1).2; have := (f47.row h2).1; omega))))
         have f52 := ((((((f0_2.le h5_4).ch h5_5 (fun q hq => by cases hq; exact (fun he => by have := (f0_2.row he).2; omega))).le (h8_3.trans (d11.trans d13))).ch h13_24 ((Apart.symm (fun q h1 h2 => by have := (hS0.row h1).2; have := (f42.row h2).1; omega)))).le d14).ch h14_26 ((Apart.symm (fun q h1 h2 => by have := (hS0.row h1).2; have := (f47.row h2).1; omega))))
         have f53 := ((((((f0_3.le h5_4).ch h5_5 (fun q hq => by cases hq; exact (fun he => by have := (f0_3.row he).2; omega))).le (h8_3.trans (d11.trans d13))).ch h13_24 ((Apart.symm (fun q h1 h2 => by have := (hH0.row h1).2; have := (f42.row h2).1; omega)))).le d14).ch h14_26 ((Apart.symm (fun q h1 h2 => by have := (hH0.row h1).2; have := (f47.row h2).1; omega))))
         have f54 := (f45.ch h14_26 n21_1)
         have f55 := ((((((f0_5.le h5_4).ch h5_5 (fun q hq => by cases hq; exact (fun he => by have := (f0_5.row he).2; omega))).le (h8_3.trans (d11.trans d13))).ch h13_24 ((Apart.symm p11_1))).le d14).ch h14_26 ((Apart.symm p11_1)))
         have f56 := ((((((f0_7.le h5_4).ch h5_5 (fun q hq => by cases hq; exact (fun he => by have := (f0_7.row he).2; omega))).le (h8_3.trans (d11.trans d13))).ch h13_24 (p31_1)).le d14).ch h14_26 (p31_1))
         refine E.again (k + 1, (lc.set q (legS (lc.getD q noSeat) (legs.getD k noLeg)))) (.cons rfl (.cons rfl (.cons rfl (.cons rfl (.nil _))))) ?_ ?_
         ·exact ⟨by omega, (pay_step hG (by omega) h0k hRk hlo hq1 hq2 (by assumption)).1, (pay_step hG (by omega) h0k hRk hlo hq1 hq2 (by assumption)).2, by rw [List.length_set]; exact hlc, L48, by have := zl0; have := h5_4.size; have := h5_5.size; have := h8_3.size; have := d11.size; have := d13.size; have := h13_24.size; have := d14.size; have := h14_26.size; omega, f50, f51, f52, f53, f54, f55, o49, f56⟩
         ·first | omega | (simp only []; omega)
  ·refine WC.condN rfl (decide_eq_false c0) ?_
   refine WC.exit (E.thenX (E.thenX (E.blkH (E.thenN (WC.seq (WC.region ?_))))))
   refine W.any (.move rfl) rfl rfl rfl ?_
   refine W.any (.move rfl) rfl rfl rfl ?_
   refine W.any (.nilCheck rfl) rfl rfl rfl ?_
   refine W.any (.field0 fa71_1 rfl) rfl rfl rfl ?_
   refine W.rd (.loadB (v := .slice Al1_1 m.l.length cl1_1) na68 rfl f0_4 rfl) rfl rfl rfl ?_
   refine W.any (.nilCheck rfl) rfl rfl rfl ?_
   refine W.any (.field0 fa71_1 rfl) rfl rfl rfl ?_
   refine W.ef0 rfl rfl ?_
   refine Ef.store sz68 rfl rfl f0_0 (by first | decide | (simp; done)) (rfl) ?_
   intro w15_7 b15_7 h15_7
   have b15_7 : Blk w15_7 gp 71 #[.slice Am m.mine.length cm, .slice Al1_1 m.l.length cl1_1, .slice Ah m.hs.length ch_, .int .i64 (m.gone)] := b15_7
   have L57 : ChP w w15_7 (fun k => k = gp ∨ rowOf Am cm = some k ∨ rowOf Al cl = some k ∨ rowOf Ah ch_ = some k) := Ll0.ch h15_7 (fun i hi _ => by cases hi; exact Or.inl rfl)
   refine W.nil (E.thenN (WC.seq (WC.region ?_)))
   refine W.any (.assign rfl) rfl rfl rfl ?_
   refine W.nil (E.thenN (WC.ret ?_))
   have f58 := (f0_1.ch h15_7 (fun q hq => by cases hq; exact hL.mp))
   have f59 := (f0_6.ch h15_7 (fun q hq => by cases hq; exact (fun he => by have := (f0_6.row he).1; have := hp0.lt; omega)))
   have f60 := (f0_3.ch h15_7 (fun q hq => by cases hq; exact hL.hpp))
   refine E.retG1 rfl rfl ?_
   have hkl : k = legs.length := by omega
   subst hkl
   have ho : (payL s legs) = (ledK s legs legs.length, 0) := by unfold payL ledK; rw [List.take_length] at h0k ⊢; rw [if_neg (by rw [h0k]; simp)]
   rw [ho]; refine ⟨L57, _, _, _, _, _, _, ⟨m.mine, lc, m.hs, m.gone⟩, rfl, ⟨(by have hq := b15_7; rw [← hlc] at hq; exact hq), f58, ((f59.mono (Nat.zero_le _)).cast hlc.symm rfl), f60, hL.mp, (fun he => by have := (f59.row he).1; have := hp0.lt; omega), hL.hpp, (fun q h1 h2 => by have := (hM0.row h1).2; have := (f59.row h2).1; omega), hL.mh, (Apart.symm (fun q h1 h2 => by have := (hH0.row h1).2; have := (f59.row h2).1; omega))⟩, hRk, ?_⟩
   rintro g (q | q | q | q)
   ·exact .inl (.inl q)
   ·exact .inl (.inr (.inl q))
   ·exact .inr ((f59.mono L0.size).row q).1
   ·exact .inl (.inr (.inr (.inr q)))

theorem rsplice_ok {gp cm cl ch_ : Nat} {Am Al Ah : Option Addr} {m : RLed} {s : Led} (ch : Int) (d fee : Pair) (w : World) (hL : RLL w gp Am cm Al cl Ah ch_ m) (hf : SmallR m) (hR : RelL s m) (hG : GoodL s) : Calls Tryz.prog 36 #[.pointer (some ⟨gp, 0, none⟩), .int .i64 (ch), .agg (pairV d).toArray, .agg (pairV fee).toArray] w fun r w' => ChP w w' (fun k => k = gp ∨ rowOf Am cm = some k ∨ rowOf Al cl = some k ∨ rowOf Ah ch_ = some k) ∧ ∃ Am' cm' Al' cl' Ah' ch' m', r = .returned (.int .i64 (spliceL s ch d fee).2) ∧ RLL w' gp Am' cm' Al' cl' Ah' ch' m' ∧ RelL (spliceL s ch d fee).1 m' ∧ ∀ g, RLF gp Am' cm' Al' cl' Ah' ch' g → RLF gp Am cm Al cl Ah ch_ g ∨ w.heap.size ≤ g := by
 have hp0 := hL.hp; have hM0 := hL.hM; have hS0 := hL.hS; have hH0 := hL.hH
 have hfl := hf.few
 have e1 := hR.mine; have e2 := hR.gone
 have hgl := hG.len; have e3l : m.mine.length = s.own.length := by rw [e1]
 refine enter Tryz.func36 rfl rfl ?_
 have L0 := ChP.refl w (fun k => k = gp ∨ rowOf Am cm = some k ∨ rowOf Al cl = some k ∨ rowOf Ah ch_ = some k)
 refine WC.seq (WC.region ?_)
 refine W.ef rfl rfl rfl ?_
 refine Ef.boxA rfl ?_
 intro g0_0 w0_0 hg0_0 b0_0 h0_0
 have L1 := L0.le h0_0
 have b0_0 : Blk w0_0 g0_0 35 (pairV d).toArray := b0_0
 refine W.ef rfl rfl rfl ?_
 refine Ef.boxA rfl ?_
 intro g0_1 w0_1 hg0_1 b0_1 h0_1
 have L2 := L1.le h0_1
 have b0_1 : Blk w0_1 g0_1 35 (pairV fee).toArray := b0_1
 refine W.any (.assign rfl) rfl rfl rfl ?_
 refine W.nil (E.thenN (WC.seq (WC.seq (WC.region ?_))))
 refine W.any (.assign rfl) rfl rfl rfl ?_
 refine W.nil (E.thenN (WC.block ?_))
 have f3 := (hp0.le (h0_0.trans h0_1))
 have f4 := (hM0.le (h0_0.trans h0_1))
 have f5 := (hS0.le (h0_0.trans h0_1))
 have f6 := (hH0.le (h0_0.trans h0_1))
 have f7 := (b0_0.le h0_1)
 refine WC.loop (ι := Nat) (fun k => [(0, .pointer (some ⟨gp, 0, none⟩)), (1, .int .i64 (ch)), (6, .pointer (some ⟨g0_0, 0, none⟩)), (7, .pointer (some ⟨g0_1, 0, none⟩)), (9, .int .i64 (((k : Nat) : Int)))]) (fun k wl0 => (k ≤ 2) ∧ (∀ j, j < k → (-1125899906842624 ≤ d.ix j ∧ d.ix j ≤ 1125899906842624) ∧ 0 ≤ fee.ix j ∧ fee.ix j ≤ 1125899906842624) ∧ ChP w wl0 (fun k => k = gp ∨ rowOf Am cm = some k ∨ rowOf Al cl = some k ∨ rowOf Ah ch_ = some k) ∧ w0_1.heap.size ≤ wl0.heap.size ∧ Blk wl0 gp 71 #[.slice Am m.mine.length cm, .slice Al m.l.length cl, .slice Ah m.hs.length ch_, .int .i64 (m.gone)] ∧ OVec wl0 0 3 iv 1 Am m.mine.length cm m.mine ∧ OVec wl0 0 73 seatV 5 Al m.l.length cl m.l ∧ OVec wl0 0 103 rholdV 5 Ah m.hs.length ch_ m.hs ∧ Blk wl0 g0_0 35 (pairV d).toArray ∧ Blk wl0 g0_1 35 (pairV fee).toArray) (fun k => 2 - k) 0 ?_ ?_ ?_
 ·exact .cons rfl (.cons rfl (.cons rfl (.cons rfl (.cons rfl (.nil _)))))
 ·exact ⟨Nat.zero_le _, fun i hi => by omega, L2, Nat.le_refl _, f3, f4, f5, f6, f7, b0_1⟩
 ·rintro k wl0 ⟨hk, hall, Ll0, zl0, f0_0, f0_1, f0_2, f0_3, f0_4, f0_5⟩
  refine WC.seq (WC.seq (WC.region ?_))
  refine W.any (.move rfl) rfl rfl rfl ?_
  refine W.any (.lss rfl rfl) rfl rfl rfl ?_
  refine W.nil (E.thenN ?_)
  by_cases c0 : ((k : Nat) : Int) < 2
  ·refine WC.condY rfl (decide_eq_true c0) ?_
   refine WC.skip (E.thenN (WC.seq (WC.block (WC.seq (WC.region ?_)))))
   refine W.any (.move rfl) rfl rfl rfl ?_
   refine W.any (.idxAo (k) Tryz.underlying35 sz3 rfl rfl (rfl) (by omega)) rfl rfl rfl ?_
   refine W.rd (.loadB (v := .int .i64 ((d.ix k))) na3 rfl f0_4 (pair_at d (by omega))) rfl rfl rfl ?_
   refine W.any (.lss rfl rfl) rfl rfl rfl ?_
   by_cases q4_4 : (d.ix k) < (-1125899906842624)
   ·refine W.any (.dec (.move rfl) (decide_eq_true q4_4)) rfl rfl rfl ?_
    refine W.skip rfl rfl rfl (rfl) rfl rfl ?_
    refine W.skip rfl rfl rfl (rfl) rfl rfl ?_
    refine W.skip rfl rfl rfl (rfl) rfl rfl ?_
    refine W.skip rfl rfl rfl (rfl) rfl rfl ?_
    refine W.any (.pickT rfl rfl rfl) rfl rfl rfl ?_
    refine W.any (.move rfl) rfl rfl rfl ?_
    refine W.skip rfl rfl rfl (rfl) rfl rfl ?_
    refine W.skip rfl rfl rfl (rfl) rfl rfl ?_
    refine W.skip rfl rfl rfl (rfl) rfl rfl ?_
    refine W.skip rfl rfl rfl (rfl) rfl rfl ?_
    refine W.skip rfl rfl rfl (rfl) rfl rfl ?_
    refine W.any (.pickT rfl rfl rfl) rfl rfl rfl ?_
    refine W.nil (E.thenN ?_)
    refine WC.condT rfl ?_
    refine WC.seq (WC.region ?_)
    refine W.any (.assign rfl) rfl rfl rfl ?_
    refine W.nil (E.thenN (WC.ret (E.blkR (E.thenR (E.thenR (E.blkR (E.thenR ?_)))))))
    refine E.retG1 rfl rfl ?_
    have hbad : ¬ spOk d fee := by intro hz; have z1 := hz k (by omega); have q1 : coinL (fee.ix k) = true := (by simp [coinL]; omega); first | omega | simp_all
    have ho : (spliceL s ch d fee) = (s, 1) := by unfold spliceL; rw [if_pos hbad]
    rw [ho]; exact ⟨Ll0, _, _, _, _, _, _, m, rfl, ⟨f0_0, f0_1, f0_2, f0_3, hL.mp, hL.lp, hL.hpp, hL.ml, hL.mh, hL.lh⟩, hR, fun g hg => .inl hg⟩
   ·refine W.any (.dec (.move rfl) (decide_eq_false q4_4)) rfl rfl rfl ?_
    refine W.rdg (Any.rd (.move rfl) _) rfl rfl rfl (rfl) rfl rfl ?_
    refine W.rdg (Any.rd (.idxAo (k) Tryz.underlying35 sz3 rfl rfl (rfl) (by omega)) _) rfl rfl rfl (rfl) rfl rfl ?_
    refine W.rdg (.loadB (v := .int .i64 ((d.ix k))) na3 rfl f0_4 (pair_at d (by omega))) rfl rfl rfl (rfl) rfl rfl ?_
    refine W.rdg (Any.rd (.gtr rfl rfl) _) rfl rfl rfl (rfl) rfl rfl ?_
    refine W.any (.pickF rfl rfl rfl) rfl rfl rfl ?_
    by_cases q4_10 : 1125899906842624 < (d.ix k)
    ·refine W.any (.dec (.move rfl) (decide_eq_true q4_10)) rfl rfl rfl ?_
     refine W.skip rfl rfl rfl (rfl) rfl rfl ?_
     refine W.skip rfl rfl rfl (rfl) rfl rfl ?_
     refine W.skip rfl rfl rfl (rfl) rfl rfl ?_
     refine W.skip rfl rfl rfl (rfl) rfl rfl ?_
     refine W.skip rfl rfl rfl (rfl) rfl rfl ?_
     refine W.any (.pickT rfl rfl rfl) rfl rfl rfl ?_
     refine W.nil (E.thenN ?_)
     refine WC.condT rfl ?_
     refine WC.seq (WC.region ?_)
     refine W.any (.assign rfl) rfl rfl rfl ?_
     refine W.nil (E.thenN (WC.ret (E.blkR (E.thenR (E.thenR (E.blkR (E.thenR ?_)))))))
     refine E.retG1 rfl rfl ?_
     have hbad : ¬ spOk d fee := by intro hz; have z1 := hz k (by omega); have q1 : coinL (fee.ix k) = true := (by simp [coinL]; omega); first | omega | simp_all
     have ho : (spliceL s ch d fee) = (s, 1) := by unfold spliceL; rw [if_pos hbad]
     rw [ho]; exact ⟨Ll0, _, _, _, _, _, _, m, rfl, ⟨f0_0, f0_1, f0_2, f0_3, hL.mp, hL.lp, hL.hpp, hL.ml, hL.mh, hL.lh⟩, hR, fun g hg => .inl hg⟩
    ·refine W.any (.dec (.move rfl) (decide_eq_false q4_10)) rfl rfl rfl ?_
     refine W.rdg (Any.rd (.move rfl) _) rfl rfl rfl (rfl) rfl rfl ?_
     refine W.rdg (Any.rd (.idxAo (k) Tryz.underlying35 sz3 rfl rfl (rfl) (by omega)) _) rfl rfl rfl (rfl) rfl rfl ?_
     refine W.rdg (.loadB (v := .int .i64 ((fee.ix k))) na3 rfl f0_5 (pair_at fee (by omega))) rfl rfl rfl (rfl) rfl rfl ?_
     refine W.efg rfl rfl rfl (rfl) rfl rfl ?_
     refine Ef.call go28 rfl rfl (rcoin_ok (fee.ix k) wl0) ?_
     rintro _ w4_14 ⟨rfl, h4_14⟩
     refine ⟨_, rfl, ?_⟩
     have L8 := Ll0.le h4_14
     refine W.rdg (Any.rd (.not rfl) _) rfl rfl rfl (rfl) rfl rfl ?_
     refine W.any (.pickF rfl rfl rfl) rfl rfl rfl ?_
     refine W.nil (E.thenN ?_)
     by_cases c1 : (coinL (fee.ix k)) = true
     ·refine WC.condN rfl (congrArg not (c1)) ?_
      refine WC.skip (E.blkN (E.thenN (WC.region ?_)))
      refine W.any (.move rfl) rfl rfl rfl ?_
      refine W.any (.add rfl rfl (by omega)) rfl rfl rfl ?_
      refine W.any (.assign rfl) rfl rfl rfl ?_
      refine W.nil ?_
      have f9 := (f0_0.le h4_14)
      have f10 := (f0_1.le h4_14)
      have f11 := (f0_2.le h4_14)
      have f12 := (f0_3.le h4_14)
      have f13 := (f0_4.le h4_14)
      have f14 := (f0_5.le h4_14)
      refine E.again (k + 1) (.cons rfl (.cons rfl (.cons rfl (.cons rfl (.cons rfl (.nil _)))))) ?_ ?_
      ·exact ⟨by omega, fun j hj => (Nat.lt_succ_iff_lt_or_eq.1 hj).elim (hall j) (fun hh => by subst hh; have q1 : coinL (fee.ix j) = true := (by simp_all); simp only [coinL, decide_eq_true_eq] at q1; omega), L8, by have := zl0; have := h4_14.size; omega, f9, f10, f11, f12, f13, f14⟩
      ·first | omega | (simp only []; omega)
     ·refine WC.condY rfl (congrArg not ((Bool.eq_false_iff.2 c1))) ?_
      refine WC.seq (WC.region ?_)
      refine W.any (.assign rfl) rfl rfl rfl ?_
      refine W.nil (E.thenN (WC.ret (E.blkR (E.thenR (E.thenR (E.blkR (E.thenR ?_)))))))
      have f15 := (f0_0.le h4_14)
      have f16 := (f0_1.le h4_14)
      have f17 := (f0_2.le h4_14)
      have f18 := (f0_3.le h4_14)
      refine E.retG1 rfl rfl ?_
      have hbad : ¬ spOk d fee := by intro hz; have z1 := hz k (by omega); have q1 : coinL (fee.ix k) = true := (by simp [coinL]; omega); first | omega | simp_all
      have ho : (spliceL s ch d fee) = (s, 1) := by unfold spliceL; rw [if_pos hbad]
      rw [ho]; exact ⟨L8, _, _, _, _, _, _, m, rfl, ⟨f15, f16, f17, f18, hL.mp, hL.lp, hL.hpp, hL.ml, hL.mh, hL.lh⟩, hR, fun g hg => .inl hg⟩
  ·refine WC.condN rfl (decide_eq_false c0) ?_
   have hok : spOk d fee := fun j hj => hall j (by omega)
   refine WC.exit (E.thenX (E.thenX (E.blkH (E.thenN (WC.seq (WC.region ?_))))))
   refine W.any (.move rfl) rfl rfl rfl ?_
   refine W.any (.move rfl) rfl rfl rfl ?_
   refine W.ef rfl rfl rfl ?_
   refine Ef.call go59 rfl rfl (rat3_ok ch wl0 f0_0 f0_2.vec (by omega)) ?_
   rintro _ w6_2 ⟨v6_2, rfl, hat6_2, h6_2⟩
   refine ⟨_, rfl, ?_⟩
   have L19 := Ll0.le h6_2
   refine W.any (.assign rfl) rfl rfl rfl ?_
   refine W.nil (E.thenN (WC.seq (WC.seq (WC.region ?_))))
   refine W.any (.move rfl) rfl rfl rfl ?_
   refine W.any (.lss rfl rfl) rfl rfl rfl ?_
   refine W.nil (E.thenN ?_)
   by_cases c2 : v6_2 < 0
   ·refine WC.condY rfl (decide_eq_true c2) ?_
    refine WC.seq (WC.region ?_)
    refine W.any (.assign rfl) rfl rfl rfl ?_
    refine W.nil (E.thenN (WC.ret (E.thenR ?_)))
    have f20 := (f0_0.le h6_2)
    have f21 := (f0_1.le h6_2)
    have f22 := (f0_2.le h6_2)
    have f23 := (f0_3.le h6_2)
    refine E.retG1 rfl rfl ?_
    have hno : getG ch s.ls = none := by rcases hat6_2 with ⟨_, z⟩ | ⟨q, z, z1, z2⟩; exact hR.at_none z; omega
    have ho : (spliceL s ch d fee) = (s, 5) := by unfold spliceL; rw [if_neg (not_not_intro hok), hno]
    rw [ho]; exact ⟨L19, _, _, _, _, _, _, m, rfl, ⟨f20, f21, f22, f23, hL.mp, hL.lp, hL.hpp, hL.ml, hL.mh, hL.lh⟩, hR, fun g hg => .inl hg⟩
   ·refine WC.condN rfl (decide_eq_false c2) ?_
    obtain ⟨q, hq0, hq1, hq2⟩ : ∃ q : Nat, v6_2 = (q : Int) ∧ q < m.l.length ∧ (m.l.getD q noSeat).ch = ch := by rcases hat6_2 with ⟨z, _⟩ | z; omega; exact z
    have hgs : getG ch s.ls = some (m.l.getD q noSeat) := by have h := hR.at_some hG hq1; rwa [hq2] at h
    have hso := hf.seats q hq1
    refine WC.skip (E.thenN (WC.seq (WC.region ?_)))
    refine W.any (.move rfl) rfl rfl rfl ?_
    have f24 := (f0_0.le h6_2)
    have f25 := (f0_1.le h6_2)
    have f26 := (f0_2.le h6_2)
    have f27 := (f0_3.le h6_2)
    refine W.ef rfl rfl rfl ?_
    refine Ef.call go67 rfl rfl (rcopy_ok w6_2 ⟨f24, f25, f26, f27, hL.mp, hL.lp, hL.hpp, hL.ml, hL.mh, hL.lh⟩ hf) ?_
    rintro _ w9_1 ⟨gp9_1, Am9_1, cm9_1, Al9_1, cl9_1, Ah9_1, ch9_1, rfl, hg9_1, bp9_1, om9_1, os9_1, oh9_1, ⟨n19_1, n29_1, n39_1⟩, ⟨p19_1, p29_1, p39_1⟩, h9_1⟩
    refine ⟨_, rfl, ?_⟩
    have L28 := L19.le h9_1
    refine W.any (.assign rfl) rfl rfl rfl ?_
    refine W.nil (E.thenN (WC.seq (WC.seq (WC.region ?_))))
    refine W.any (.assign rfl) rfl rfl rfl ?_
    refine W.nil (E.thenN (WC.block ?_))
    have f29 := (f24.le h9_1)
    have f30 := (f25.le h9_1)
    have f31 := (f26.le h9_1)
    have f32 := (f27.le h9_1)
    have f33 := (f0_4.le (h6_2.trans h9_1))
    have f34 := (f0_5.le (h6_2.trans h9_1))
    refine WC.loop (ι := Nat) (fun i => [(0, .pointer (some ⟨gp, 0, none⟩)), (6, .pointer (some ⟨g0_0, 0, none⟩)), (7, .pointer (some ⟨g0_1, 0, none⟩)), (10, .int .i64 (v6_2)), (11, .pointer (some ⟨gp9_1, 0, none⟩)), (12, .int .i64 (((i : Nat) : Int)))]) (fun i wl1 => (i ≤ 2) ∧ (∀ j, j < i → ¬ spNo s.own (m.l.getD q noSeat) d fee j) ∧ ChP w wl1 (fun k => k = gp ∨ rowOf Am cm = some k ∨ rowOf Al cl = some k ∨ rowOf Ah ch_ = some k) ∧ w9_1.heap.size ≤ wl1.heap.size ∧ Blk wl1 gp 71 #[.slice Am m.mine.length cm, .slice Al m.l.length cl, .slice Ah m.hs.length ch_, .int .i64 (m.gone)] ∧ OVec wl1 0 3 iv 1 Am m.mine.length cm m.mine ∧ OVec wl1 0 73 seatV 5 Al m.l.length cl m.l ∧ OVec wl1 0 103 rholdV 5 Ah m.hs.length ch_ m.hs ∧ Blk wl1 g0_0 35 (pairV d).toArray ∧ Blk wl1 g0_1 35 (pairV fee).toArray ∧ Blk wl1 gp9_1 71 #[.slice Am9_1 m.mine.length cm9_1, .slice Al9_1 m.l.length cl9_1, .slice Ah9_1 m.hs.length ch9_1, .int .i64 ((backF m.gone fee i))] ∧ OVec wl1 w6_2.heap.size 3 iv 1 Am9_1 m.mine.length cm9_1 (spO m.mine (m.l.getD q noSeat) d fee i) ∧ OVec wl1 w6_2.heap.size 73 seatV 5 Al9_1 m.l.length cl9_1 (m.l.set q (addK (m.l.getD q noSeat) d i)) ∧ OVec wl1 w6_2.heap.size 103 rholdV 5 Ah9_1 m.hs.length ch9_1 m.hs) (fun i => 2 - i) 0 ?_ ?_ ?_
    ·exact .cons rfl (.cons rfl (.cons rfl (.cons rfl (.cons rfl (.cons rfl (.nil _))))))
    ·exact ⟨Nat.zero_le _, fun i hi => by omega, L28, Nat.le_refl _, f29, f30, f31, f32, f33, f34, bp9_1, om9_1, (os9_1.cast rfl (set_same hq1).symm), oh9_1⟩
    ·rintro i wl1 ⟨hi, hno, Ll1, zl1, f1_0, f1_1, f1_2, f1_3, f1_4, f1_5, f1_6, f1_7, f1_8, f1_9⟩
     have lb1_7 : w6_2.heap.size ≤ wl1.heap.size := by have := h9_1.size; omega
     have lb1_8 : w6_2.heap.size ≤ wl1.heap.size := by have := h9_1.size; omega
     have lb1_9 : w6_2.heap.size ≤ wl1.heap.size := by have := h9_1.size; omega
     have hlo := hG.lostB
     have hfl2 := backF_le (lost := m.gone) (fee := fee) hi (by omega) (hok 0 (by omega)).2 (hok 1 (by omega)).2
     have hd2 := hok i
     have hse := fun h => (seatOk_at hso (k := i) h)
     refine WC.seq (WC.seq (WC.region ?_))
     refine W.any (.move rfl) rfl rfl rfl ?_
     refine W.any (.lss rfl rfl) rfl rfl rfl ?_
     refine W.nil (E.thenN ?_)
     by_cases c3 : ((i : Nat) : Int) < 2
     ·refine WC.condY rfl (decide_eq_true c3) ?_
      refine WC.skip (E.thenN (WC.seq (WC.block (WC.seq (WC.region ?_)))))
      refine W.any (.move rfl) rfl rfl rfl ?_
      refine W.any (.nilCheck rfl) rfl rfl rfl ?_
      refine W.any (.field0 fa71_1 rfl) rfl rfl rfl ?_
      refine W.rd (.loadB (v := .slice Al9_1 m.l.length cl9_1) na68 rfl f1_6 rfl) rfl rfl rfl ?_
      refine W.any (.move rfl) rfl rfl rfl ?_
      refine W.any (.move rfl) rfl rfl rfl ?_
      refine W.any (.idxS (q) Tryz.underlying68 sz73 rfl rfl (os9_1.vec.isSome seatV_row (by omega)) (by omega) (by omega)) rfl rfl rfl ?_
      refine W.any (.vfield fa73_1 (os9_1.vec.isSome seatV_row (by omega)) rfl) rfl rfl rfl ?_
      refine W.any (.vidx (i) Tryz.underlying35 sz3 (os9_1.vec.isSome seatV_row (by omega)) rfl rfl (by omega) (by omega)) rfl rfl rfl ?_
      refine W.rd (.vcellQ (j := q) (o := 1) (q := i) (v := .int .i64 (((addK (m.l.getD q noSeat) d i).p i))) na3 rfl f1_8.vec seatV_row (set_getS hq1) (seatP_at _ (by omega))) rfl rfl rfl ?_
      refine W.any (.assign rfl) rfl rfl rfl ?_
      refine W.nil (E.thenN (WC.seq ?_))
      refine WC.draw [0, 1, 2, 3, 4, 5, 6, 7, 8, 9, 10, 11, 12, 13, 14, 15, 16, 17, 18, 19, 20, 21, 22, 23] mixed (by kernel_rfl) ?_
      intro w14 d14
      have L35 := Ll1.le d14
      refine G.any rfl rfl (.move rfl) rfl rfl rfl ?_
      refine G.any rfl rfl (.nilCheck rfl) rfl rfl rfl ?_
      refine G.any rfl rfl (.field0 fa71_1 rfl) rfl rfl rfl ?_
      have f36 := (f1_6.le d14)
      refine G.rd rfl rfl (.loadB (v := .slice Al9_1 m.l.length cl9_1) na68 rfl f36 rfl) rfl rfl rfl ?_
      refine G.any rfl rfl (.move rfl) rfl rfl rfl ?_
      refine G.any rfl rfl (.move rfl) rfl rfl rfl ?_
      refine G.any rfl rfl (.move rfl) rfl rfl rfl ?_
      refine G.any rfl rfl (.nilCheck rfl) rfl rfl rfl ?_
      refine G.any rfl rfl (.field0 fa71_1 rfl) rfl rfl rfl ?_
      refine G.rd rfl rfl (.loadB (v := .slice Al9_1 m.l.length cl9_1) na68 rfl f36 rfl) rfl rfl rfl ?_
      refine G.any rfl rfl (.move rfl) rfl rfl rfl ?_
      refine G.any rfl rfl (.move rfl) rfl rfl rfl ?_
      refine G.any rfl rfl (.idxS (q) Tryz.underlying68 sz73 rfl rfl (os9_1.vec.isSome seatV_row (by omega)) (by omega) (by omega)) rfl rfl rfl ?_
      refine G.any rfl rfl (.vfield fa73_2 (os9_1.vec.isSome seatV_row (by omega)) rfl) rfl rfl rfl ?_
      refine G.any rfl rfl (.vidx (i) Tryz.underlying35 sz3 (os9_1.vec.isSome seatV_row (by omega)) rfl rfl (rfl) (by omega)) rfl rfl rfl ?_
      have f37 := (f1_8.le d14)
      refine G.rd rfl rfl (.vcellQ (j := q) (o := 3) (q := i) (v := .int .i64 (((addK (m.l.getD q noSeat) d i).h i))) na3 rfl f37.vec seatV_row (set_getS hq1) (seatH_at _ (by omega))) rfl rfl rfl ?_
      refine G.any rfl rfl (.move rfl) rfl rfl rfl ?_
      refine G.any rfl rfl (.idxAo (i) Tryz.underlying35 sz3 rfl rfl (rfl) (by omega)) rfl rfl rfl ?_
      have f38 := (f1_4.le d14)
      refine G.rd rfl rfl (.loadB (v := .int .i64 ((d.ix i))) na3 rfl f38 (pair_at d (by omega))) rfl rfl rfl ?_
      refine G.any rfl rfl (.add rfl rfl (by rw [addK_h (by omega)]; have := (hse (by omega)).2; have := hd2 (by omega); omega)) rfl rfl rfl ?_
      refine G.any rfl rfl (.idxS (q) Tryz.underlying68 sz73 rfl rfl (os9_1.vec.isSome seatV_row (by omega)) (by omega) (by omega)) rfl rfl rfl ?_
      refine G.any rfl rfl (.vfield fa73_2 (os9_1.vec.isSome seatV_row (by omega)) rfl) rfl rfl rfl ?_
      refine G.any rfl rfl (.vidx (i) Tryz.underlying35 sz3 (os9_1.vec.isSome seatV_row (by omega)) rfl rfl (rfl) (by omega)) rfl rfl rfl ?_
      refine G.ef0 rfl rfl rfl rfl ?_
      refine Ef.vset (j := q) (o := 3 + i) (((m.l.set q (addK (m.l.getD q noSeat) d i)).getD q noSeat).setH i (((addK (m.l.getD q noSeat) d i).h i) + (d.ix i))) sz3 rfl (by omega) rfl f37 seatV_row (getS (m.l.set q (addK (m.l.getD q noSeat) d i)) noSeat (by first | omega | (rw [List.length_set]; omega))) (by omega) (seatH_setL _ _ (by omega)) rfl ?_
      intro w14_23 o14_23 h14_23
      refine ⟨fun h => absurd h (ne_true_of_eq_false (by kernel_rfl)), ?_⟩
      have L39 : ChP w w14_23 (fun k => k = gp ∨ rowOf Am cm = some k ∨ rowOf Al cl = some k ∨ rowOf Ah ch_ = some k) := L35.ch h14_23 (fun i hi hlt => absurd hlt (by have := (f37.row hi).1; have := L19.size; omega))
      have o40 := o14_23.cast (m' := m.l.length) (ys := (m.l.set q (addK (m.l.getD q noSeat) d (i + 1)))) (rfl) (by rw [set_getD hq1, List.set_set]; rfl)
      refine G.nil (E.thenN (WC.seq ?_))
      refine WC.draw [0, 1, 2, 3, 4, 5, 6, 7, 8, 9, 10, 11, 12, 13, 14, 15, 16, 17, 18, 19, 20, 21] mixed (by kernel_rfl) ?_
      intro w15 d15
      have L41 := L39.le d15
      refine G.any rfl rfl (.move rfl) rfl rfl rfl ?_
      refine G.any rfl rfl (.nilCheck rfl) rfl rfl rfl ?_
      refine G.any rfl rfl (.field0 fa71_0 rfl) rfl rfl rfl ?_
      have f42 := ((f36.ch h14_23 n29_1).le d15)
      refine G.rd rfl rfl (.loadB (v := .slice Am9_1 m.mine.length cm9_1) na22 rfl f42 rfl) rfl rfl rfl ?_
      refine G.any rfl rfl (.move rfl) rfl rfl rfl ?_
      refine G.any rfl rfl (.move rfl) rfl rfl rfl ?_
      refine G.any rfl rfl (.nilCheck rfl) rfl rfl rfl ?_
      refine G.any rfl rfl (.field0 fa71_0 rfl) rfl rfl rfl ?_
      refine G.rd rfl rfl (.loadB (v := .slice Am9_1 m.mine.length cm9_1) na22 rfl f42 rfl) rfl rfl rfl ?_
      refine G.any rfl rfl (.move rfl) rfl rfl rfl ?_
      refine G.any rfl rfl (.idxS (((m.l.getD q noSeat).p i).toNat) Tryz.underlying22 sz3 rfl rfl (om9_1.vec.isSome iv_row (by omega)) (by first | (rw [addK_p]; have := (hse (by omega)).1; omega) | (have := (hse (by omega)).1; omega)) (by first | (rw [spO_len]; have := (hse (by omega)).1; omega) | (have := (hse (by omega)).1; omega))) rfl rfl rfl ?_
      have f43 := (((f1_7.le d14).ch h14_23 ((Apart.symm p19_1))).le d15)
      refine G.rd rfl rfl (.vone (v := .int .i64 (((spO m.mine (m.l.getD q noSeat) d fee i).getD (((m.l.getD q noSeat).p i).toNat) 0))) na3 rfl f43.vec iv_row (getS (spO m.mine (m.l.getD q noSeat) d fee i) 0 (by first | (rw [spO_len]; have := (hse (by omega)).1; omega) | (have := (hse (by omega)).1; omega))) rfl) rfl rfl rfl ?_
      refine G.any rfl rfl (.move rfl) rfl rfl rfl ?_
      refine G.any rfl rfl (.idxAo (i) Tryz.underlying35 sz3 rfl rfl (rfl) (by omega)) rfl rfl rfl ?_
      have f44 := ((f38.ch h14_23 (fun he => by have := (f37.row he).1; have := f0_4.lt; have := h6_2.size; omega)).le d15)
      refine G.rd rfl rfl (.loadB (v := .int .i64 ((d.ix i))) na3 rfl f44 (pair_at d (by omega))) rfl rfl rfl ?_
      refine G.any rfl rfl (.sub rfl rfl (by rw [spO_at (by omega) hso.1.1 hso.2.1.1 hso.2.2.1]; have := hf.mine ((m.l.getD q noSeat).p i).toNat; have := hd2 (by omega); omega)) rfl rfl rfl ?_
      refine G.any rfl rfl (.move rfl) rfl rfl rfl ?_
      refine G.any rfl rfl (.idxAo (i) Tryz.underlying35 sz3 rfl rfl (rfl) (by omega)) rfl rfl rfl ?_
      have f45 := (((f1_5.le d14).ch h14_23 (fun he => by have := (f37.row he).1; have := f0_5.lt; have := h6_2.size; omega)).le d15)
      refine G.rd rfl rfl (.loadB (v := .int .i64 ((fee.ix i))) na3 rfl f45 (pair_at fee (by omega))) rfl rfl rfl ?_
      refine G.any rfl rfl (.sub rfl rfl (by rw [spO_at (by omega) hso.1.1 hso.2.1.1 hso.2.2.1]; have := hf.mine ((m.l.getD q noSeat).p i).toNat; have := hd2 (by omega); omega)) rfl rfl rfl ?_
      refine G.any rfl rfl (.idxS (((m.l.getD q noSeat).p i).toNat) Tryz.underlying22 sz3 rfl rfl (om9_1.vec.isSome iv_row (by omega)) (by first | (rw [addK_p]; have := (hse (by omega)).1; omega) | (have := (hse (by omega)).1; omega)) (by first | (rw [spO_len]; have := (hse (by omega)).1; omega) | (have := (hse (by omega)).1; omega))) rfl rfl rfl ?_
      refine G.ef0 rfl rfl rfl rfl ?_
      refine Ef.vset (j := ((m.l.getD q noSeat).p i).toNat) (o := 0) ((((spO m.mine (m.l.getD q noSeat) d fee i).getD (((m.l.getD q noSeat).p i).toNat) 0) - (d.ix i)) - (fee.ix i)) sz3 rfl (by omega) rfl f43 iv_row (getS (spO m.mine (m.l.getD q noSeat) d fee i) 0 (by first | (rw [spO_len]; have := (hse (by omega)).1; omega) | (have := (hse (by omega)).1; omega))) (by decide) rfl rfl ?_
      intro w15_21 o15_21 h15_21
      refine ⟨fun h => absurd h (ne_true_of_eq_false (by kernel_rfl)), ?_⟩
      have L46 : ChP w w15_21 (fun k => k = gp ∨ rowOf Am cm = some k ∨ rowOf Al cl = some k ∨ rowOf Ah ch_ = some k) := L41.ch h15_21 (fun i hi hlt => absurd hlt (by have := (f43.row hi).1; have := L19.size; omega))
      have o47 := o15_21.cast (m' := m.mine.length) (ys := (spO m.mine (m.l.getD q noSeat) d fee (i + 1))) (rfl) (giveO_set (j := i) rfl (by omega))
      refine G.nil (E.thenN (WC.seq ?_))
      refine WC.draw [0, 1, 2, 3, 4, 5, 6, 7, 8, 9, 10, 11] mixed (by kernel_rfl) ?_
      intro w16 d16
      have L48 := L46.le d16
      refine G.any rfl rfl (.move rfl) rfl rfl rfl ?_
      refine G.any rfl rfl (.move rfl) rfl rfl rfl ?_
      refine G.any rfl rfl (.nilCheck rfl) rfl rfl rfl ?_
      refine G.any rfl rfl (.field0 fa71_3 rfl) rfl rfl rfl ?_
      have f49 := ((f42.ch h15_21 n19_1).le d16)
      refine G.rd rfl rfl (.loadB (v := .int .i64 ((backF m.gone fee i))) na3 rfl f49 rfl) rfl rfl rfl ?_
      refine G.any rfl rfl (.move rfl) rfl rfl rfl ?_
      refine G.any rfl rfl (.idxAo (i) Tryz.underlying35 sz3 rfl rfl (rfl) (by omega)) rfl rfl rfl ?_
      have f50 := ((f45.ch h15_21 (fun he => by have := (f43.row he).1; have := f0_5.lt; have := h6_2.size; omega)).le d16)
      refine G.rd rfl rfl (.loadB (v := .int .i64 ((fee.ix i))) na3 rfl f50 (pair_at fee (by omega))) rfl rfl rfl ?_
      refine G.any rfl rfl (.add rfl rfl (by have := hd2 (by omega); omega)) rfl rfl rfl ?_
      refine G.any rfl rfl (.nilCheck rfl) rfl rfl rfl ?_
      refine G.any rfl rfl (.field0 fa71_3 rfl) rfl rfl rfl ?_
      refine G.ef0 rfl rfl rfl rfl ?_
      refine Ef.store sz3 rfl rfl f49 (by first | decide | (simp; done)) (rfl) ?_
      intro w16_11 b16_11 h16_11
      refine ⟨fun h => absurd h (ne_true_of_eq_false (by kernel_rfl)), ?_⟩
      have b16_11 : Blk w16_11 gp9_1 71 #[.slice Am9_1 m.mine.length cm9_1, .slice Al9_1 m.l.length cl9_1, .slice Ah9_1 m.hs.length ch9_1, .int .i64 (((backF m.gone fee i) + (fee.ix i)))] := b16_11
      have L51 : ChP w w16_11 (fun k => k = gp ∨ rowOf Am cm = some k ∨ rowOf Al cl = some k ∨ rowOf Ah ch_ = some k) := L48.ch h16_11 (fun i hi hlt => by cases hi; exact absurd hlt (by have := L19.size; have := hg9_1; omega))
      refine G.nil (E.thenN (WC.seq (WC.region ?_)))
      refine W.any (.move rfl) rfl rfl rfl ?_
      refine W.any (.nilCheck rfl) rfl rfl rfl ?_
      refine W.any (.field0 fa71_1 rfl) rfl rfl rfl ?_
      refine W.rd (.loadB (v := .slice Al9_1 m.l.length cl9_1) na68 rfl b16_11 rfl) rfl rfl rfl ?_
      refine W.any (.move rfl) rfl rfl rfl ?_
      refine W.any (.move rfl) rfl rfl rfl ?_
      refine W.any (.idxS (q) Tryz.underlying68 sz73 rfl rfl (os9_1.vec.isSome seatV_row (by omega)) (by omega) (by omega)) rfl rfl rfl ?_
      refine W.any (.vfield fa73_2 (os9_1.vec.isSome seatV_row (by omega)) rfl) rfl rfl rfl ?_
      refine W.any (.vidx (i) Tryz.underlying35 sz3 (os9_1.vec.isSome seatV_row (by omega)) rfl rfl (rfl) (by omega)) rfl rfl rfl ?_
      have f52 := ((((o40.le d15).ch h15_21 (p19_1)).le d16).ch h16_11 (fun q hq => by cases hq; exact n29_1))
      refine W.rd (.vcellQ (j := q) (o := 3) (q := i) (v := .int .i64 (((addK (m.l.getD q noSeat) d (i + 1)).h i))) na3 rfl f52.vec seatV_row (set_getS hq1) (seatH_at _ (by omega))) rfl rfl rfl ?_
      refine W.any (.lss rfl rfl) rfl rfl rfl ?_
      by_cases q17_11 : ((addK (m.l.getD q noSeat) d (i + 1)).h i) < 0
      ·refine W.any (.dec (.move rfl) (decide_eq_true q17_11)) rfl rfl rfl ?_
       refine W.skip rfl rfl rfl (rfl) rfl rfl ?_
       refine W.skip rfl rfl rfl (rfl) rfl rfl ?_
       refine W.skip rfl rfl rfl (rfl) rfl rfl ?_
       refine W.skip rfl rfl rfl (rfl) rfl rfl ?_
       refine W.skip rfl rfl rfl (rfl) rfl rfl ?_
       refine W.skip rfl rfl rfl (rfl) rfl rfl ?_
       refine W.skip rfl rfl rfl (rfl) rfl rfl ?_
       refine W.skip rfl rfl rfl (rfl) rfl rfl ?_
       refine W.any (.pickT rfl rfl rfl) rfl rfl rfl ?_
       refine W.nil (E.thenN ?_)
       refine WC.condT rfl ?_
       refine WC.seq (WC.region ?_)
       refine W.any (.assign rfl) rfl rfl rfl ?_
       refine W.nil (E.thenN (WC.ret (E.blkR (E.thenR (E.thenR (E.blkR (E.thenR ?_)))))))
       have f53 := ((((((f1_0.le d14).ch h14_23 (fun he => by have := (f37.row he).1; have := f24.lt; omega)).le d15).ch h15_21 (fun he => by have := (f43.row he).1; have := f24.lt; omega)).le d16).ch h16_11 (fun h => (show gp9_1 ≠ gp from by have := f24.lt; omega) (Option.some.inj h)))
       have f54 := ((((((f1_1.le d14).ch h14_23 ((Apart.symm (fun q h1 h2 => by have := (f25.row h1).2; have := (f37.row h2).1; omega)))).le d15).ch h15_21 ((Apart.symm (fun q h1 h2 => by have := (f25.row h1).2; have := (f43.row h2).1; omega)))).le d16).ch h16_11 (fun q hq => by cases hq; exact (fun he => by have := (f25.row he).2; omega)))
       have f55 := ((((((f1_2.le d14).ch h14_23 ((Apart.symm (fun q h1 h2 => by have := (f26.row h1).2; have := (f37.row h2).1; omega)))).le d15).ch h15_21 ((Apart.symm (fun q h1 h2 => by have := (f26.row h1).2; have := (f43.row h2).1; omega)))).le d16).ch h16_11 (fun q hq => by cases hq; exact (fun he => by have := (f26.row he).2; omega)))
       have f56 := ((((((f1_3.le d14).ch h14_23 ((Apart.symm (fun q h1 h2 => by have := (f27.row h1).2; have := (f37.row h2).1; omega)))).le d15).ch h15_21 ((Apart.symm (fun q h1 h2 => by have := (f27.row h1).2; have := (f43.row h2).1; omega)))).le d16).ch h16_11 (fun q hq => by cases hq; exact (fun he => by have := (f27.row he).2; omega)))
       refine E.retG1 rfl rfl ?_
       have hsn : spNo s.own (m.l.getD q noSeat) d fee i := by rw [← e1]; have ha9 := addK_now (t := (m.l.getD q noSeat)) (d := d) (k := i) (by omega); have hb9 := spO_now (own := m.mine) (d := d) (fee := fee) (k := i) (by omega) hso; unfold spNo; omega
       have hsn2 : spNo s.own (m.l.getD q noSeat) d fee 0 ∨ spNo s.own (m.l.getD q noSeat) d fee 1 := by rcases (show i = 0 ∨ i = 1 by omega) with e | e; exact .inl (e ▸ hsn); exact .inr (e ▸ hsn)
       have ho : (spliceL s ch d fee) = (s, 8) := by unfold spliceL; rw [if_neg (not_not_intro hok), hgs]; exact if_pos hsn2
       rw [ho]; exact ⟨L51, _, _, _, _, _, _, m, rfl, ⟨f53, f54, f55, f56, hL.mp, hL.lp, hL.hpp, hL.ml, hL.mh, hL.lh⟩, hR, fun g hg => .inl hg⟩
      ·refine W.any (.dec (.move rfl) (decide_eq_false q17_11)) rfl rfl rfl ?_
       refine W.rdg (Any.rd (.move rfl) _) rfl rfl rfl (rfl) rfl rfl ?_
       refine W.rdg (Any.rd (.nilCheck rfl) _) rfl rfl rfl (rfl) rfl rfl ?_
       refine W.rdg (Any.rd (.field0 fa71_0 rfl) _) rfl rfl rfl (rfl) rfl rfl ?_
       refine W.rdg (.loadB (v := .slice Am9_1 m.mine.length cm9_1) na22 rfl b16_11 rfl) rfl rfl rfl (rfl) rfl rfl ?_
       refine W.rdg (Any.rd (.move rfl) _) rfl rfl rfl (rfl) rfl rfl ?_
       refine W.rdg (Any.rd (.idxS (((m.l.getD q noSeat).p i).toNat) Tryz.underlying22 sz3 rfl rfl (om9_1.vec.isSome iv_row (by omega)) (by first | (rw [addK_p]; have := (hse (by omega)).1; omega) | (have := (hse (by omega)).1; omega)) (by first | (rw [spO_len]; have := (hse (by omega)).1; omega) | (have := (hse (by omega)).1; omega))) _) rfl rfl rfl (rfl) rfl rfl ?_
       have f57 := ((o47.le d16).ch h16_11 (fun q hq => by cases hq; exact n19_1))
       refine W.rdg (.vone (v := .int .i64 (((spO m.mine (m.l.getD q noSeat) d fee (i + 1)).getD (((m.l.getD q noSeat).p i).toNat) 0))) na3 rfl f57.vec iv_row (getS (spO m.mine (m.l.getD q noSeat) d fee (i + 1)) 0 (by first | (rw [spO_len]; have := (hse (by omega)).1; omega) | (have := (hse (by omega)).1; omega))) rfl) rfl rfl rfl (rfl) rfl rfl ?_
       refine W.rdg (Any.rd (.lss rfl rfl) _) rfl rfl rfl (rfl) rfl rfl ?_
       refine W.any (.pickF rfl rfl rfl) rfl rfl rfl ?_
       refine W.nil (E.thenN ?_)
       by_cases c4 : ((spO m.mine (m.l.getD q noSeat) d fee (i + 1)).getD (((m.l.getD q noSeat).p i).toNat) 0) < 0
       ·refine WC.condY rfl (decide_eq_true c4) ?_
        refine WC.seq (WC.region ?_)
        refine W.any (.assign rfl) rfl rfl rfl ?_
        refine W.nil (E.thenN (WC.ret (E.blkR (E.thenR (E.thenR (E.blkR (E.thenR ?_)))))))
        have f58 := ((((((f1_0.le d14).ch h14_23 (fun he => by have := (f37.row he).1; have := f24.lt; omega)).le d15).ch h15_21 (fun he => by have := (f43.row he).1; have := f24.lt; omega)).le d16).ch h16_11 (fun h => (show gp9_1 ≠ gp from by have := f24.lt; omega) (Option.some.inj h)))
        have f59 := ((((((f1_1.le d14).ch h14_23 ((Apart.symm (fun q h1 h2 => by have := (f25.row h1).2; have := (f37.row h2).1; omega)))).le d15).ch h15_21 ((Apart.symm (fun q h1 h2 => by have := (f25.row h1).2; have := (f43.row h2).1; omega)))).le d16).ch h16_11 (fun q hq => by cases hq; exact (fun he => by have := (f25.row he).2; omega)))
        have f60 := ((((((f1_2.le d14).ch h14_23 ((Apart.symm (fun q h1 h2 => by have := (f26.row h1).2; have := (f37.row h2).1; omega)))).le d15).ch h15_21 ((Apart.symm (fun q h1 h2 => by have := (f26.row h1).2; have := (f43.row h2).1; omega)))).le d16).ch h16_11 (fun q hq => by cases hq; exact (fun he => by have := (f26.row he).2; omega)))
        have f61 := ((((((f1_3.le d14).ch h14_23 ((Apart.symm (fun q h1 h2 => by have := (f27.row h1).2; have := (f37.row h2).1; omega)))).le d15).ch h15_21 ((Apart.symm (fun q h1 h2 => by have := (f27.row h1).2; have := (f43.row h2).1; omega)))).le d16).ch h16_11 (fun q hq => by cases hq; exact (fun he => by have := (f27.row he).2; omega)))
        refine E.retG1 rfl rfl ?_
        have hsn : spNo s.own (m.l.getD q noSeat) d fee i := by rw [← e1]; have ha9 := addK_now (t := (m.l.getD q noSeat)) (d := d) (k := i) (by omega); have hb9 := spO_now (own := m.mine) (d := d) (fee := fee) (k := i) (by omega) hso; unfold spNo; omega
        have hsn2 : spNo s.own (m.l.getD q noSeat) d fee 0 ∨ spNo s.own (m.l.getD q noSeat) d fee 1 := by rcases (show i = 0 ∨ i = 1 by omega) with e | e; exact .inl (e ▸ hsn); exact .inr (e ▸ hsn)
        have ho : (spliceL s ch d fee) = (s, 8) := by unfold spliceL; rw [if_neg (not_not_intro hok), hgs]; exact if_pos hsn2
        rw [ho]; exact ⟨L51, _, _, _, _, _, _, m, rfl, ⟨f58, f59, f60, f61, hL.mp, hL.lp, hL.hpp, hL.ml, hL.mh, hL.lh⟩, hR, fun g hg => .inl hg⟩
       ·refine WC.condN rfl (decide_eq_false c4) ?_
        refine WC.skip (E.blkN (E.thenN (WC.region ?_)))
        refine W.any (.move rfl) rfl rfl rfl ?_
        refine W.any (.add rfl rfl (by omega)) rfl rfl rfl ?_
        refine W.any (.assign rfl) rfl rfl rfl ?_
        refine W.nil ?_
        have f62 := ((((((f1_0.le d14).ch h14_23 (fun he => by have := (f37.row he).1; have := f24.lt; omega)).le d15).ch h15_21 (fun he => by have := (f43.row he).1; have := f24.lt; omega)).le d16).ch h16_11 (fun h => (show gp9_1 ≠ gp from by have := f24.lt; omega) (Option.some.inj h)))
        have f63 := ((((((f1_1.le d14).ch h14_23 ((Apart.symm (fun q h1 h2 => by have := (f25.row h1).2; have := (f37.row h2).1; omega)))).le d15).ch h15_21 ((Apart.symm (fun q h1 h2 => by have := (f25.row h1).2; have := (f43.row h2).1; omega)))).le d16).ch h16_11 (fun q hq => by cases hq; exact (fun he => by have := (f25.row he).2; omega)))
        have f64 := ((((((f1_2.le d14).ch h14_23 ((Apart.symm (fun q h1 h2 => by have := (f26.row h1).2; have := (f37.row h2).1; omega)))).le d15).ch h15_21 ((Apart.symm (fun q h1 h2 => by have := (f26.row h1).2; have := (f43.row h2).1; omega)))).le d16).ch h16_11 (fun q hq => by cases hq; exact (fun he => by have := (f26.row he).2; omega)))
        have f65 := ((((((f1_3.le d14).ch h14_23 ((Apart.symm (fun q h1 h2 => by have := (f27.row h1).2; have := (f37.row h2).1; omega)))).le d15).ch h15_21 ((Apart.symm (fun q h1 h2 => by have := (f27.row h1).2; have := (f43.row h2).1; omega)))).le d16).ch h16_11 (fun q hq => by cases hq; exact (fun he => by have := (f27.row he).2; omega)))
        have f66 := (((f44.ch h15_21 (fun he => by have := (f43.row he).1; have := f0_4.lt; have := h6_2.size; omega)).le d16).ch h16_11 (fun h => (show gp9_1 ≠ g0_0 from by have := f0_4.lt; have := h6_2.size; omega) (Option.some.inj h)))
        have f67 := (f50.ch h16_11 (fun h => (show gp9_1 ≠ g0_1 from by have := f0_5.lt; have := h6_2.size; omega) (Option.some.inj h)))
        have f68 := ((((((f1_9.le d14).ch h14_23 (p39_1)).le d15).ch h15_21 (p29_1)).le d16).ch h16_11 (fun q hq => by cases hq; exact n39_1))
        refine E.again (i + 1) (.cons rfl (.cons rfl (.cons rfl (.cons rfl (.cons rfl (.cons rfl (.nil _))))))) ?_ ?_
        ·exact ⟨by omega, fun j hj => (Nat.lt_succ_iff_lt_or_eq.1 hj).elim (hno j) (fun hh => by subst hh; rw [← e1]; have ha9 := addK_now (t := (m.l.getD q noSeat)) (d := d) (k := j) (by omega); have hb9 := spO_now (own := m.mine) (d := d) (fee := fee) (k := j) (by omega) hso; unfold spNo; omega), L51, by have := zl1; have := d14.size; have := h14_23.size; have := d15.size; have := h15_21.size; have := d16.size; have := h16_11.size; omega, f62, f63, f64, f65, f66, f67, b16_11, f57, f52, f68⟩
        ·first | omega | (simp only []; omega)
     ·refine WC.condN rfl (decide_eq_false c3) ?_
      refine WC.exit (E.thenX (E.thenX (E.blkH (E.thenN (WC.seq (WC.region ?_))))))
      refine W.any (.move rfl) rfl rfl rfl ?_
      refine W.any (.move rfl) rfl rfl rfl ?_
      refine W.any (.nilCheck rfl) rfl rfl rfl ?_
      refine W.any (.field0 fa71_1 rfl) rfl rfl rfl ?_
      refine W.rd (.loadB (v := .slice Al9_1 m.l.length cl9_1) na68 rfl f1_6 rfl) rfl rfl rfl ?_
      refine W.any (.nilCheck rfl) rfl rfl rfl ?_
      refine W.any (.field0 fa71_1 rfl) rfl rfl rfl ?_
      refine W.ef0 rfl rfl ?_
      refine Ef.store sz68 rfl rfl f1_0 (by first | decide | (simp; done)) (rfl) ?_
      intro w19_7 b19_7 h19_7
      have b19_7 : Blk w19_7 gp 71 #[.slice Am m.mine.length cm, .slice Al9_1 m.l.length cl9_1, .slice Ah m.hs.length ch_, .int .i64 (m.gone)] := b19_7
      have L69 : ChP w w19_7 (fun k => k = gp ∨ rowOf Am cm = some k ∨ rowOf Al cl = some k ∨ rowOf Ah ch_ = some k) := Ll1.ch h19_7 (fun i hi _ => by cases hi; exact Or.inl rfl)
      refine W.nil (E.thenN (WC.seq (WC.region ?_)))
      refine W.any (.move rfl) rfl rfl rfl ?_
      refine W.any (.move rfl) rfl rfl rfl ?_
      refine W.any (.nilCheck rfl) rfl rfl rfl ?_
      refine W.any (.field0 fa71_0 rfl) rfl rfl rfl ?_
      have f70 := (f1_6.ch h19_7 (fun h => (show gp ≠ gp9_1 from by have := f24.lt; omega) (Option.some.inj h)))
      refine W.rd (.loadB (v := .slice Am9_1 m.mine.length cm9_1) na22 rfl f70 rfl) rfl rfl rfl ?_
      refine W.any (.nilCheck rfl) rfl rfl rfl ?_
      refine W.any (.field0 fa71_0 rfl) rfl rfl rfl ?_
      refine W.ef0 rfl rfl ?_
      refine Ef.store sz22 rfl rfl b19_7 (by first | decide | (simp; done)) (rfl) ?_
      intro w20_7 b20_7 h20_7
      have b20_7 : Blk w20_7 gp 71 #[.slice Am9_1 m.mine.length cm9_1, .slice Al9_1 m.l.length cl9_1, .slice Ah m.hs.length ch_, .int .i64 (m.gone)] := b20_7
      have L71 : ChP w w20_7 (fun k => k = gp ∨ rowOf Am cm = some k ∨ rowOf Al cl = some k ∨ rowOf Ah ch_ = some k) := L69.ch h20_7 (fun i hi _ => by cases hi; exact Or.inl rfl)
      refine W.nil (E.thenN (WC.seq (WC.region ?_)))
      refine W.any (.move rfl) rfl rfl rfl ?_
      refine W.any (.move rfl) rfl rfl rfl ?_
      refine W.any (.nilCheck rfl) rfl rfl rfl ?_
      refine W.any (.field0 fa71_3 rfl) rfl rfl rfl ?_
      have f72 := (f70.ch h20_7 (fun h => (show gp ≠ gp9_1 from by have := f24.lt; omega) (Option.some.inj h)))
      refine W.rd (.loadB (v := .int .i64 ((backF m.gone fee i))) na3 rfl f72 rfl) rfl rfl rfl ?_
      refine W.any (.nilCheck rfl) rfl rfl rfl ?_
      refine W.any (.field0 fa71_3 rfl) rfl rfl rfl ?_
      refine W.ef0 rfl rfl ?_
      refine Ef.store sz3 rfl rfl b20_7 (by first | decide | (simp; done)) (rfl) ?_
      intro w21_7 b21_7 h21_7
      have b21_7 : Blk w21_7 gp 71 #[.slice Am9_1 m.mine.length cm9_1, .slice Al9_1 m.l.length cl9_1, .slice Ah m.hs.length ch_, .int .i64 ((backF m.gone fee i))] := b21_7
      have L73 : ChP w w21_7 (fun k => k = gp ∨ rowOf Am cm = some k ∨ rowOf Al cl = some k ∨ rowOf Ah ch_ = some k) := L71.ch h21_7 (fun i hi _ => by cases hi; exact Or.inl rfl)
      refine W.nil (E.thenN (WC.seq (WC.region ?_)))
      refine W.any (.assign rfl) rfl rfl rfl ?_
      refine W.nil (E.thenN (WC.ret ?_))
      have hi2 : i = 2 := by omega
      subst hi2
      have hlm : (spO m.mine (m.l.getD q noSeat) d fee 2).length = m.mine.length := by rw [spO_len]
      have hll : (m.l.set q (addK (m.l.getD q noSeat) d 2)).length = m.l.length := by rw [List.length_set]
      have f74 := (((f1_7.ch h19_7 (fun q hq => by cases hq; exact (fun he => by have := (f1_7.row he).1; have := f24.lt; omega))).ch h20_7 (fun q hq => by cases hq; exact (fun he => by have := (f1_7.row he).1; have := f24.lt; omega))).ch h21_7 (fun q hq => by cases hq; exact (fun he => by have := (f1_7.row he).1; have := f24.lt; omega)))
      have f75 := (((f1_8.ch h19_7 (fun q hq => by cases hq; exact (fun he => by have := (f1_8.row he).1; have := f24.lt; omega))).ch h20_7 (fun q hq => by cases hq; exact (fun he => by have := (f1_8.row he).1; have := f24.lt; omega))).ch h21_7 (fun q hq => by cases hq; exact (fun he => by have := (f1_8.row he).1; have := f24.lt; omega)))
      have f76 := (((f1_3.ch h19_7 (fun q hq => by cases hq; exact hL.hpp)).ch h20_7 (fun q hq => by cases hq; exact hL.hpp)).ch h21_7 (fun q hq => by cases hq; exact hL.hpp))
      refine E.retG1 rfl rfl ?_
      have ho : (spliceL s ch d fee) = (⟨spO s.own (addK (m.l.getD q noSeat) d 2) d fee 2, updM ch (addK (m.l.getD q noSeat) d 2) s.ls, s.cs, s.lh, s.ck, backF s.lost fee 2⟩, 0) := by unfold spliceL; rw [if_neg (not_not_intro hok), hgs]; exact if_neg (by rintro (z | z); exact hno 0 (by omega) z; exact hno 1 (by omega) z)
      have hu := hR.seats.upd (z := noSeat) hG.keys hq1 (u := addK (m.l.getD q noSeat) d 2) (addK_ch _ _ _)
      rw [show (entS (addK (m.l.getD q noSeat) d 2)).1 = ch from (addK_ch _ _ _).trans hq2] at hu
      rw [ho]; refine ⟨L73, _, _, _, _, _, _, ⟨(spO m.mine (m.l.getD q noSeat) d fee 2), (m.l.set q (addK (m.l.getD q noSeat) d 2)), m.hs, backF m.gone fee 2⟩, rfl, ⟨(by have hq := b21_7; rw [← hlm, ← hll] at hq; exact hq), ((f74.mono (Nat.zero_le _)).cast hlm.symm rfl), ((f75.mono (Nat.zero_le _)).cast hll.symm rfl), f76, (fun he => by have := (f74.row he).1; have := f24.lt; omega), (fun he => by have := (f75.row he).1; have := f24.lt; omega), hL.hpp, p19_1, (Apart.symm (fun q h1 h2 => by have := (f27.row h1).2; have := (f74.row h2).1; omega)), (Apart.symm (fun q h1 h2 => by have := (f27.row h1).2; have := (f75.row h2).1; omega))⟩, ⟨by show (spO m.mine (m.l.getD q noSeat) d fee 2) = spO s.own (addK (m.l.getD q noSeat) d 2) d fee 2; rw [e1]; exact spO_cong (fun j => (addK_p _ _ _ _).symm) 2, by show backF m.gone fee 2 = _; rw [e2], hu, set_srt hR.srt (addK_ch _ _ _), hR.holds⟩, ?_⟩
      rintro g (q | q | q | q)
      ·exact .inl (.inl q)
      ·exact .inr ((f74.mono L19.size).row q).1
      ·exact .inr ((f75.mono L19.size).row q).1
      ·exact .inl (.inr (.inr (.inr q)))
end Go.Proofs.YtmgfgbplbemklaaGreat

namespace Go.Proofs.YtmgfgbplbemklaaGreat
open Go Go.Sx Go.Num Go.Gsp Go.Lsp
set_option maxRecDepth 20000
set_option linter.unusedSimpArgs false
set_option linter.unusedVariables false
theorem rtwice_ok {Aw : Option Addr} {nw cw : Nat} {l : List Int} (w : World) (hV : Vec w iv 1 Aw nw l) (hn : nw ≤ 1000) : Calls Tryz.prog 68 #[.slice Aw nw cw] w fun r w' => ∃ b : Bool, r = .returned (.bool b) ∧ (b = true ↔ ¬ l.Nodup) ∧ Le w w' := by
 have hnl := hV.1
 refine enter Tryz.func68 rfl rfl ?_
 have L0 := Le.refl w
 refine WC.seq (WC.region ?_)
 refine W.any (.assign rfl) rfl rfl rfl ?_
 refine W.nil (E.thenN (WC.seq (WC.seq (WC.region ?_))))
 refine W.any (.assign rfl) rfl rfl rfl ?_
 refine W.nil (E.thenN (WC.block ?_))
 refine WC.loop (ι := Nat) (fun k => [(0, .slice Aw nw cw), (3, .int .i64 (((k : Nat) : Int)))]) (fun k wl0 => (k ≤ nw) ∧ (∀ i, i < k → ∀ j, j < i → l.getD i 0 ≠ l.getD j 0) ∧ Le w wl0 ∧ w.heap.size ≤ wl0.heap.size) (fun k => nw - k) 0 ?_ ?_ ?_
 ·exact .cons rfl (.cons rfl (.nil _))
 ·exact ⟨Nat.zero_le _, fun i hi => by omega, L0, Nat.le_refl _⟩
 ·rintro k wl0 ⟨hk, hz, Ll0, zl0⟩
  refine WC.seq (WC.seq (WC.region ?_))
  refine W.any (.move rfl) rfl rfl rfl ?_
  refine W.any (.move rfl) rfl rfl rfl ?_
  refine W.rd (.len Tryz.underlying22 rfl) rfl rfl rfl ?_
  refine W.any (.lss rfl rfl) rfl rfl rfl ?_
  refine W.nil (E.thenN ?_)
  by_cases c0 : ((k : Nat) : Int) < ((nw : Nat) : Int)
  ·refine WC.condY rfl (decide_eq_true c0) ?_
   refine WC.skip (E.thenN (WC.seq (WC.block (WC.seq (WC.region ?_)))))
   refine W.any (.assign rfl) rfl rfl rfl ?_
   refine W.nil (E.thenN (WC.block ?_))
   refine WC.loop (ι := Nat) (fun j => [(0, .slice Aw nw cw), (3, .int .i64 (((k : Nat) : Int))), (4, .int .i64 (((j : Nat) : Int)))]) (fun j wl1 => (j ≤ k) ∧ (∀ i, i < j → l.getD k 0 ≠ l.getD i 0) ∧ Le w wl1 ∧ wl0.heap.size ≤ wl1.heap.size) (fun j => k - j) 0 ?_ ?_ ?_
   ·exact .cons rfl (.cons rfl (.cons rfl (.nil _)))
   ·exact ⟨Nat.zero_le _, fun i hi => by omega, Ll0, Nat.le_refl _⟩
   ·rintro j wl1 ⟨hj, hy, Ll1, zl1⟩
    refine WC.seq (WC.seq (WC.region ?_))
    refine W.any (.move rfl) rfl rfl rfl ?_
    refine W.any (.move rfl) rfl rfl rfl ?_
    refine W.any (.lss rfl rfl) rfl rfl rfl ?_
    refine W.nil (E.thenN ?_)
    by_cases c1 : ((j : Nat) : Int) < ((k : Nat) : Int)
    ·refine WC.condY rfl (decide_eq_true c1) ?_
     refine WC.skip (E.thenN (WC.seq (WC.block (WC.seq ?_))))
     refine WC.draw [0, 1, 2, 3, 4, 5, 6, 7, 8] mixed (by kernel_rfl) ?_
     intro w7 d7
     have L1 := Ll1.trans d7
     refine G.any rfl rfl (.move rfl) rfl rfl rfl ?_
     refine G.any rfl rfl (.move rfl) rfl rfl rfl ?_
     refine G.any rfl rfl (.idxS (k) Tryz.underlying22 sz3 rfl rfl (hV.isSome iv_row (by omega)) (rfl) (by omega)) rfl rfl rfl ?_
     refine G.rd rfl rfl (.vone (v := .int .i64 ((l.getD k 0))) na3 rfl (hV.le L1) iv_row (getS l 0 (by first | omega | (simp only [List.length_cons, List.length_nil]; omega))) rfl) rfl rfl rfl ?_
     refine G.any rfl rfl (.move rfl) rfl rfl rfl ?_
     refine G.any rfl rfl (.move rfl) rfl rfl rfl ?_
     refine G.any rfl rfl (.idxS (j) Tryz.underlying22 sz3 rfl rfl (hV.isSome iv_row (by omega)) (rfl) (by omega)) rfl rfl rfl ?_
     refine G.rd rfl rfl (.vone (v := .int .i64 ((l.getD j 0))) na3 rfl (hV.le L1) iv_row (getS l 0 (by first | omega | (simp only [List.length_cons, List.length_nil]; omega))) rfl) rfl rfl rfl ?_
     refine G.any rfl rfl (.eql rfl rfl) rfl rfl rfl ?_
     refine G.nil (E.thenN ?_)
     by_cases c2 : (l.getD k 0) = (l.getD j 0)
     ·refine WC.condY rfl (decide_eq_true c2) ?_
      refine WC.seq (WC.region ?_)
      refine W.any (.assign rfl) rfl rfl rfl ?_
      refine W.nil (E.thenN (WC.ret (E.blkR (E.thenR (E.thenR (E.blkR (E.blkR (E.thenR (E.thenR (E.blkR (E.thenR ?_)))))))))))
      refine E.retG1 rfl rfl ?_
      exact ⟨_, rfl, ⟨fun _ => nodup_not (k := k) (j := j) (by omega) (by omega) (by assumption), fun _ => rfl⟩, L1⟩
     ·refine WC.condN rfl (decide_eq_false c2) ?_
      refine WC.skip (E.blkN (E.thenN (WC.region ?_)))
      refine W.any (.move rfl) rfl rfl rfl ?_
      refine W.any (.add rfl rfl (by omega)) rfl rfl rfl ?_
      refine W.any (.assign rfl) rfl rfl rfl ?_
      refine W.nil ?_
      refine E.again (j + 1) (.cons rfl (.cons rfl (.cons rfl (.nil _)))) ?_ ?_
      ·exact ⟨by omega, fun i hi => (Nat.lt_succ_iff_lt_or_eq.1 hi).elim (hy i) (fun hh => by subst hh; assumption), L1, by have := zl1; have := d7.size; omega⟩
      ·first | omega | (simp only []; omega)
    ·refine WC.condN rfl (decide_eq_false c1) ?_
     refine WC.exit (E.thenX (E.thenX (E.blkH (E.blkN (E.thenN (WC.region ?_))))))
     refine W.any (.move rfl) rfl rfl rfl ?_
     refine W.any (.add rfl rfl (by omega)) rfl rfl rfl ?_
     refine W.any (.assign rfl) rfl rfl rfl ?_
     refine W.nil ?_
     refine E.again (k + 1) (.cons rfl (.cons rfl (.nil _))) ?_ ?_
     ·exact ⟨by omega, fun i hi => (Nat.lt_succ_iff_lt_or_eq.1 hi).elim (hz i) (fun hh => by subst hh; exact fun j hj => hy j (by omega)), Ll1, by have := zl0; have := zl1; omega⟩
     ·first | omega | (simp only []; omega)
  ·refine WC.condN rfl (decide_eq_false c0) ?_
   refine WC.exit (E.thenX (E.thenX (E.blkH (E.thenN (WC.seq (WC.region ?_))))))
   refine W.any (.assign rfl) rfl rfl rfl ?_
   refine W.nil (E.thenN (WC.ret ?_))
   refine E.retG1 rfl rfl ?_
   exact ⟨_, rfl, ⟨fun h => (by cases h), fun h => absurd (nodup_of (n := k) (by omega) hz) h⟩, Ll0⟩

theorem rcut_ok {gp cm cl ch_ : Nat} {Am Al Ah : Option Addr} {m : RLed} {s : Led} {Ao As Af : Option Addr} {no co ns cS nf cf : Nat} {old fee : List Int} {seats : List Seat} (w : World) (hL : RLL w gp Am cm Al cl Ah ch_ m) (hf : SmallR m) (hR : RelL s m) (hG : GoodL s) (ho : Vec w iv 1 Ao no old) (hs : Vec w seatV 5 As ns seats) (hfv : Vec w iv 1 Af nf fee) (hno : no ≤ 1000) (hns : ns ≤ 1000) (hnf : nf ≤ 1000) (hoa : ∀ q, blkOf Ao = some q → 0 < no → q < w.heap.size → ¬ RLF gp Am cm Al cl Ah ch_ q) (hsa0 : ∀ q, blkOf As = some q → 0 < ns → q < w.heap.size → ¬ RLF gp Am cm Al cl Ah ch_ q) (hfa : ∀ q, blkOf Af = some q → 0 < nf → q < w.heap.size → ¬ RLF gp Am cm Al cl Ah ch_ q) : Calls Tryz.prog 37 #[.pointer (some ⟨gp, 0, none⟩), .slice Ao no co, .slice As ns cS, .slice Af nf cf] w fun r w' => ChP w w' (fun k => k = gp ∨ rowOf Am cm = some k ∨ rowOf Al cl = some k ∨ rowOf Ah ch_ = some k) ∧ ∃ Am' cm' Al' cl' Ah' ch' m', r = .returned (.int .i64 (cutL s old seats fee).2) ∧ RLL w' gp Am' cm' Al' cl' Ah' ch' m' ∧ RelL (cutL s old seats fee).1 m' ∧ ∀ g, RLF gp Am' cm' Al' cl' Ah' ch' g → RLF gp Am cm Al cl Ah ch_ g ∨ w.heap.size ≤ g := by
 have hp0 := hL.hp; have hM0 := hL.hM; have hS0 := hL.hS; have hH0 := hL.hH
 have hfl := hf.few
 have e1 := hR.mine; have e2 := hR.gone
 have hgl := hG.len; have e3l : m.mine.length = s.own.length := by rw [e1]
 have hon := ho.1; have hsn := hs.1; have hfn := hfv.1
 have e3 : m.mine.length = s.own.length := by rw [e1]
 refine enter Tryz.func37 rfl rfl ?_
 have L0 := ChP.refl w (fun k => k = gp ∨ rowOf Am cm = some k ∨ rowOf Al cl = some k ∨ rowOf Ah ch_ = some k)
 refine WC.seq (WC.region ?_)
 refine W.any (.assign rfl) rfl rfl rfl ?_
 refine W.nil (E.thenN (WC.seq (WC.seq (WC.region ?_))))
 refine W.any (.move rfl) rfl rfl rfl ?_
 refine W.ef rfl rfl rfl ?_
 refine Ef.call go68 rfl rfl (rtwice_ok w (ho.chP L0 hoa) (by omega)) ?_
 rintro _ w1_1 ⟨bt1_1, rfl, hbt1_1, h1_1⟩
 refine ⟨_, rfl, ?_⟩
 have L1 := L0.le h1_1
 by_cases q1_2 : bt1_1 = true
 ·refine W.any (.dec (.move rfl) (q1_2)) rfl rfl rfl ?_
  refine W.skip rfl rfl rfl (rfl) rfl rfl ?_
  refine W.skip rfl rfl rfl (rfl) rfl rfl ?_
  refine W.skip rfl rfl rfl (rfl) rfl rfl ?_
  refine W.any (.pickT rfl rfl rfl) rfl rfl rfl ?_
  refine W.any (.move rfl) rfl rfl rfl ?_
  refine W.skip rfl rfl rfl (rfl) rfl rfl ?_
  refine W.skip rfl rfl rfl (rfl) rfl rfl ?_
  refine W.skip rfl rfl rfl (rfl) rfl rfl ?_
  refine W.skip rfl rfl rfl (rfl) rfl rfl ?_
  refine W.skip rfl rfl rfl (rfl) rfl rfl ?_
  refine W.skip rfl rfl rfl (rfl) rfl rfl ?_
  refine W.skip rfl rfl rfl (rfl) rfl rfl ?_
  refine W.skip rfl rfl rfl (rfl) rfl rfl ?_
  refine W.any (.pickT rfl rfl rfl) rfl rfl rfl ?_
  refine W.nil (E.thenN ?_)
  refine WC.condT rfl ?_
  refine WC.seq (WC.region ?_)
  refine W.any (.assign rfl) rfl rfl rfl ?_
  refine W.nil (E.thenN (WC.ret (E.thenR ?_)))
  have f2 := (hp0.le h1_1)
  have f3 := (hM0.le h1_1)
  have f4 := (hS0.le h1_1)
  have f5 := (hH0.le h1_1)
  refine E.retG1 rfl rfl ?_
  have ho : (cutL s old seats fee) = (s, 1) := cutL_no (cutC_1 (by rw [← e3]; intro hz; have z1 := hz.1; have z2 := hz.2; first | (exact absurd z1.1 (hbt1_1.1 (by assumption))) | omega | (exact absurd hz (may_fail (k := k) (by omega) (fun hm => by have := hbm7_5.2 hm; simp_all))) | (exact absurd hz (coin_fail (k := k1) (by omega) (by assumption))) | (exact absurd z2.1.1 (by have h5 := hbt15_1.1 (by assumption); rw [List.take_of_length_le (by omega)] at h5; exact h5)))) (by decide)
  rw [ho]; exact ⟨L1, _, _, _, _, _, _, m, rfl, ⟨f2, f3, f4, f5, hL.mp, hL.lp, hL.hpp, hL.ml, hL.mh, hL.lh⟩, hR, fun g hg => .inl hg⟩
 ·refine W.any (.dec (.move rfl) ((Bool.eq_false_iff.2 q1_2))) rfl rfl rfl ?_
  refine W.rdg (Any.rd (.move rfl) _) rfl rfl rfl (rfl) rfl rfl ?_
  refine W.rdg (.len Tryz.underlying68 rfl) rfl rfl rfl (rfl) rfl rfl ?_
  refine W.rdg (Any.rd (.gtr rfl rfl) _) rfl rfl rfl (rfl) rfl rfl ?_
  refine W.any (.pickF rfl rfl rfl) rfl rfl rfl ?_
  by_cases q1_7 : 40 < ((ns : Nat) : Int)
  ·refine W.any (.dec (.move rfl) (decide_eq_true q1_7)) rfl rfl rfl ?_
   refine W.skip rfl rfl rfl (rfl) rfl rfl ?_
   refine W.skip rfl rfl rfl (rfl) rfl rfl ?_
   refine W.skip rfl rfl rfl (rfl) rfl rfl ?_
   refine W.skip rfl rfl rfl (rfl) rfl rfl ?_
   refine W.skip rfl rfl rfl (rfl) rfl rfl ?_
   refine W.skip rfl rfl rfl (rfl) rfl rfl ?_
   refine W.skip rfl rfl rfl (rfl) rfl rfl ?_
   refine W.skip rfl rfl rfl (rfl) rfl rfl ?_
   refine W.any (.pickT rfl rfl rfl) rfl rfl rfl ?_
   refine W.nil (E.thenN ?_)
   refine WC.condT rfl ?_
   refine WC.seq (WC.region ?_)
   refine W.any (.assign rfl) rfl rfl rfl ?_
   refine W.nil (E.thenN (WC.ret (E.thenR ?_)))
   have f6 := (hp0.le h1_1)
   have f7 := (hM0.le h1_1)
   have f8 := (hS0.le h1_1)
   have f9 := (hH0.le h1_1)
   refine E.retG1 rfl rfl ?_
   have ho : (cutL s old seats fee) = (s, 1) := cutL_no (cutC_1 (by rw [← e3]; intro hz; have z1 := hz.1; have z2 := hz.2; first | (exact absurd z1.1 (hbt1_1.1 (by assumption))) | omega | (exact absurd hz (may_fail (k := k) (by omega) (fun hm => by have := hbm7_5.2 hm; simp_all))) | (exact absurd hz (coin_fail (k := k1) (by omega) (by assumption))) | (exact absurd z2.1.1 (by have h5 := hbt15_1.1 (by assumption); rw [List.take_of_length_le (by omega)] at h5; exact h5)))) (by decide)
   rw [ho]; exact ⟨L1, _, _, _, _, _, _, m, rfl, ⟨f6, f7, f8, f9, hL.mp, hL.lp, hL.hpp, hL.ml, hL.mh, hL.lh⟩, hR, fun g hg => .inl hg⟩
  ·refine W.any (.dec (.move rfl) (decide_eq_false q1_7)) rfl rfl rfl ?_
   refine W.rdg (Any.rd (.move rfl) _) rfl rfl rfl (rfl) rfl rfl ?_
   refine W.rdg (.len Tryz.underlying22 rfl) rfl rfl rfl (rfl) rfl rfl ?_
   refine W.rdg (Any.rd (.move rfl) _) rfl rfl rfl (rfl) rfl rfl ?_
   refine W.rdg (Any.rd (.nilCheck rfl) _) rfl rfl rfl (rfl) rfl rfl ?_
   refine W.rdg (Any.rd (.field0 fa71_0 rfl) _) rfl rfl rfl (rfl) rfl rfl ?_
   have f10 := (hp0.le h1_1)
   refine W.rdg (.loadB (v := .slice Am m.mine.length cm) na22 rfl f10 rfl) rfl rfl rfl (rfl) rfl rfl ?_
   refine W.rdg (.len Tryz.underlying22 rfl) rfl rfl rfl (rfl) rfl rfl ?_
   refine W.rdg (Any.rd (.neq rfl rfl) _) rfl rfl rfl (rfl) rfl rfl ?_
   refine W.any (.pickF rfl rfl rfl) rfl rfl rfl ?_
   refine W.nil (E.thenN ?_)
   by_cases c0 : ((nf : Nat) : Int) ≠ ((m.mine.length : Nat) : Int)
   ·refine WC.condY rfl (decide_eq_true c0) ?_
    refine WC.seq (WC.region ?_)
    refine W.any (.assign rfl) rfl rfl rfl ?_
    refine W.nil (E.thenN (WC.ret (E.thenR ?_)))
    have f11 := (hM0.le h1_1)
    have f12 := (hS0.le h1_1)
    have f13 := (hH0.le h1_1)
    refine E.retG1 rfl rfl ?_
    have ho : (cutL s old seats fee) = (s, 1) := cutL_no (cutC_1 (by rw [← e3]; intro hz; have z1 := hz.1; have z2 := hz.2; first | (exact absurd z1.1 (hbt1_1.1 (by assumption))) | omega | (exact absurd hz (may_fail (k := k) (by omega) (fun hm => by have := hbm7_5.2 hm; simp_all))) | (exact absurd hz (coin_fail (k := k1) (by omega) (by assumption))) | (exact absurd z2.1.1 (by have h5 := hbt15_1.1 (by assumption); rw [List.take_of_length_le (by omega)] at h5; exact h5)))) (by decide)
    rw [ho]; exact ⟨L1, _, _, _, _, _, _, m, rfl, ⟨f10, f11, f12, f13, hL.mp, hL.lp, hL.hpp, hL.ml, hL.mh, hL.lh⟩, hR, fun g hg => .inl hg⟩
   ·refine WC.condN rfl (decide_eq_false c0) ?_
    have hB : old.Nodup ∧ seats.length ≤ 40 ∧ fee.length = m.mine.length := ⟨Decidable.byContradiction (fun hz => by have := hbt1_1.2 hz; simp_all), by omega, by omega⟩
    refine WC.skip (E.thenN (WC.seq (WC.region ?_)))
    refine W.any (.assign rfl) rfl rfl rfl ?_
    refine W.nil (E.thenN (WC.seq (WC.seq (WC.region ?_))))
    refine W.any (.assign rfl) rfl rfl rfl ?_
    refine W.nil (E.thenN (WC.block ?_))
    have f14 := (hM0.le h1_1)
    have f15 := (hS0.le h1_1)
    have f16 := (hH0.le h1_1)
    refine WC.loop (ι := Nat × ((Option Addr)) × Nat) (fun ⟨k, An, cn⟩ => [(0, .pointer (some ⟨gp, 0, none⟩)), (1, .slice Ao no co), (2, .slice As ns cS), (3, .slice Af nf cf), (9, .slice An k cn), (10, .int .i64 (((k : Nat) : Int)))]) (fun ⟨k, An, cn⟩ wl0 => (k ≤ ns) ∧ (∀ i, i < k → mayL m.mine.length (seats.getD i noSeat)) ∧ ChP w wl0 (fun k => k = gp ∨ rowOf Am cm = some k ∨ rowOf Al cl = some k ∨ rowOf Ah ch_ = some k) ∧ w1_1.heap.size ≤ wl0.heap.size ∧ Blk wl0 gp 71 #[.slice Am m.mine.length cm, .slice Al m.l.length cl, .slice Ah m.hs.length ch_, .int .i64 (m.gone)] ∧ OVec wl0 0 3 iv 1 Am m.mine.length cm m.mine ∧ OVec wl0 0 73 seatV 5 Al m.l.length cl m.l ∧ OVec wl0 0 103 rholdV 5 Ah m.hs.length ch_ m.hs ∧ OVec wl0 w1_1.heap.size 3 iv 1 An k cn (chans (seats.take k))) (fun ⟨k, An, cn⟩ => ns - k) (0, none, 0) ?_ ?_ ?_
    ·exact .cons rfl (.cons rfl (.cons rfl (.cons rfl (.cons rfl (.cons rfl (.nil _))))))
    ·exact ⟨Nat.zero_le _, fun i hi => by omega, L1, Nat.le_refl _, f10, f14, f15, f16, (OVec.nil w1_1 w1_1.heap.size 3 iv 1 none)⟩
    ·rintro ⟨k, An, cn⟩ wl0 ⟨hk, hmy, Ll0, zl0, f0_0, f0_1, f0_2, f0_3, f0_4⟩
     have lb0_8 : w1_1.heap.size ≤ wl0.heap.size := by omega
     refine WC.seq (WC.seq (WC.region ?_))
     refine W.any (.move rfl) rfl rfl rfl ?_
     refine W.any (.move rfl) rfl rfl rfl ?_
     refine W.rd (.len Tryz.underlying68 rfl) rfl rfl rfl ?_
     refine W.any (.lss rfl rfl) rfl rfl rfl ?_
     refine W.nil (E.thenN ?_)
     by_cases c1 : ((k : Nat) : Int) < ((ns : Nat) : Int)
     ·refine WC.condY rfl (decide_eq_true c1) ?_
      refine WC.skip (E.thenN (WC.seq (WC.block (WC.seq (WC.seq (WC.region ?_))))))
      refine W.any (.move rfl) rfl rfl rfl ?_
      refine W.any (.move rfl) rfl rfl rfl ?_
      refine W.any (.move rfl) rfl rfl rfl ?_
      refine W.any (.idxS (k) Tryz.underlying68 sz73 rfl rfl (hs.isSome seatV_row (by omega)) (rfl) (by omega)) rfl rfl rfl ?_
      refine W.rd (.vload ag73 rfl (hs.chP Ll0 hsa0) seatV_row (getS seats noSeat (by first | omega | (simp only [List.length_cons, List.length_nil]; omega)))) rfl rfl rfl ?_
      refine W.ef rfl rfl rfl ?_
      refine Ef.call go58 rfl rfl (rmay_ok (seats.getD k noSeat) wl0 ⟨f0_0, f0_1, f0_2, f0_3, hL.mp, hL.lp, hL.hpp, hL.ml, hL.mh, hL.lh⟩ hf) ?_
      rintro _ w7_5 ⟨bm7_5, rfl, hbm7_5, h7_5⟩
      refine ⟨_, rfl, ?_⟩
      have L17 := Ll0.le h7_5
      refine W.any (.not rfl) rfl rfl rfl ?_
      refine W.nil (E.thenN ?_)
      by_cases c2 : bm7_5 = true
      ·refine WC.condN rfl (congrArg not (c2)) ?_
       refine WC.skip (E.thenN (WC.region ?_))
       refine W.any (.move rfl) rfl rfl rfl ?_
       refine W.any (.move rfl) rfl rfl rfl ?_
       refine W.any (.move rfl) rfl rfl rfl ?_
       refine W.any (.idxS (k) Tryz.underlying68 sz73 rfl rfl (hs.isSome seatV_row (by omega)) (rfl) (by omega)) rfl rfl rfl ?_
       refine W.any (.vfield fa73_0 (hs.isSome seatV_row (by omega)) rfl) rfl rfl rfl ?_
       refine W.rd (.vcell (j := k) (o := 0) (v := .int .i64 ((seats.getD k noSeat).ch)) na3 rfl (hs.chP L17 hsa0) seatV_row (getS seats noSeat (by first | omega | (simp only [List.length_cons, List.length_nil]; omega))) rfl) rfl rfl rfl ?_
       refine W.ef rfl rfl rfl ?_
       refine Ef.buildSliceV (len := 1) [_] Tryz.underlying22 el3 rfl (by simp [Value.cells]) rfl (by decide) (by decide) ?_
       intro g9_6 w9_6 hg9_6 b9_6 h9_6
       have L18 := L17.le h9_6
       have b9_6 : Blk w9_6 g9_6 3 (([(seats.getD k noSeat).ch]).map iv).flatten.toArray := b9_6
       have o9_6 : OVec w9_6 w7_5.heap.size 3 iv 1 (some ⟨g9_6, 0, none⟩) 1 1 ([(seats.getD k noSeat).ch]) := b9_6.ovec hg9_6 iv_row rfl rfl (by decide)
       have f19 := (f0_4.le (h7_5.trans h9_6))
       refine W.ef rfl rfl rfl ?_
       refine Ef.vpush (a := ((seats.getD k noSeat).ch)) Tryz.underlying22 el3 Tryz.underlying22 iv_row rfl f19 rfl b9_6 (by omega) (by unfold maxLen; omega) (by have := lb0_8; have := h7_5.size; have := h9_6.size; omega) ?_
       intro A9_7 c9_7 w9_7 o9_7 h9_7 at9_7
       have L20 : ChP w w9_7 (fun k => k = gp ∨ rowOf Am cm = some k ∨ rowOf Al cl = some k ∨ rowOf Ah ch_ = some k) := L18.ch h9_7 (fun i hi hlt => absurd hlt (by have := (f19.row hi).1; have := L1.size; omega))
       refine W.any (.assign rfl) rfl rfl rfl ?_
       refine W.nil (E.blkN (E.thenN (WC.region ?_)))
       refine W.any (.move rfl) rfl rfl rfl ?_
       refine W.any (.add rfl rfl (by omega)) rfl rfl rfl ?_
       refine W.any (.assign rfl) rfl rfl rfl ?_
       refine W.nil ?_
       have f21 := ((f0_0.le (h7_5.trans h9_6)).ch h9_7 (fun he => by have := (f19.row he).1; have := f10.lt; omega))
       have f22 := ((f0_1.le (h7_5.trans h9_6)).ch h9_7 ((Apart.symm (fun q h1 h2 => by have := (f14.row h1).2; have := (f19.row h2).1; omega))))
       have f23 := ((f0_2.le (h7_5.trans h9_6)).ch h9_7 ((Apart.symm (fun q h1 h2 => by have := (f15.row h1).2; have := (f19.row h2).1; omega))))
       have f24 := ((f0_3.le (h7_5.trans h9_6)).ch h9_7 ((Apart.symm (fun q h1 h2 => by have := (f16.row h1).2; have := (f19.row h2).1; omega))))
       refine E.again (k + 1, A9_7, c9_7) (.cons rfl (.cons rfl (.cons rfl (.cons rfl (.cons rfl (.cons rfl (.nil _))))))) ?_ ?_
       ·exact ⟨by omega, fun i hi => (Nat.lt_succ_iff_lt_or_eq.1 hi).elim (hmy i) (fun hh => by subst hh; exact hbm7_5.1 (by simp_all)), L20, by have := zl0; have := h7_5.size; have := h9_6.size; have := h9_7.size; omega, f21, f22, f23, f24, (o9_7.cast rfl (by rw [chans_next (by omega)]))⟩
       ·first | omega | (simp only []; omega)
      ·refine WC.condY rfl (congrArg not ((Bool.eq_false_iff.2 c2))) ?_
       refine WC.seq (WC.region ?_)
       refine W.any (.assign rfl) rfl rfl rfl ?_
       refine W.nil (E.thenN (WC.ret (E.thenR (E.blkR (E.thenR (E.thenR (E.blkR (E.thenR ?_))))))))
       have f25 := (f0_0.le h7_5)
       have f26 := (f0_1.le h7_5)
       have f27 := (f0_2.le h7_5)
       have f28 := (f0_3.le h7_5)
       refine E.retG1 rfl rfl ?_
       have ho : (cutL s old seats fee) = (s, 1) := cutL_no (cutC_1 (by rw [← e3]; intro hz; have z1 := hz.1; have z2 := hz.2; first | (exact absurd z1.1 (hbt1_1.1 (by assumption))) | omega | (exact absurd hz (may_fail (k := k) (by omega) (fun hm => by have := hbm7_5.2 hm; simp_all))) | (exact absurd hz (coin_fail (k := k1) (by omega) (by assumption))) | (exact absurd z2.1.1 (by have h5 := hbt15_1.1 (by assumption); rw [List.take_of_length_le (by omega)] at h5; exact h5)))) (by decide)
       rw [ho]; exact ⟨L17, _, _, _, _, _, _, m, rfl, ⟨f25, f26, f27, f28, hL.mp, hL.lp, hL.hpp, hL.ml, hL.mh, hL.lh⟩, hR, fun g hg => .inl hg⟩
     ·refine WC.condN rfl (decide_eq_false c1) ?_
      refine WC.exit (E.thenX (E.thenX (E.blkH (E.thenN (WC.seq (WC.seq (WC.region ?_)))))))
      refine W.any (.assign rfl) rfl rfl rfl ?_
      refine W.nil (E.thenN (WC.block ?_))
      refine WC.loop (ι := Nat) (fun k1 => [(0, .pointer (some ⟨gp, 0, none⟩)), (1, .slice Ao no co), (2, .slice As ns cS), (3, .slice Af nf cf), (9, .slice An k cn), (11, .int .i64 (((k1 : Nat) : Int)))]) (fun k1 wl1 => (k1 ≤ nf) ∧ (∀ i, i < k1 → coinL (fee.getD i 0) = true) ∧ ChP w wl1 (fun k => k = gp ∨ rowOf Am cm = some k ∨ rowOf Al cl = some k ∨ rowOf Ah ch_ = some k) ∧ wl0.heap.size ≤ wl1.heap.size ∧ Blk wl1 gp 71 #[.slice Am m.mine.length cm, .slice Al m.l.length cl, .slice Ah m.hs.length ch_, .int .i64 (m.gone)] ∧ OVec wl1 0 3 iv 1 Am m.mine.length cm m.mine ∧ OVec wl1 0 73 seatV 5 Al m.l.length cl m.l ∧ OVec wl1 0 103 rholdV 5 Ah m.hs.length ch_ m.hs ∧ OVec wl1 w1_1.heap.size 3 iv 1 An k cn (chans (seats.take k))) (fun k1 => nf - k1) 0 ?_ ?_ ?_
      ·exact .cons rfl (.cons rfl (.cons rfl (.cons rfl (.cons rfl (.cons rfl (.nil _))))))
      ·exact ⟨Nat.zero_le _, fun i hi => by omega, Ll0, Nat.le_refl _, f0_0, f0_1, f0_2, f0_3, f0_4⟩
      ·rintro k1 wl1 ⟨hk1, hco, Ll1, zl1, f1_0, f1_1, f1_2, f1_3, f1_4⟩
       have lb1_8 : w1_1.heap.size ≤ wl1.heap.size := Nat.le_trans lb0_8 (by omega)
       refine WC.seq (WC.seq (WC.region ?_))
       refine W.any (.move rfl) rfl rfl rfl ?_
       refine W.any (.move rfl) rfl rfl rfl ?_
       refine W.rd (.len Tryz.underlying22 rfl) rfl rfl rfl ?_
       refine W.any (.lss rfl rfl) rfl rfl rfl ?_
       refine W.nil (E.thenN ?_)
       by_cases c3 : ((k1 : Nat) : Int) < ((nf : Nat) : Int)
       ·refine WC.condY rfl (decide_eq_true c3) ?_
        refine WC.skip (E.thenN (WC.seq (WC.block (WC.seq (WC.region ?_)))))
        refine W.any (.move rfl) rfl rfl rfl ?_
        refine W.any (.move rfl) rfl rfl rfl ?_
        refine W.any (.idxS (k1) Tryz.underlying22 sz3 rfl rfl (hfv.isSome iv_row (by omega)) (rfl) (by omega)) rfl rfl rfl ?_
        refine W.rd (.vone (v := .int .i64 ((fee.getD k1 0))) na3 rfl (hfv.chP Ll1 hfa) iv_row (getS fee 0 (by first | omega | (simp only [List.length_cons, List.length_nil]; omega))) rfl) rfl rfl rfl ?_
        refine W.ef rfl rfl rfl ?_
        refine Ef.call go28 rfl rfl (rcoin_ok (fee.getD k1 0) wl1) ?_
        rintro _ w13_4 ⟨rfl, h13_4⟩
        refine ⟨_, rfl, ?_⟩
        have L29 := Ll1.le h13_4
        refine W.any (.not rfl) rfl rfl rfl ?_
        refine W.nil (E.thenN ?_)
        by_cases c4 : (coinL (fee.getD k1 0)) = true
        ·refine WC.condN rfl (congrArg not (c4)) ?_
         refine WC.skip (E.blkN (E.thenN (WC.region ?_)))
         refine W.any (.move rfl) rfl rfl rfl ?_
         refine W.any (.add rfl rfl (by omega)) rfl rfl rfl ?_
         refine W.any (.assign rfl) rfl rfl rfl ?_
         refine W.nil ?_
         have f30 := (f1_0.le h13_4)
         have f31 := (f1_1.le h13_4)
         have f32 := (f1_2.le h13_4)
         have f33 := (f1_3.le h13_4)
         have f34 := (f1_4.le h13_4)
         refine E.again (k1 + 1) (.cons rfl (.cons rfl (.cons rfl (.cons rfl (.cons rfl (.cons rfl (.nil _))))))) ?_ ?_
         ·exact ⟨by omega, fun i hi => (Nat.lt_succ_iff_lt_or_eq.1 hi).elim (hco i) (fun hh => by subst hh; simp_all), L29, by have := zl1; have := h13_4.size; omega, f30, f31, f32, f33, f34⟩
         ·first | omega | (simp only []; omega)
        ·refine WC.condY rfl (congrArg not ((Bool.eq_false_iff.2 c4))) ?_
         refine WC.seq (WC.region ?_)
         refine W.any (.assign rfl) rfl rfl rfl ?_
         refine W.nil (E.thenN (WC.ret (E.blkR (E.thenR (E.thenR (E.blkR (E.thenR ?_)))))))
         have f35 := (f1_0.le h13_4)
         have f36 := (f1_1.le h13_4)
         have f37 := (f1_2.le h13_4)
         have f38 := (f1_3.le h13_4)
         refine E.retG1 rfl rfl ?_
         have ho : (cutL s old seats fee) = (s, 1) := cutL_no (cutC_1 (by rw [← e3]; intro hz; have z1 := hz.1; have z2 := hz.2; first | (exact absurd z1.1 (hbt1_1.1 (by assumption))) | omega | (exact absurd hz (may_fail (k := k) (by omega) (fun hm => by have := hbm7_5.2 hm; simp_all))) | (exact absurd hz (coin_fail (k := k1) (by omega) (by assumption))) | (exact absurd z2.1.1 (by have h5 := hbt15_1.1 (by assumption); rw [List.take_of_length_le (by omega)] at h5; exact h5)))) (by decide)
         rw [ho]; exact ⟨L29, _, _, _, _, _, _, m, rfl, ⟨f35, f36, f37, f38, hL.mp, hL.lp, hL.hpp, hL.ml, hL.mh, hL.lh⟩, hR, fun g hg => .inl hg⟩
       ·refine WC.condN rfl (decide_eq_false c3) ?_
        refine WC.exit (E.thenX (E.thenX (E.blkH (E.thenN (WC.seq (WC.seq (WC.region ?_)))))))
        refine W.any (.move rfl) rfl rfl rfl ?_
        refine W.ef rfl rfl rfl ?_
        refine Ef.call go68 rfl rfl (rtwice_ok wl1 f1_4.vec (by omega)) ?_
        rintro _ w15_1 ⟨bt15_1, rfl, hbt15_1, h15_1⟩
        refine ⟨_, rfl, ?_⟩
        have L39 := Ll1.le h15_1
        refine W.nil (E.thenN ?_)
        by_cases c5 : bt15_1 = true
        ·refine WC.condY rfl (c5) ?_
         refine WC.seq (WC.region ?_)
         refine W.any (.assign rfl) rfl rfl rfl ?_
         refine W.nil (E.thenN (WC.ret (E.thenR ?_)))
         have f40 := (f1_0.le h15_1)
         have f41 := (f1_1.le h15_1)
         have f42 := (f1_2.le h15_1)
         have f43 := (f1_3.le h15_1)
         refine E.retG1 rfl rfl ?_
         have ho : (cutL s old seats fee) = (s, 1) := cutL_no (cutC_1 (by rw [← e3]; intro hz; have z1 := hz.1; have z2 := hz.2; first | (exact absurd z1.1 (hbt1_1.1 (by assumption))) | omega | (exact absurd hz (may_fail (k := k) (by omega) (fun hm => by have := hbm7_5.2 hm; simp_all))) | (exact absurd hz (coin_fail (k := k1) (by omega) (by assumption))) | (exact absurd z2.1.1 (by have h5 := hbt15_1.1 (by assumption); rw [List.take_of_length_le (by omega)] at h5; exact h5)))) (by decide)
         rw [ho]; exact ⟨L39, _, _, _, _, _, _, m, rfl, ⟨f40, f41, f42, f43, hL.mp, hL.lp, hL.hpp, hL.ml, hL.mh, hL.lh⟩, hR, fun g hg => .inl hg⟩
        ·refine WC.condN rfl ((Bool.eq_false_iff.2 c5)) ?_
         have hok : cutOk s.own.length old seats fee := by rw [← e3]; refine ⟨hB, ⟨Decidable.byContradiction (fun hz => ?_), all_getD (z := noSeat) (n := k) (by omega) hmy⟩, all_getD (z := 0) (n := k1) (by omega) hco⟩; have h5 := hbt15_1.2 (by rw [List.take_of_length_le (by omega)]; exact hz); simp_all
         refine WC.skip (E.thenN (WC.seq (WC.region ?_)))
         refine W.any (.move rfl) rfl rfl rfl ?_
         have f44 := (f1_0.le h15_1)
         have f45 := (f1_1.le h15_1)
         have f46 := (f1_2.le h15_1)
         have f47 := (f1_3.le h15_1)
         refine W.ef rfl rfl rfl ?_
         refine Ef.call go67 rfl rfl (rcopy_ok w15_1 ⟨f44, f45, f46, f47, hL.mp, hL.lp, hL.hpp, hL.ml, hL.mh, hL.lh⟩ hf) ?_
         rintro _ w17_1 ⟨gp17_1, Am17_1, cm17_1, Al17_1, cl17_1, Ah17_1, ch17_1, rfl, hg17_1, bp17_1, om17_1, os17_1, oh17_1, ⟨n117_1, n217_1, n317_1⟩, ⟨p117_1, p217_1, p317_1⟩, h17_1⟩
         refine ⟨_, rfl, ?_⟩
         have L48 := L39.le h17_1
         refine W.any (.assign rfl) rfl rfl rfl ?_
         refine W.nil (E.thenN (WC.seq (WC.seq (WC.region ?_))))
         refine W.any (.assign rfl) rfl rfl rfl ?_
         refine W.nil (E.thenN (WC.block ?_))
         have f49 := (f44.le h17_1)
         have f50 := (f45.le h17_1)
         have f51 := (f46.le h17_1)
         have f52 := (f47.le h17_1)
         refine WC.loop (ι := Nat) (fun k2 => [(0, .pointer (some ⟨gp, 0, none⟩)), (1, .slice Ao no co), (2, .slice As ns cS), (3, .slice Af nf cf), (12, .pointer (some ⟨gp17_1, 0, none⟩)), (13, .int .i64 (((k2 : Nat) : Int)))]) (fun k2 wl2 => (k2 ≤ no) ∧ (∀ i, i < k2 → ∃ t, getG (old.getD i 0) s.ls = some t) ∧ ChP w wl2 (fun k => k = gp ∨ rowOf Am cm = some k ∨ rowOf Al cl = some k ∨ rowOf Ah ch_ = some k) ∧ w17_1.heap.size ≤ wl2.heap.size ∧ Blk wl2 gp 71 #[.slice Am m.mine.length cm, .slice Al m.l.length cl, .slice Ah m.hs.length ch_, .int .i64 (m.gone)] ∧ OVec wl2 0 3 iv 1 Am m.mine.length cm m.mine ∧ OVec wl2 0 73 seatV 5 Al m.l.length cl m.l ∧ OVec wl2 0 103 rholdV 5 Ah m.hs.length ch_ m.hs ∧ Blk wl2 gp17_1 71 #[.slice Am17_1 m.mine.length cm17_1, .slice Al17_1 m.l.length cl17_1, .slice Ah17_1 m.hs.length ch17_1, .int .i64 (m.gone)] ∧ OVec wl2 w15_1.heap.size 3 iv 1 Am17_1 m.mine.length cm17_1 m.mine ∧ OVec wl2 w15_1.heap.size 73 seatV 5 Al17_1 m.l.length cl17_1 m.l ∧ OVec wl2 w15_1.heap.size 103 rholdV 5 Ah17_1 m.hs.length ch17_1 m.hs) (fun k2 => no - k2) 0 ?_ ?_ ?_
         ·exact .cons rfl (.cons rfl (.cons rfl (.cons rfl (.cons rfl (.cons rfl (.nil _))))))
         ·exact ⟨Nat.zero_le _, fun i hi => by omega, L48, Nat.le_refl _, f49, f50, f51, f52, bp17_1, om17_1, os17_1, oh17_1⟩
         ·rintro k2 wl2 ⟨hk2, hth, Ll2, zl2, f2_0, f2_1, f2_2, f2_3, f2_4, f2_5, f2_6, f2_7⟩
          have lb2_11 : w15_1.heap.size ≤ wl2.heap.size := by have := h17_1.size; omega
          have lb2_12 : w15_1.heap.size ≤ wl2.heap.size := by have := h17_1.size; omega
          have lb2_13 : w15_1.heap.size ≤ wl2.heap.size := by have := h17_1.size; omega
          refine WC.seq (WC.seq (WC.region ?_))
          refine W.any (.move rfl) rfl rfl rfl ?_
          refine W.any (.move rfl) rfl rfl rfl ?_
          refine W.rd (.len Tryz.underlying22 rfl) rfl rfl rfl ?_
          refine W.any (.lss rfl rfl) rfl rfl rfl ?_
          refine W.nil (E.thenN ?_)
          by_cases c6 : ((k2 : Nat) : Int) < ((no : Nat) : Int)
          ·refine WC.condY rfl (decide_eq_true c6) ?_
           refine WC.skip (E.thenN (WC.seq (WC.block (WC.seq (WC.region ?_)))))
           refine W.any (.move rfl) rfl rfl rfl ?_
           refine W.any (.move rfl) rfl rfl rfl ?_
           refine W.any (.move rfl) rfl rfl rfl ?_
           refine W.any (.idxS (k2) Tryz.underlying22 sz3 rfl rfl (ho.isSome iv_row (by omega)) (rfl) (by omega)) rfl rfl rfl ?_
           refine W.rd (.vone (v := .int .i64 ((old.getD k2 0))) na3 rfl (ho.chP Ll2 hoa) iv_row (getS old 0 (by first | omega | (simp only [List.length_cons, List.length_nil]; omega))) rfl) rfl rfl rfl ?_
           refine W.ef rfl rfl rfl ?_
           refine Ef.call go59 rfl rfl (rat3_ok (old.getD k2 0) wl2 f2_0 f2_2.vec (by omega)) ?_
           rintro _ w21_5 ⟨v21_5, rfl, hat21_5, h21_5⟩
           refine ⟨_, rfl, ?_⟩
           have L53 := Ll2.le h21_5
           refine W.any (.lss rfl rfl) rfl rfl rfl ?_
           refine W.nil (E.thenN ?_)
           by_cases c7 : v21_5 < 0
           ·refine WC.condY rfl (decide_eq_true c7) ?_
            refine WC.seq (WC.region ?_)
            refine W.any (.assign rfl) rfl rfl rfl ?_
            refine W.nil (E.thenN (WC.ret (E.blkR (E.thenR (E.thenR (E.blkR (E.thenR ?_)))))))
            have f54 := (f2_0.le h21_5)
            have f55 := (f2_1.le h21_5)
            have f56 := (f2_2.le h21_5)
            have f57 := (f2_3.le h21_5)
            refine E.retG1 rfl rfl ?_
            have ho : (cutL s old seats fee) = (s, 5) := cutL_no (cutC_5 hok (k := k2) (by omega) (by rcases hat21_5 with ⟨_, z⟩ | ⟨q, z, z1, z2⟩; exact hR.at_none z; omega)) (by decide)
            rw [ho]; exact ⟨L53, _, _, _, _, _, _, m, rfl, ⟨f54, f55, f56, f57, hL.mp, hL.lp, hL.hpp, hL.ml, hL.mh, hL.lh⟩, hR, fun g hg => .inl hg⟩
           ·refine WC.condN rfl (decide_eq_false c7) ?_
            refine WC.skip (E.blkN (E.thenN (WC.region ?_)))
            refine W.any (.move rfl) rfl rfl rfl ?_
            refine W.any (.add rfl rfl (by omega)) rfl rfl rfl ?_
            refine W.any (.assign rfl) rfl rfl rfl ?_
            refine W.nil ?_
            have f58 := (f2_0.le h21_5)
            have f59 := (f2_1.le h21_5)
            have f60 := (f2_2.le h21_5)
            have f61 := (f2_3.le h21_5)
            have f62 := (f2_4.le h21_5)
            have f63 := (f2_5.le h21_5)
            have f64 := (f2_6.le h21_5)
            have f65 := (f2_7.le h21_5)
            refine E.again (k2 + 1) (.cons rfl (.cons rfl (.cons rfl (.cons rfl (.cons rfl (.cons rfl (.nil _))))))) ?_ ?_
            ·exact ⟨by omega, fun i hi => (Nat.lt_succ_iff_lt_or_eq.1 hi).elim (hth i) (fun hh => by subst hh; rcases hat21_5 with ⟨z, _⟩ | ⟨q, z, z1, z2⟩; omega; exact ⟨_, z2 ▸ hR.at_some hG z1⟩), L53, by have := zl2; have := h21_5.size; omega, f58, f59, f60, f61, f62, f63, f64, f65⟩
            ·first | omega | (simp only []; omega)
          ·refine WC.condN rfl (decide_eq_false c6) ?_
           have ht5 := all_there (k := k2) (fun i hi => hth i hi) (by omega)
           refine WC.exit (E.thenX (E.thenX (E.blkH (E.thenN (WC.seq (WC.seq (WC.region ?_)))))))
           refine W.any (.assign rfl) rfl rfl rfl ?_
           refine W.nil (E.thenN (WC.block ?_))
           refine WC.loop (ι := Nat) (fun k3 => [(0, .pointer (some ⟨gp, 0, none⟩)), (1, .slice Ao no co), (2, .slice As ns cS), (3, .slice Af nf cf), (12, .pointer (some ⟨gp17_1, 0, none⟩)), (14, .int .i64 (((k3 : Nat) : Int)))]) (fun k3 wl3 => (k3 ≤ no) ∧ (∀ i, i < k3 → ¬ Busy s.lh (old.getD i 0)) ∧ ChP w wl3 (fun k => k = gp ∨ rowOf Am cm = some k ∨ rowOf Al cl = some k ∨ rowOf Ah ch_ = some k) ∧ wl2.heap.size ≤ wl3.heap.size ∧ Blk wl3 gp 71 #[.slice Am m.mine.length cm, .slice Al m.l.length cl, .slice Ah m.hs.length ch_, .int .i64 (m.gone)] ∧ OVec wl3 0 3 iv 1 Am m.mine.length cm m.mine ∧ OVec wl3 0 73 seatV 5 Al m.l.length cl m.l ∧ OVec wl3 0 103 rholdV 5 Ah m.hs.length ch_ m.hs ∧ Blk wl3 gp17_1 71 #[.slice Am17_1 m.mine.length cm17_1, .slice Al17_1 m.l.length cl17_1, .slice Ah17_1 m.hs.length ch17_1, .int .i64 (m.gone)] ∧ OVec wl3 w15_1.heap.size 3 iv 1 Am17_1 m.mine.length cm17_1 m.mine ∧ OVec wl3 w15_1.heap.size 73 seatV 5 Al17_1 m.l.length cl17_1 m.l ∧ OVec wl3 w15_1.heap.size 103 rholdV 5 Ah17_1 m.hs.length ch17_1 m.hs) (fun k3 => no - k3) 0 ?_ ?_ ?_
           ·exact .cons rfl (.cons rfl (.cons rfl (.cons rfl (.cons rfl (.cons rfl (.nil _))))))
           ·exact ⟨Nat.zero_le _, fun i hi => by omega, Ll2, Nat.le_refl _, f2_0, f2_1, f2_2, f2_3, f2_4, f2_5, f2_6, f2_7⟩
           ·rintro k3 wl3 ⟨hk3, hnb, Ll3, zl3, f3_0, f3_1, f3_2, f3_3, f3_4, f3_5, f3_6, f3_7⟩
            have lb3_11 : w15_1.heap.size ≤ wl3.heap.size := Nat.le_trans lb2_13 (by omega)
            have lb3_12 : w15_1.heap.size ≤ wl3.heap.size := Nat.le_trans lb2_13 (by omega)
            have lb3_13 : w15_1.heap.size ≤ wl3.heap.size := Nat.le_trans lb2_13 (by omega)
            refine WC.seq (WC.seq (WC.region ?_))
            refine W.any (.move rfl) rfl rfl rfl ?_
            refine W.any (.move rfl) rfl rfl rfl ?_
            refine W.rd (.len Tryz.underlying22 rfl) rfl rfl rfl ?_
            refine W.any (.lss rfl rfl) rfl rfl rfl ?_
            refine W.nil (E.thenN ?_)
            by_cases c8 : ((k3 : Nat) : Int) < ((no : Nat) : Int)
            ·refine WC.condY rfl (decide_eq_true c8) ?_
             refine WC.skip (E.thenN (WC.seq (WC.block (WC.seq (WC.region ?_)))))
             refine W.any (.move rfl) rfl rfl rfl ?_
             refine W.any (.move rfl) rfl rfl rfl ?_
             refine W.any (.move rfl) rfl rfl rfl ?_
             refine W.any (.idxS (k3) Tryz.underlying22 sz3 rfl rfl (ho.isSome iv_row (by omega)) (rfl) (by omega)) rfl rfl rfl ?_
             refine W.rd (.vone (v := .int .i64 ((old.getD k3 0))) na3 rfl (ho.chP Ll3 hoa) iv_row (getS old 0 (by first | omega | (simp only [List.length_cons, List.length_nil]; omega))) rfl) rfl rfl rfl ?_
             refine W.ef rfl rfl rfl ?_
             refine Ef.call go61 rfl rfl (rfree_ok (old.getD k3 0) wl3 ⟨f3_0, f3_1, f3_2, f3_3, hL.mp, hL.lp, hL.hpp, hL.ml, hL.mh, hL.lh⟩ hf) ?_
             rintro _ w26_5 ⟨rfl, h26_5⟩
             refine ⟨_, rfl, ?_⟩
             have L66 := Ll3.le h26_5
             refine W.any (.not rfl) rfl rfl rfl ?_
             refine W.nil (E.thenN ?_)
             by_cases c9 : heldR m.hs (old.getD k3 0) 0 = 0 ∧ heldR m.hs (old.getD k3 0) 1 = 0
             ·refine WC.condN rfl (congrArg not (decide_eq_true c9)) ?_
              refine WC.skip (E.blkN (E.thenN (WC.region ?_)))
              refine W.any (.move rfl) rfl rfl rfl ?_
              refine W.any (.add rfl rfl (by omega)) rfl rfl rfl ?_
              refine W.any (.assign rfl) rfl rfl rfl ?_
              refine W.nil ?_
              have f67 := (f3_0.le h26_5)
              have f68 := (f3_1.le h26_5)
              have f69 := (f3_2.le h26_5)
              have f70 := (f3_3.le h26_5)
              have f71 := (f3_4.le h26_5)
              have f72 := (f3_5.le h26_5)
              have f73 := (f3_6.le h26_5)
              have f74 := (f3_7.le h26_5)
              refine E.again (k3 + 1) (.cons rfl (.cons rfl (.cons rfl (.cons rfl (.cons rfl (.cons rfl (.nil _))))))) ?_ ?_
              ·exact ⟨by omega, fun i hi => (Nat.lt_succ_iff_lt_or_eq.1 hi).elim (hnb i) (fun hh => by subst hh; unfold Busy; rw [← hR.held, ← hR.held]; omega), L66, by have := zl3; have := h26_5.size; omega, f67, f68, f69, f70, f71, f72, f73, f74⟩
              ·first | omega | (simp only []; omega)
             ·refine WC.condY rfl (congrArg not (decide_eq_false c9)) ?_
              refine WC.seq (WC.region ?_)
              refine W.any (.assign rfl) rfl rfl rfl ?_
              refine W.nil (E.thenN (WC.ret (E.blkR (E.thenR (E.thenR (E.blkR (E.thenR ?_)))))))
              have f75 := (f3_0.le h26_5)
              have f76 := (f3_1.le h26_5)
              have f77 := (f3_2.le h26_5)
              have f78 := (f3_3.le h26_5)
              refine E.retG1 rfl rfl ?_
              have ho : (cutL s old seats fee) = (s, 14) := cutL_no (cutC_14 hok ht5 (k := k3 + 1) (held := true) (by omega) ⟨fun _ => ⟨k3, by omega, by unfold Busy; rw [← hR.held, ← hR.held] at *; have h0 := (hG.heldB (old.getD k3 0) 0).1; have h1 := (hG.heldB (old.getD k3 0) 1).1; rw [← hR.held] at h0 h1; omega⟩, fun _ => rfl⟩ rfl) (by decide)
              rw [ho]; exact ⟨L66, _, _, _, _, _, _, m, rfl, ⟨f75, f76, f77, f78, hL.mp, hL.lp, hL.hpp, hL.ml, hL.mh, hL.lh⟩, hR, fun g hg => .inl hg⟩
            ·refine WC.condN rfl (decide_eq_false c8) ?_
             have ht14 : ¬ ∃ ch ∈ old, Busy s.lh ch := not_busy (k := k3) (held := false) (by omega) ⟨fun h => (by cases h), fun ⟨i, hi, hb⟩ => absurd hb (hnb i hi)⟩ (by simp)
             have hseat : ∀ x ∈ s.ls, seatOk s.own.length x.2.2 := fun x hx => (hG.seats x hx).2.2
             have hgall := gone_at (old := old) hseat
             refine WC.exit (E.thenX (E.thenX (E.blkH (E.thenN (WC.seq (WC.region ?_))))))
             refine W.any (.move rfl) rfl rfl rfl ?_
             refine W.rd (.len Tryz.underlying22 rfl) rfl rfl rfl ?_
             refine W.ef rfl rfl rfl ?_
             refine Ef.vmake 0 nf Tryz.underlying22 el3 iv_row rfl rfl (rfl) rfl (rfl) (by omega) (by unfold maxLen; omega) ?_
             intro g28_2 w28_2 hg28_2 o28_2 h28_2
             have L79 := Ll3.le h28_2
             refine W.any (.assign rfl) rfl rfl rfl ?_
             refine W.nil (E.thenN (WC.seq (WC.seq (WC.region ?_))))
             refine W.any (.assign rfl) rfl rfl rfl ?_
             refine W.nil (E.thenN (WC.block ?_))
             have f80 := (f3_4.le h28_2)
             have f81 := (f3_6.le h28_2)
             have f82 := (f3_0.le h28_2)
             have f83 := (f3_1.le h28_2)
             have f84 := (f3_2.le h28_2)
             have f85 := (f3_3.le h28_2)
             have f86 := (f3_5.le h28_2)
             have f87 := (f3_7.le h28_2)
             refine WC.loop (ι := Nat × ((List Seat)) × ((Option Addr)) × Nat) (fun ⟨k4, lc, Ax, cx⟩ => [(0, .pointer (some ⟨gp, 0, none⟩)), (1, .slice Ao no co), (2, .slice As ns cS), (3, .slice Af nf cf), (12, .pointer (some ⟨gp17_1, 0, none⟩)), (15, .slice (some ⟨g28_2, 0, none⟩) nf nf), (16, .int .i64 (((k4 : Nat) : Int)))]) (fun ⟨k4, lc, Ax, cx⟩ wl4 => (k4 ≤ no) ∧ (RelM entS (delAll s.ls (old.take k4)) lc) ∧ (lc.Pairwise fun a b => a.ch < b.ch) ∧ (lc.length ≤ 40) ∧ ChP w wl4 (fun k => k = gp ∨ rowOf Am cm = some k ∨ rowOf Al cl = some k ∨ rowOf Ah ch_ = some k) ∧ w28_2.heap.size ≤ wl4.heap.size ∧ Blk wl4 gp 71 #[.slice Am m.mine.length cm, .slice Al m.l.length cl, .slice Ah m.hs.length ch_, .int .i64 (m.gone)] ∧ OVec wl4 0 3 iv 1 Am m.mine.length cm m.mine ∧ OVec wl4 0 73 seatV 5 Al m.l.length cl m.l ∧ OVec wl4 0 103 rholdV 5 Ah m.hs.length ch_ m.hs ∧ Blk wl4 gp17_1 71 #[.slice Am17_1 m.mine.length cm17_1, .slice Ax lc.length cx, .slice Ah17_1 m.hs.length ch17_1, .int .i64 (m.gone)] ∧ OVec wl4 w15_1.heap.size 3 iv 1 Am17_1 m.mine.length cm17_1 m.mine ∧ OVec wl4 w15_1.heap.size 73 seatV 5 Ax lc.length cx lc ∧ OVec wl4 w15_1.heap.size 103 rholdV 5 Ah17_1 m.hs.length ch17_1 m.hs ∧ OVec wl4 wl3.heap.size 3 iv 1 (some ⟨g28_2, 0, none⟩) nf nf (goneO s.own.length s.ls (old.take k4)) ∧ rowOf Ax cx ≠ some gp17_1 ∧ Apart Ax cx (some ⟨g28_2, 0, none⟩) nf) (fun ⟨k4, lc, Ax, cx⟩ => no - k4) (0, m.l, Al17_1, cl17_1) ?_ ?_ ?_
             ·exact .cons rfl (.cons rfl (.cons rfl (.cons rfl (.cons rfl (.cons rfl (.cons rfl (.nil _)))))))
             ·exact ⟨Nat.zero_le _, hR.seats, hR.srt, by omega, L79, Nat.le_refl _, f82, f83, f84, f85, f80, f86, f81, f87, (o28_2.cast rfl (by unfold goneO; rw [show nf = s.own.length by omega]; rfl)), n217_1, (fun q h1 h2 => by have := (f3_6.row h1).2; have := (o28_2.row h2).1; omega)⟩
             ·rintro ⟨k4, lc, Ax, cx⟩ wl4 ⟨hk4, hlc, hsc, hlc4, Ll4, zl4, f4_0, f4_1, f4_2, f4_3, f4_4, f4_5, f4_6, f4_7, f4_8, cq4_0, cq4_1⟩
              have lb4_11 : w15_1.heap.size ≤ wl4.heap.size := Nat.le_trans lb3_13 (by have := h28_2.size; omega)
              have lb4_12 : w15_1.heap.size ≤ wl4.heap.size := Nat.le_trans lb3_13 (by have := h28_2.size; omega)
              have lb4_13 : w15_1.heap.size ≤ wl4.heap.size := Nat.le_trans lb3_13 (by have := h28_2.size; omega)
              have lb4_15 : wl3.heap.size ≤ wl4.heap.size := by have := h28_2.size; omega
              have hgb := hgall k4 (by omega) (fun i hi => hth i (by omega))
              refine WC.seq (WC.seq (WC.region ?_))
              refine W.any (.move rfl) rfl rfl rfl ?_
              refine W.any (.move rfl) rfl rfl rfl ?_
              refine W.rd (.len Tryz.underlying22 rfl) rfl rfl rfl ?_
              refine W.any (.lss rfl rfl) rfl rfl rfl ?_
              refine W.nil (E.thenN ?_)
              by_cases c10 : ((k4 : Nat) : Int) < ((no : Nat) : Int)
              ·refine WC.condY rfl (decide_eq_true c10) ?_
               refine WC.skip (E.thenN (WC.seq (WC.block (WC.seq (WC.region ?_)))))
               refine W.any (.move rfl) rfl rfl rfl ?_
               refine W.any (.move rfl) rfl rfl rfl ?_
               refine W.any (.move rfl) rfl rfl rfl ?_
               refine W.any (.idxS (k4) Tryz.underlying22 sz3 rfl rfl (ho.isSome iv_row (by omega)) (rfl) (by omega)) rfl rfl rfl ?_
               refine W.rd (.vone (v := .int .i64 ((old.getD k4 0))) na3 rfl (ho.chP Ll4 hoa) iv_row (getS old 0 (by first | omega | (simp only [List.length_cons, List.length_nil]; omega))) rfl) rfl rfl rfl ?_
               refine W.ef rfl rfl rfl ?_
               refine Ef.call go59 rfl rfl (rat3_ok (old.getD k4 0) wl4 f4_4 f4_6.vec (by omega)) ?_
               rintro _ w32_5 ⟨v32_5, rfl, hat32_5, h32_5⟩
               refine ⟨_, rfl, ?_⟩
               have L88 := Ll4.le h32_5
               obtain ⟨q, hq0, hq1, hq2⟩ : ∃ q : Nat, v32_5 = (q : Int) ∧ q < lc.length ∧ (lc.getD q noSeat).ch = old.getD k4 0 := by rcases hat32_5 with ⟨_, z⟩ | z; exact (del_some hok.1.1 (by omega) hlc (hth k4 (by omega)) z).elim; exact z
               have hds := del_step hok.1.1 (by omega) hG.keys hlc hq1 hq2
               have hso : seatOk s.own.length (lc.getD q noSeat) := hseat _ (getG_mem hds.1).choose_spec
               have hsa : seatAt' s.ls (old.getD k4 0) = (lc.getD q noSeat) := by unfold seatAt'; rw [hds.1]; rfl
               refine W.any (.assign rfl) rfl rfl rfl ?_
               refine W.nil (E.thenN (WC.seq (WC.seq (WC.region ?_))))
               refine W.any (.assign rfl) rfl rfl rfl ?_
               refine W.nil (E.thenN (WC.block ?_))
               have f89 := (f4_8.le h32_5)
               have f90 := (f4_0.le h32_5)
               have f91 := (f4_1.le h32_5)
               have f92 := (f4_2.le h32_5)
               have f93 := (f4_3.le h32_5)
               have f94 := (f4_4.le h32_5)
               have f95 := (f4_5.le h32_5)
               have f96 := (f4_6.le h32_5)
               have f97 := (f4_7.le h32_5)
               refine WC.loop (ι := Nat) (fun k5 => [(0, .pointer (some ⟨gp, 0, none⟩)), (1, .slice Ao no co), (2, .slice As ns cS), (3, .slice Af nf cf), (12, .pointer (some ⟨gp17_1, 0, none⟩)), (15, .slice (some ⟨g28_2, 0, none⟩) nf nf), (16, .int .i64 (((k4 : Nat) : Int))), (17, .int .i64 (v32_5)), (18, .int .i64 (((k5 : Nat) : Int)))]) (fun k5 wl5 => (k5 ≤ 2) ∧ ChP w wl5 (fun k => k = gp ∨ rowOf Am cm = some k ∨ rowOf Al cl = some k ∨ rowOf Ah ch_ = some k) ∧ w32_5.heap.size ≤ wl5.heap.size ∧ Blk wl5 gp 71 #[.slice Am m.mine.length cm, .slice Al m.l.length cl, .slice Ah m.hs.length ch_, .int .i64 (m.gone)] ∧ OVec wl5 0 3 iv 1 Am m.mine.length cm m.mine ∧ OVec wl5 0 73 seatV 5 Al m.l.length cl m.l ∧ OVec wl5 0 103 rholdV 5 Ah m.hs.length ch_ m.hs ∧ Blk wl5 gp17_1 71 #[.slice Am17_1 m.mine.length cm17_1, .slice Ax lc.length cx, .slice Ah17_1 m.hs.length ch17_1, .int .i64 (m.gone)] ∧ OVec wl5 w15_1.heap.size 3 iv 1 Am17_1 m.mine.length cm17_1 m.mine ∧ OVec wl5 w15_1.heap.size 73 seatV 5 Ax lc.length cx lc ∧ OVec wl5 w15_1.heap.size 103 rholdV 5 Ah17_1 m.hs.length ch17_1 m.hs ∧ OVec wl5 wl3.heap.size 3 iv 1 (some ⟨g28_2, 0, none⟩) nf nf (addS (goneO s.own.length s.ls (old.take k4)) (lc.getD q noSeat) k5)) (fun k5 => 2 - k5) 0 ?_ ?_ ?_
               ·exact .cons rfl (.cons rfl (.cons rfl (.cons rfl (.cons rfl (.cons rfl (.cons rfl (.cons rfl (.cons rfl (.nil _)))))))))
               ·exact ⟨Nat.zero_le _, L88, Nat.le_refl _, f90, f91, f92, f93, f94, f95, f96, f97, f89⟩
               ·rintro k5 wl5 ⟨hk5, Ll5, zl5, f5_0, f5_1, f5_2, f5_3, f5_4, f5_5, f5_6, f5_7, f5_8⟩
                have lb5_11 : w15_1.heap.size ≤ wl5.heap.size := Nat.le_trans lb4_13 (by have := h32_5.size; omega)
                have lb5_12 : w15_1.heap.size ≤ wl5.heap.size := Nat.le_trans lb4_13 (by have := h32_5.size; omega)
                have lb5_13 : w15_1.heap.size ≤ wl5.heap.size := Nat.le_trans lb4_13 (by have := h32_5.size; omega)
                have lb5_15 : wl3.heap.size ≤ wl5.heap.size := Nat.le_trans lb4_15 (by have := h32_5.size; omega)
                have hpz := hso.1
                have hab := addS_at hso.2.2.2.1 hso.2.2.2.2 hgb k5 hk5
                refine WC.seq (WC.seq (WC.region ?_))
                refine W.any (.move rfl) rfl rfl rfl ?_
                refine W.any (.lss rfl rfl) rfl rfl rfl ?_
                refine W.nil (E.thenN ?_)
                by_cases c11 : ((k5 : Nat) : Int) < 2
                ·refine WC.condY rfl (decide_eq_true c11) ?_
                 refine WC.skip (E.thenN (WC.seq (WC.block (WC.seq (WC.region ?_)))))
                 refine W.any (.move rfl) rfl rfl rfl ?_
                 refine W.any (.nilCheck rfl) rfl rfl rfl ?_
                 refine W.any (.field0 fa71_1 rfl) rfl rfl rfl ?_
                 refine W.rd (.loadB (v := .slice Ax lc.length cx) na68 rfl f5_4 rfl) rfl rfl rfl ?_
                 refine W.any (.move rfl) rfl rfl rfl ?_
                 refine W.any (.move rfl) rfl rfl rfl ?_
                 refine W.any (.idxS (q) Tryz.underlying68 sz73 rfl rfl (f4_6.vec.isSome seatV_row (by omega)) (by omega) (by omega)) rfl rfl rfl ?_
                 refine W.any (.vfield fa73_1 (f4_6.vec.isSome seatV_row (by omega)) rfl) rfl rfl rfl ?_
                 refine W.any (.vidx (k5) Tryz.underlying35 sz3 (f4_6.vec.isSome seatV_row (by omega)) rfl rfl (rfl) (by omega)) rfl rfl rfl ?_
                 refine W.rd (.vcellQ (j := q) (o := 1) (q := k5) (v := .int .i64 (((lc.getD q noSeat).p k5))) na3 rfl f5_6.vec seatV_row (getS lc noSeat (by omega)) (seatP_at _ (by omega))) rfl rfl rfl ?_
                 refine W.any (.assign rfl) rfl rfl rfl ?_
                 refine W.nil (E.thenN ?_)
                 refine WC.draw [0, 1, 2, 3, 4, 5, 6, 7, 8, 9, 10, 11, 12, 13, 14, 15, 16, 17, 18] mixed (by kernel_rfl) ?_
                 intro w37 d37
                 have L98 := Ll5.le d37
                 refine G.any rfl rfl (.move rfl) rfl rfl rfl ?_
                 refine G.any rfl rfl (.move rfl) rfl rfl rfl ?_
                 refine G.any rfl rfl (.move rfl) rfl rfl rfl ?_
                 refine G.any rfl rfl (.move rfl) rfl rfl rfl ?_
                 refine G.any rfl rfl (.idxS (((lc.getD q noSeat).p k5).toNat) Tryz.underlying22 sz3 rfl rfl (o28_2.vec.isSome iv_row (by omega)) (by have := (seatOk_at hso (k := k5) (by omega)).1; omega) (by have := (seatOk_at hso (k := k5) (by omega)).1; omega)) rfl rfl rfl ?_
                 have f99 := (f5_8.le d37)
                 refine G.rd rfl rfl (.vone (v := .int .i64 (((addS (goneO s.own.length s.ls (old.take k4)) (lc.getD q noSeat) k5).getD (((lc.getD q noSeat).p k5).toNat) 0))) na3 rfl f99.vec iv_row (getS (addS (goneO s.own.length s.ls (old.take k4)) (lc.getD q noSeat) k5) 0 (by rw [addS_len, goneO_len]; have := (seatOk_at hso (k := k5) (by omega)).1; omega)) rfl) rfl rfl rfl ?_
                 refine G.any rfl rfl (.move rfl) rfl rfl rfl ?_
                 refine G.any rfl rfl (.nilCheck rfl) rfl rfl rfl ?_
                 refine G.any rfl rfl (.field0 fa71_1 rfl) rfl rfl rfl ?_
                 have f100 := (f5_4.le d37)
                 refine G.rd rfl rfl (.loadB (v := .slice Ax lc.length cx) na68 rfl f100 rfl) rfl rfl rfl ?_
                 refine G.any rfl rfl (.move rfl) rfl rfl rfl ?_
                 refine G.any rfl rfl (.move rfl) rfl rfl rfl ?_
                 refine G.any rfl rfl (.idxS (q) Tryz.underlying68 sz73 rfl rfl (f4_6.vec.isSome seatV_row (by omega)) (by omega) (by omega)) rfl rfl rfl ?_
                 refine G.any rfl rfl (.vfield fa73_2 (f4_6.vec.isSome seatV_row (by omega)) rfl) rfl rfl rfl ?_
                 refine G.any rfl rfl (.vidx (k5) Tryz.underlying35 sz3 (f4_6.vec.isSome seatV_row (by omega)) rfl rfl (rfl) (by omega)) rfl rfl rfl ?_
                 have f101 := (f5_6.le d37)
                 refine G.rd rfl rfl (.vcellQ (j := q) (o := 3) (q := k5) (v := .int .i64 (((lc.getD q noSeat).h k5))) na3 rfl f101.vec seatV_row (getS lc noSeat (by omega)) (seatH_at _ (by omega))) rfl rfl rfl ?_
                 refine G.any rfl rfl (.add rfl rfl (by have := hab ((lc.getD q noSeat).p k5).toNat; have := (seatOk_at hso (k := k5) (by omega)).2; omega)) rfl rfl rfl ?_
                 refine G.any rfl rfl (.idxS (((lc.getD q noSeat).p k5).toNat) Tryz.underlying22 sz3 rfl rfl (o28_2.vec.isSome iv_row (by omega)) (by have := (seatOk_at hso (k := k5) (by omega)).1; omega) (by have := (seatOk_at hso (k := k5) (by omega)).1; omega)) rfl rfl rfl ?_
                 refine G.ef0 rfl rfl rfl rfl ?_
                 refine Ef.vset (j := ((lc.getD q noSeat).p k5).toNat) (o := 0) (((addS (goneO s.own.length s.ls (old.take k4)) (lc.getD q noSeat) k5).getD (((lc.getD q noSeat).p k5).toNat) 0) + ((lc.getD q noSeat).h k5)) sz3 rfl (by omega) rfl f99 iv_row (getS (addS (goneO s.own.length s.ls (old.take k4)) (lc.getD q noSeat) k5) 0 (by rw [addS_len, goneO_len]; have := (seatOk_at hso (k := k5) (by omega)).1; omega)) (by decide) rfl rfl ?_
                 intro w37_18 o37_18 h37_18
                 refine ⟨fun h => absurd h (ne_true_of_eq_false (by kernel_rfl)), ?_⟩
                 have L102 : ChP w w37_18 (fun k => k = gp ∨ rowOf Am cm = some k ∨ rowOf Al cl = some k ∨ rowOf Ah ch_ = some k) := L98.ch h37_18 (fun i hi hlt => absurd hlt (by have := (f99.row hi).1; have := Ll3.size; omega))
                 refine G.nil (E.blkN (E.thenN (WC.region ?_)))
                 refine W.any (.move rfl) rfl rfl rfl ?_
                 refine W.any (.add rfl rfl (by omega)) rfl rfl rfl ?_
                 refine W.any (.assign rfl) rfl rfl rfl ?_
                 refine W.nil ?_
                 have f103 := ((f5_0.le d37).ch h37_18 (fun he => by have := (f99.row he).1; have := f3_0.lt; omega))
                 have f104 := ((f5_1.le d37).ch h37_18 ((Apart.symm (fun q h1 h2 => by have := (f3_1.row h1).2; have := (f99.row h2).1; omega))))
                 have f105 := ((f5_2.le d37).ch h37_18 ((Apart.symm (fun q h1 h2 => by have := (f3_2.row h1).2; have := (f99.row h2).1; omega))))
                 have f106 := ((f5_3.le d37).ch h37_18 ((Apart.symm (fun q h1 h2 => by have := (f3_3.row h1).2; have := (f99.row h2).1; omega))))
                 have f107 := (f100.ch h37_18 (fun he => by have := (f99.row he).1; have := f3_4.lt; omega))
                 have f108 := ((f5_5.le d37).ch h37_18 ((Apart.symm (fun q h1 h2 => by have := (f3_5.row h1).2; have := (f99.row h2).1; omega))))
                 have f109 := (f101.ch h37_18 ((Apart.symm cq4_1)))
                 have f110 := ((f5_7.le d37).ch h37_18 ((Apart.symm (fun q h1 h2 => by have := (f3_7.row h1).2; have := (f99.row h2).1; omega))))
                 refine E.again (k5 + 1) (.cons rfl (.cons rfl (.cons rfl (.cons rfl (.cons rfl (.cons rfl (.cons rfl (.cons rfl (.cons rfl (.nil _)))))))))) ?_ ?_
                 ·exact ⟨by omega, L102, by have := zl5; have := d37.size; have := h37_18.size; omega, f103, f104, f105, f106, f107, f108, f109, f110, o37_18⟩
                 ·first | omega | (simp only []; omega)
                ·refine WC.condN rfl (decide_eq_false c11) ?_
                 refine WC.exit (E.thenX (E.thenX (E.blkH (E.thenN (WC.region ?_)))))
                 refine W.any (.move rfl) rfl rfl rfl ?_
                 refine W.any (.move rfl) rfl rfl rfl ?_
                 refine W.ef rfl rfl rfl ?_
                 refine Ef.call go62 rfl rfl ((by have h := rdrop_ok q wl5 f5_4 (f5_6.mono (Nat.zero_le _)) cq4_0 (by omega) (by omega); rw [← hq0] at h; exact h)) ?_
                 rintro _ w38_2 ⟨rfl, h38_2, A38_2, c38_2, bp38_2, o38_2⟩
                 refine ⟨_, rfl, ?_⟩
                 have L111 := Ll5.sub h38_2 (fun i hi hlt => absurd hlt (by subst hi; have := L39.size; have := hg17_1; omega))
                 refine W.nil (E.blkN (E.thenN (WC.region ?_)))
                 refine W.any (.move rfl) rfl rfl rfl ?_
                 refine W.any (.add rfl rfl (by omega)) rfl rfl rfl ?_
                 refine W.any (.assign rfl) rfl rfl rfl ?_
                 refine W.nil ?_
                 have f112 := (f5_0.chP h38_2 (fun hF => (show gp ≠ gp17_1 from by have := f44.lt; omega) hF))
                 have f113 := (f5_1.chP h38_2 (fun q hqq hF => (by subst hF; exact (fun he => by have := (f45.row he).2; omega) hqq)))
                 have f114 := (f5_2.chP h38_2 (fun q hqq hF => (by subst hF; exact (fun he => by have := (f46.row he).2; omega) hqq)))
                 have f115 := (f5_3.chP h38_2 (fun q hqq hF => (by subst hF; exact (fun he => by have := (f47.row he).2; omega) hqq)))
                 have f116 := (f5_5.chP h38_2 (fun q hqq hF => (by subst hF; exact n117_1 hqq)))
                 have f117 := (f5_7.chP h38_2 (fun q hqq hF => (by subst hF; exact n317_1 hqq)))
                 have f118 := (f5_8.chP h38_2 (fun q hqq hF => (by subst hF; exact (fun he => by have := (f5_8.row he).1; have := f3_4.lt; omega) hqq)))
                 refine E.again (k4 + 1, (lc.take q ++ lc.drop (q + 1)), A38_2, c38_2) (.cons rfl (.cons rfl (.cons rfl (.cons rfl (.cons rfl (.cons rfl (.cons rfl (.nil _)))))))) ?_ ?_
                 ·exact ⟨by omega, hds.2, drop_srt hsc, by have := hlc4; simp; omega, L111, by have := zl4; have := h38_2.size; have := zl0; have := zl1; have := zl2; have := zl3; have := zl5; have := h1_1.size; have := h15_1.size; have := h17_1.size; have := h28_2.size; have := h32_5.size; omega, f112, f113, f114, f115, bp38_2, f116, (o38_2.mono (by omega)), f117, (f118.cast rfl (by have e3 : k5 = 2 := (by omega); rw [e3, goneO_next (by omega), hsa])), (fun he => by have := (o38_2.row he).1; have := f5_4.lt; omega), (Apart.symm (fun q h1 h2 => by have := (f5_8.row h1).2; have := (o38_2.row h2).1; omega))⟩
                 ·first | omega | (simp only []; omega)
              ·refine WC.condN rfl (decide_eq_false c10) ?_
               have hg2 := hgall old.length (Nat.le_refl _) (fun i hi => hth i (by omega))
               rw [List.take_length] at hg2
               refine WC.exit (E.thenX (E.thenX (E.blkH (E.thenN (WC.seq (WC.seq (WC.region ?_)))))))
               refine W.any (.assign rfl) rfl rfl rfl ?_
               refine W.nil (E.thenN (WC.block ?_))
               refine WC.loop (ι := Nat × ((List Seat)) × ((Option Addr)) × Nat) (fun ⟨k6, ld, Ay, cy⟩ => [(0, .pointer (some ⟨gp, 0, none⟩)), (2, .slice As ns cS), (3, .slice Af nf cf), (12, .pointer (some ⟨gp17_1, 0, none⟩)), (15, .slice (some ⟨g28_2, 0, none⟩) nf nf), (20, .int .i64 (((k6 : Nat) : Int)))]) (fun ⟨k6, ld, Ay, cy⟩ wl6 => (k6 ≤ ns) ∧ (RelM entS (putAll (delAll s.ls old, s.cs) (seats.take k6)).1 ld) ∧ (ld.Pairwise fun a b => a.ch < b.ch) ∧ (ld.length ≤ 40 + k6) ∧ (∀ i, i < k6 → ¬ There s.ls old (seats.getD i noSeat)) ∧ ChP w wl6 (fun k => k = gp ∨ rowOf Am cm = some k ∨ rowOf Al cl = some k ∨ rowOf Ah ch_ = some k) ∧ wl4.heap.size ≤ wl6.heap.size ∧ Blk wl6 gp 71 #[.slice Am m.mine.length cm, .slice Al m.l.length cl, .slice Ah m.hs.length ch_, .int .i64 (m.gone)] ∧ OVec wl6 0 3 iv 1 Am m.mine.length cm m.mine ∧ OVec wl6 0 73 seatV 5 Al m.l.length cl m.l ∧ OVec wl6 0 103 rholdV 5 Ah m.hs.length ch_ m.hs ∧ Blk wl6 gp17_1 71 #[.slice Am17_1 m.mine.length cm17_1, .slice Ay ld.length cy, .slice Ah17_1 m.hs.length ch17_1, .int .i64 (m.gone)] ∧ OVec wl6 w15_1.heap.size 3 iv 1 Am17_1 m.mine.length cm17_1 m.mine ∧ OVec wl6 w15_1.heap.size 73 seatV 5 Ay ld.length cy ld ∧ OVec wl6 w15_1.heap.size 103 rholdV 5 Ah17_1 m.hs.length ch17_1 m.hs ∧ OVec wl6 wl3.heap.size 3 iv 1 (some ⟨g28_2, 0, none⟩) nf nf (comeO (goneO s.own.length s.ls old) (seats.take k6)) ∧ rowOf Ay cy ≠ some gp17_1 ∧ Apart Ay cy (some ⟨g28_2, 0, none⟩) nf) (fun ⟨k6, ld, Ay, cy⟩ => ns - k6) (0, lc, Ax, cx) ?_ ?_ ?_
               ·exact .cons rfl (.cons rfl (.cons rfl (.cons rfl (.cons rfl (.cons rfl (.nil _))))))
               ·exact ⟨Nat.zero_le _, (by rw [List.take_of_length_le (by omega)] at hlc; exact hlc), hsc, by omega, fun i hi => by omega, Ll4, Nat.le_refl _, f4_0, f4_1, f4_2, f4_3, f4_4, f4_5, f4_6, f4_7, (f4_8.cast rfl (by rw [List.take_of_length_le (by omega)]; rfl)), cq4_0, cq4_1⟩
               ·rintro ⟨k6, ld, Ay, cy⟩ wl6 ⟨hk6, hld, hsd, hld4, hnt, Ll6, zl6, f6_0, f6_1, f6_2, f6_3, f6_4, f6_5, f6_6, f6_7, f6_8, cq6_0, cq6_1⟩
                have lb6_11 : w15_1.heap.size ≤ wl6.heap.size := Nat.le_trans lb4_13 (by omega)
                have lb6_12 : w15_1.heap.size ≤ wl6.heap.size := Nat.le_trans lb4_13 (by omega)
                have lb6_13 : w15_1.heap.size ≤ wl6.heap.size := Nat.le_trans lb4_13 (by omega)
                have lb6_15 : wl3.heap.size ≤ wl6.heap.size := Nat.le_trans lb4_15 (by omega)
                have hcb := come_at hok.2.1.2 hg2 k6 (by omega)
                refine WC.seq (WC.seq (WC.region ?_))
                refine W.any (.move rfl) rfl rfl rfl ?_
                refine W.any (.move rfl) rfl rfl rfl ?_
                refine W.rd (.len Tryz.underlying68 rfl) rfl rfl rfl ?_
                refine W.any (.lss rfl rfl) rfl rfl rfl ?_
                refine W.nil (E.thenN ?_)
                by_cases c12 : ((k6 : Nat) : Int) < ((ns : Nat) : Int)
                ·refine WC.condY rfl (decide_eq_true c12) ?_
                 refine WC.skip (E.thenN (WC.seq (WC.block (WC.seq (WC.seq (WC.region ?_))))))
                 refine W.any (.move rfl) rfl rfl rfl ?_
                 refine W.any (.move rfl) rfl rfl rfl ?_
                 refine W.any (.move rfl) rfl rfl rfl ?_
                 refine W.any (.idxS (k6) Tryz.underlying68 sz73 rfl rfl (hs.isSome seatV_row (by omega)) (rfl) (by omega)) rfl rfl rfl ?_
                 refine W.any (.vfield fa73_0 (hs.isSome seatV_row (by omega)) rfl) rfl rfl rfl ?_
                 refine W.rd (.vcell (j := k6) (o := 0) (v := .int .i64 ((seats.getD k6 noSeat).ch)) na3 rfl (hs.chP Ll6 hsa0) seatV_row (getS seats noSeat (by first | omega | (simp only [List.length_cons, List.length_nil]; omega))) rfl) rfl rfl rfl ?_
                 refine W.ef rfl rfl rfl ?_
                 refine Ef.call go59 rfl rfl (rat3_ok ((seats.getD k6 noSeat).ch) wl6 f6_4 f6_6.vec (by omega)) ?_
                 rintro _ w42_6 ⟨v42_6, rfl, hat42_6, h42_6⟩
                 refine ⟨_, rfl, ?_⟩
                 have L119 := Ll6.le h42_6
                 refine W.any (.geq rfl rfl) rfl rfl rfl ?_
                 refine W.nil (E.thenN ?_)
                 by_cases c13 : 0 ≤ v42_6
                 ·refine WC.condY rfl (decide_eq_true c13) ?_
                  refine WC.seq (WC.region ?_)
                  refine W.any (.assign rfl) rfl rfl rfl ?_
                  refine W.nil (E.thenN (WC.ret (E.thenR (E.blkR (E.thenR (E.thenR (E.blkR (E.thenR ?_))))))))
                  have f120 := (f6_0.le h42_6)
                  have f121 := (f6_1.le h42_6)
                  have f122 := (f6_2.le h42_6)
                  have f123 := (f6_3.le h42_6)
                  refine E.retG1 rfl rfl ?_
                  have ho : (cutL s old seats fee) = (s, 4) := cutL_no (cutC_4 hok ht5 ht14 (k := k6) (by omega) (by rcases hat42_6 with ⟨z, _⟩ | ⟨q, z, z1, z2⟩; omega; exact put_there hok.2.1.1 (by omega) hG.keys hnt hld z1 z2)) (by decide)
                  rw [ho]; exact ⟨L119, _, _, _, _, _, _, m, rfl, ⟨f120, f121, f122, f123, hL.mp, hL.lp, hL.hpp, hL.ml, hL.mh, hL.lh⟩, hR, fun g hg => .inl hg⟩
                 ·refine WC.condN rfl (decide_eq_false c13) ?_
                  have hpn := put_not (cs := s.cs) hok.2.1.1 (show k6 < seats.length by omega) hG.keys hnt hld (by rcases hat42_6 with ⟨_, z⟩ | ⟨q, z, z1, z2⟩; exact z; omega)
                  refine WC.skip (E.thenN (WC.seq (WC.seq (WC.region ?_))))
                  refine W.any (.assign rfl) rfl rfl rfl ?_
                  refine W.nil (E.thenN (WC.block ?_))
                  have f124 := (f6_8.le h42_6)
                  have f125 := (f6_0.le h42_6)
                  have f126 := (f6_1.le h42_6)
                  have f127 := (f6_2.le h42_6)
                  have f128 := (f6_3.le h42_6)
                  have f129 := (f6_4.le h42_6)
                  have f130 := (f6_5.le h42_6)
                  have f131 := (f6_6.le h42_6)
                  have f132 := (f6_7.le h42_6)
                  refine WC.loop (ι := Nat) (fun k7 => [(0, .pointer (some ⟨gp, 0, none⟩)), (2, .slice As ns cS), (3, .slice Af nf cf), (12, .pointer (some ⟨gp17_1, 0, none⟩)), (15, .slice (some ⟨g28_2, 0, none⟩) nf nf), (20, .int .i64 (((k6 : Nat) : Int))), (21, .int .i64 (((k7 : Nat) : Int)))]) (fun k7 wl7 => (k7 ≤ 2) ∧ ChP w wl7 (fun k => k = gp ∨ rowOf Am cm = some k ∨ rowOf Al cl = some k ∨ rowOf Ah ch_ = some k) ∧ w42_6.heap.size ≤ wl7.heap.size ∧ Blk wl7 gp 71 #[.slice Am m.mine.length cm, .slice Al m.l.length cl, .slice Ah m.hs.length ch_, .int .i64 (m.gone)] ∧ OVec wl7 0 3 iv 1 Am m.mine.length cm m.mine ∧ OVec wl7 0 73 seatV 5 Al m.l.length cl m.l ∧ OVec wl7 0 103 rholdV 5 Ah m.hs.length ch_ m.hs ∧ Blk wl7 gp17_1 71 #[.slice Am17_1 m.mine.length cm17_1, .slice Ay ld.length cy, .slice Ah17_1 m.hs.length ch17_1, .int .i64 (m.gone)] ∧ OVec wl7 w15_1.heap.size 3 iv 1 Am17_1 m.mine.length cm17_1 m.mine ∧ OVec wl7 w15_1.heap.size 73 seatV 5 Ay ld.length cy ld ∧ OVec wl7 w15_1.heap.size 103 rholdV 5 Ah17_1 m.hs.length ch17_1 m.hs ∧ OVec wl7 wl3.heap.size 3 iv 1 (some ⟨g28_2, 0, none⟩) nf nf (subS (comeO (goneO s.own.length s.ls old) (seats.take k6)) (seats.getD k6 noSeat) k7)) (fun k7 => 2 - k7) 0 ?_ ?_ ?_
                  ·exact .cons rfl (.cons rfl (.cons rfl (.cons rfl (.cons rfl (.cons rfl (.cons rfl (.nil _)))))))
                  ·exact ⟨Nat.zero_le _, L119, Nat.le_refl _, f125, f126, f127, f128, f129, f130, f131, f132, f124⟩
                  ·rintro k7 wl7 ⟨hk7, Ll7, zl7, f7_0, f7_1, f7_2, f7_3, f7_4, f7_5, f7_6, f7_7, f7_8⟩
                   have lb7_11 : w15_1.heap.size ≤ wl7.heap.size := Nat.le_trans lb6_13 (by have := h42_6.size; omega)
                   have lb7_12 : w15_1.heap.size ≤ wl7.heap.size := Nat.le_trans lb6_13 (by have := h42_6.size; omega)
                   have lb7_13 : w15_1.heap.size ≤ wl7.heap.size := Nat.le_trans lb6_13 (by have := h42_6.size; omega)
                   have lb7_15 : wl3.heap.size ≤ wl7.heap.size := Nat.le_trans lb6_15 (by have := h42_6.size; omega)
                   have hm6 := may_ok (hok.2.1.2 _ (getD_mem (z := noSeat) (show k6 < seats.length by omega)))
                   have hpz := hm6.1
                   have hab := subS_at hm6.2.2.2.1 hm6.2.2.2.2 hcb k7 hk7
                   refine WC.seq (WC.seq (WC.region ?_))
                   refine W.any (.move rfl) rfl rfl rfl ?_
                   refine W.any (.lss rfl rfl) rfl rfl rfl ?_
                   refine W.nil (E.thenN ?_)
                   by_cases c14 : ((k7 : Nat) : Int) < 2
                   ·refine WC.condY rfl (decide_eq_true c14) ?_
                    refine WC.skip (E.thenN (WC.seq (WC.block ?_)))
                    refine WC.draw [0, 1, 2, 3, 4, 5, 6, 7, 8, 9, 10, 11, 12, 13, 14, 15, 16, 17, 18, 19, 20, 21, 22, 23, 24, 25, 26, 27] mixed (by kernel_rfl) ?_
                    intro w47 d47
                    have L133 := Ll7.le d47
                    refine G.any rfl rfl (.move rfl) rfl rfl rfl ?_
                    refine G.any rfl rfl (.move rfl) rfl rfl rfl ?_
                    refine G.any rfl rfl (.move rfl) rfl rfl rfl ?_
                    refine G.any rfl rfl (.move rfl) rfl rfl rfl ?_
                    refine G.any rfl rfl (.idxS (k6) Tryz.underlying68 sz73 rfl rfl (hs.isSome seatV_row (by omega)) (rfl) (by omega)) rfl rfl rfl ?_
                    refine G.any rfl rfl (.vfield fa73_1 (hs.isSome seatV_row (by omega)) rfl) rfl rfl rfl ?_
                    refine G.any rfl rfl (.vidx (k7) Tryz.underlying35 sz3 (hs.isSome seatV_row (by omega)) rfl rfl (rfl) (by omega)) rfl rfl rfl ?_
                    refine G.rd rfl rfl (.vcellQ (j := k6) (o := 1) (q := k7) (v := .int .i64 (((seats.getD k6 noSeat).p k7))) na3 rfl (hs.chP L133 hsa0) seatV_row (getS seats noSeat (by omega)) (seatP_at _ (by omega))) rfl rfl rfl ?_
                    refine G.any rfl rfl (.move rfl) rfl rfl rfl ?_
                    refine G.any rfl rfl (.move rfl) rfl rfl rfl ?_
                    refine G.any rfl rfl (.move rfl) rfl rfl rfl ?_
                    refine G.any rfl rfl (.move rfl) rfl rfl rfl ?_
                    refine G.any rfl rfl (.idxS (k6) Tryz.underlying68 sz73 rfl rfl (hs.isSome seatV_row (by omega)) (rfl) (by omega)) rfl rfl rfl ?_
                    refine G.any rfl rfl (.vfield fa73_1 (hs.isSome seatV_row (by omega)) rfl) rfl rfl rfl ?_
                    refine G.any rfl rfl (.vidx (k7) Tryz.underlying35 sz3 (hs.isSome seatV_row (by omega)) rfl rfl (rfl) (by omega)) rfl rfl rfl ?_
                    refine G.rd rfl rfl (.vcellQ (j := k6) (o := 1) (q := k7) (v := .int .i64 (((seats.getD k6 noSeat).p k7))) na3 rfl (hs.chP L133 hsa0) seatV_row (getS seats noSeat (by omega)) (seatP_at _ (by omega))) rfl rfl rfl ?_
                    refine G.any rfl rfl (.idxS (((seats.getD k6 noSeat).p k7).toNat) Tryz.underlying22 sz3 rfl rfl (o28_2.vec.isSome iv_row (by omega)) (by have := (seatOk_at hm6 (k := k7) (by omega)).1; omega) (by have := (seatOk_at hm6 (k := k7) (by omega)).1; omega)) rfl rfl rfl ?_
                    have f134 := (f7_8.le d47)
                    refine G.rd rfl rfl (.vone (v := .int .i64 (((subS (comeO (goneO s.own.length s.ls old) (seats.take k6)) (seats.getD k6 noSeat) k7).getD (((seats.getD k6 noSeat).p k7).toNat) 0))) na3 rfl f134.vec iv_row (getS (subS (comeO (goneO s.own.length s.ls old) (seats.take k6)) (seats.getD k6 noSeat) k7) 0 (by rw [subS_len, comeO_len, goneO_len]; have := (seatOk_at hm6 (k := k7) (by omega)).1; omega)) rfl) rfl rfl rfl ?_
                    refine G.any rfl rfl (.move rfl) rfl rfl rfl ?_
                    refine G.any rfl rfl (.move rfl) rfl rfl rfl ?_
                    refine G.any rfl rfl (.move rfl) rfl rfl rfl ?_
                    refine G.any rfl rfl (.idxS (k6) Tryz.underlying68 sz73 rfl rfl (hs.isSome seatV_row (by omega)) (rfl) (by omega)) rfl rfl rfl ?_
                    refine G.any rfl rfl (.vfield fa73_2 (hs.isSome seatV_row (by omega)) rfl) rfl rfl rfl ?_
                    refine G.any rfl rfl (.vidx (k7) Tryz.underlying35 sz3 (hs.isSome seatV_row (by omega)) rfl rfl (rfl) (by omega)) rfl rfl rfl ?_
                    refine G.rd rfl rfl (.vcellQ (j := k6) (o := 3) (q := k7) (v := .int .i64 (((seats.getD k6 noSeat).h k7))) na3 rfl (hs.chP L133 hsa0) seatV_row (getS seats noSeat (by omega)) (seatH_at _ (by omega))) rfl rfl rfl ?_
                    refine G.any rfl rfl (.sub rfl rfl (by have := hab ((seats.getD k6 noSeat).p k7).toNat; have := (seatOk_at hm6 (k := k7) (by omega)).2; omega)) rfl rfl rfl ?_
                    refine G.any rfl rfl (.idxS (((seats.getD k6 noSeat).p k7).toNat) Tryz.underlying22 sz3 rfl rfl (o28_2.vec.isSome iv_row (by omega)) (by have := (seatOk_at hm6 (k := k7) (by omega)).1; omega) (by have := (seatOk_at hm6 (k := k7) (by omega)).1; omega)) rfl rfl rfl ?_
                    refine G.ef0 rfl rfl rfl rfl ?_
                    refine Ef.vset (j := ((seats.getD k6 noSeat).p k7).toNat) (o := 0) (((subS (comeO (goneO s.own.length s.ls old) (seats.take k6)) (seats.getD k6 noSeat) k7).getD (((seats.getD k6 noSeat).p k7).toNat) 0) - ((seats.getD k6 noSeat).h k7)) sz3 rfl (by omega) rfl f134 iv_row (getS (subS (comeO (goneO s.own.length s.ls old) (seats.take k6)) (seats.getD k6 noSeat) k7) 0 (by rw [subS_len, comeO_len, goneO_len]; have := (seatOk_at hm6 (k := k7) (by omega)).1; omega)) (by decide) rfl rfl ?_
                    intro w47_27 o47_27 h47_27
                    refine ⟨fun h => absurd h (ne_true_of_eq_false (by kernel_rfl)), ?_⟩
                    have L135 : ChP w w47_27 (fun k => k = gp ∨ rowOf Am cm = some k ∨ rowOf Al cl = some k ∨ rowOf Ah ch_ = some k) := L133.ch h47_27 (fun i hi hlt => absurd hlt (by have := (f134.row hi).1; have := Ll3.size; omega))
                    refine G.nil (E.blkN (E.thenN (WC.region ?_)))
                    refine W.any (.move rfl) rfl rfl rfl ?_
                    refine W.any (.add rfl rfl (by omega)) rfl rfl rfl ?_
                    refine W.any (.assign rfl) rfl rfl rfl ?_
                    refine W.nil ?_
                    have f136 := ((f7_0.le d47).ch h47_27 (fun he => by have := (f134.row he).1; have := f3_0.lt; omega))
                    have f137 := ((f7_1.le d47).ch h47_27 ((Apart.symm (fun q h1 h2 => by have := (f3_1.row h1).2; have := (f134.row h2).1; omega))))
                    have f138 := ((f7_2.le d47).ch h47_27 ((Apart.symm (fun q h1 h2 => by have := (f3_2.row h1).2; have := (f134.row h2).1; omega))))
                    have f139 := ((f7_3.le d47).ch h47_27 ((Apart.symm (fun q h1 h2 => by have := (f3_3.row h1).2; have := (f134.row h2).1; omega))))
                    have f140 := ((f7_4.le d47).ch h47_27 (fun he => by have := (f134.row he).1; have := f3_4.lt; omega))
                    have f141 := ((f7_5.le d47).ch h47_27 ((Apart.symm (fun q h1 h2 => by have := (f3_5.row h1).2; have := (f134.row h2).1; omega))))
                    have f142 := ((f7_6.le d47).ch h47_27 ((Apart.symm cq6_1)))
                    have f143 := ((f7_7.le d47).ch h47_27 ((Apart.symm (fun q h1 h2 => by have := (f3_7.row h1).2; have := (f134.row h2).1; omega))))
                    refine E.again (k7 + 1) (.cons rfl (.cons rfl (.cons rfl (.cons rfl (.cons rfl (.cons rfl (.cons rfl (.nil _)))))))) ?_ ?_
                    ·exact ⟨by omega, L135, by have := zl7; have := d47.size; have := h47_27.size; omega, f136, f137, f138, f139, f140, f141, f142, f143, o47_27⟩
                    ·first | omega | (simp only []; omega)
                   ·refine WC.condN rfl (decide_eq_false c14) ?_
                    refine WC.exit (E.thenX (E.thenX (E.blkH (E.thenN (WC.region ?_)))))
                    refine W.any (.move rfl) rfl rfl rfl ?_
                    refine W.any (.move rfl) rfl rfl rfl ?_
                    refine W.any (.move rfl) rfl rfl rfl ?_
                    refine W.any (.idxS (k6) Tryz.underlying68 sz73 rfl rfl (hs.isSome seatV_row (by omega)) (rfl) (by omega)) rfl rfl rfl ?_
                    refine W.rd (.vload ag73 rfl (hs.chP Ll7 hsa0) seatV_row (getS seats noSeat (by first | omega | (simp only [List.length_cons, List.length_nil]; omega)))) rfl rfl rfl ?_
                    refine W.ef rfl rfl rfl ?_
                    refine Ef.call go60 rfl rfl (rput_ok (seats.getD k6 noSeat) wl7 f7_4 (f7_6.mono (Nat.zero_le _)) cq6_0 (by omega)) ?_
                    rintro _ w48_5 ⟨rfl, h48_5, k48_5, A48_5, c48_5, hk48_5, bp48_5, o48_5⟩
                    refine ⟨_, rfl, ?_⟩
                    have L144 := Ll7.sub h48_5 (fun i hi hlt => absurd hlt (by subst hi; have := L39.size; have := hg17_1; omega))
                    refine W.nil (E.blkN (E.thenN (WC.region ?_)))
                    refine W.any (.move rfl) rfl rfl rfl ?_
                    refine W.any (.add rfl rfl (by omega)) rfl rfl rfl ?_
                    refine W.any (.assign rfl) rfl rfl rfl ?_
                    refine W.nil ?_
                    have f145 := (f7_0.chP h48_5 (fun hF => (show gp ≠ gp17_1 from by have := f44.lt; omega) hF))
                    have f146 := (f7_1.chP h48_5 (fun q hqq hF => (by subst hF; exact (fun he => by have := (f45.row he).2; omega) hqq)))
                    have f147 := (f7_2.chP h48_5 (fun q hqq hF => (by subst hF; exact (fun he => by have := (f46.row he).2; omega) hqq)))
                    have f148 := (f7_3.chP h48_5 (fun q hqq hF => (by subst hF; exact (fun he => by have := (f47.row he).2; omega) hqq)))
                    have f149 := (f7_5.chP h48_5 (fun q hqq hF => (by subst hF; exact n117_1 hqq)))
                    have f150 := (f7_7.chP h48_5 (fun q hqq hF => (by subst hF; exact n317_1 hqq)))
                    have f151 := (f7_8.chP h48_5 (fun q hqq hF => (by subst hF; exact (fun he => by have := (f7_8.row he).1; have := f3_4.lt; omega) hqq)))
                    refine E.again (k6 + 1, (ld.take k48_5 ++ (seats.getD k6 noSeat) :: ld.drop k48_5), A48_5, c48_5) (.cons rfl (.cons rfl (.cons rfl (.cons rfl (.cons rfl (.cons rfl (.nil _))))))) ?_ ?_
                    ·exact ⟨by omega, hpn.2.2 _ (put_perm _ _ _), put_srt (by omega) hsd hk48_5.2.1 (fun h0 => hk48_5.2.2 h0) hpn.2.1, by have := hld4; simp; omega, fun i hi => (Nat.lt_succ_iff_lt_or_eq.1 hi).elim (hnt i) (fun hh => by subst hh; exact hpn.1), L144, by have := zl6; have := h48_5.size; have := zl0; have := zl1; have := zl2; have := zl3; have := zl4; have := zl7; have := h1_1.size; have := h15_1.size; have := h17_1.size; have := h28_2.size; have := h42_6.size; omega, f145, f146, f147, f148, bp48_5, f149, (o48_5.mono (by omega)), f150, (f151.cast rfl (by have e5 : k7 = 2 := (by omega); rw [e5, comeO_next (by omega)])), (fun he => by have := (o48_5.row he).1; have := f7_4.lt; omega), (Apart.symm (fun q h1 h2 => by have := (f7_8.row h1).2; have := (o48_5.row h2).1; omega))⟩
                    ·first | omega | (simp only []; omega)
                ·refine WC.condN rfl (decide_eq_false c12) ?_
                 have ht4 := not_there hnt (by omega)
                 have h6 : seats.take k6 = seats := List.take_of_length_le (by omega)
                 refine WC.exit (E.thenX (E.thenX (E.blkH (E.thenN (WC.seq (WC.seq (WC.region ?_)))))))
                 refine W.any (.assign rfl) rfl rfl rfl ?_
                 refine W.nil (E.thenN (WC.block ?_))
                 refine WC.loop (ι := Nat) (fun k8 => [(0, .pointer (some ⟨gp, 0, none⟩)), (3, .slice Af nf cf), (12, .pointer (some ⟨gp17_1, 0, none⟩)), (15, .slice (some ⟨g28_2, 0, none⟩) nf nf), (22, .int .i64 (((k8 : Nat) : Int)))]) (fun k8 wl8 => (k8 ≤ nf) ∧ (∀ i, i < k8 → (comeO (goneO s.own.length s.ls old) (seats.take k6)).getD i 0 = fee.getD i 0) ∧ ChP w wl8 (fun k => k = gp ∨ rowOf Am cm = some k ∨ rowOf Al cl = some k ∨ rowOf Ah ch_ = some k) ∧ wl6.heap.size ≤ wl8.heap.size ∧ Blk wl8 gp 71 #[.slice Am m.mine.length cm, .slice Al m.l.length cl, .slice Ah m.hs.length ch_, .int .i64 (m.gone)] ∧ OVec wl8 0 3 iv 1 Am m.mine.length cm m.mine ∧ OVec wl8 0 73 seatV 5 Al m.l.length cl m.l ∧ OVec wl8 0 103 rholdV 5 Ah m.hs.length ch_ m.hs ∧ Blk wl8 gp17_1 71 #[.slice Am17_1 m.mine.length cm17_1, .slice Ay ld.length cy, .slice Ah17_1 m.hs.length ch17_1, .int .i64 ((m.gone + (fee.take k8).sum))] ∧ OVec wl8 w15_1.heap.size 3 iv 1 Am17_1 m.mine.length cm17_1 m.mine ∧ OVec wl8 w15_1.heap.size 73 seatV 5 Ay ld.length cy ld ∧ OVec wl8 w15_1.heap.size 103 rholdV 5 Ah17_1 m.hs.length ch17_1 m.hs ∧ OVec wl8 wl3.heap.size 3 iv 1 (some ⟨g28_2, 0, none⟩) nf nf (comeO (goneO s.own.length s.ls old) (seats.take k6))) (fun k8 => nf - k8) 0 ?_ ?_ ?_
                 ·exact .cons rfl (.cons rfl (.cons rfl (.cons rfl (.cons rfl (.nil _)))))
                 ·exact ⟨Nat.zero_le _, fun i hi => by omega, Ll6, Nat.le_refl _, f6_0, f6_1, f6_2, f6_3, (f6_4.cast (by simp)), f6_5, f6_6, f6_7, f6_8⟩
                 ·rintro k8 wl8 ⟨hk8, hle8, Ll8, zl8, f8_0, f8_1, f8_2, f8_3, f8_4, f8_5, f8_6, f8_7, f8_8⟩
                  have lb8_11 : w15_1.heap.size ≤ wl8.heap.size := Nat.le_trans lb6_13 (by omega)
                  have lb8_12 : w15_1.heap.size ≤ wl8.heap.size := Nat.le_trans lb6_13 (by omega)
                  have lb8_13 : w15_1.heap.size ≤ wl8.heap.size := Nat.le_trans lb6_13 (by omega)
                  have lb8_15 : wl3.heap.size ≤ wl8.heap.size := Nat.le_trans lb6_15 (by omega)
                  have hcs := coins_at hok.2.2 k8 (by omega)
                  have hlo := hG.lostB
                  refine WC.seq (WC.seq (WC.region ?_))
                  refine W.any (.move rfl) rfl rfl rfl ?_
                  refine W.any (.move rfl) rfl rfl rfl ?_
                  refine W.rd (.len Tryz.underlying22 rfl) rfl rfl rfl ?_
                  refine W.any (.lss rfl rfl) rfl rfl rfl ?_
                  refine W.nil (E.thenN ?_)
                  by_cases c15 : ((k8 : Nat) : Int) < ((nf : Nat) : Int)
                  ·refine WC.condY rfl (decide_eq_true c15) ?_
                   refine WC.skip (E.thenN (WC.seq (WC.block (WC.seq (WC.seq ?_)))))
                   refine WC.draw [0, 1, 2, 3, 4, 5, 6, 7, 8] mixed (by kernel_rfl) ?_
                   intro w52 d52
                   have L152 := Ll8.le d52
                   refine G.any rfl rfl (.move rfl) rfl rfl rfl ?_
                   refine G.any rfl rfl (.move rfl) rfl rfl rfl ?_
                   refine G.any rfl rfl (.idxS (k8) Tryz.underlying22 sz3 rfl rfl (o28_2.vec.isSome iv_row (by omega)) (rfl) (by omega)) rfl rfl rfl ?_
                   have f153 := (f8_8.le d52)
                   refine G.rd rfl rfl (.vone (v := .int .i64 (((comeO (goneO s.own.length s.ls old) (seats.take k6)).getD k8 0))) na3 rfl f153.vec iv_row (getS (comeO (goneO s.own.length s.ls old) (seats.take k6)) 0 (by rw [comeO_len, goneO_len]; omega)) rfl) rfl rfl rfl ?_
                   refine G.any rfl rfl (.move rfl) rfl rfl rfl ?_
                   refine G.any rfl rfl (.move rfl) rfl rfl rfl ?_
                   refine G.any rfl rfl (.idxS (k8) Tryz.underlying22 sz3 rfl rfl (hfv.isSome iv_row (by omega)) (rfl) (by omega)) rfl rfl rfl ?_
                   refine G.rd rfl rfl (.vone (v := .int .i64 ((fee.getD k8 0))) na3 rfl (hfv.chP L152 hfa) iv_row (getS fee 0 (by first | omega | (simp only [List.length_cons, List.length_nil]; omega))) rfl) rfl rfl rfl ?_
                   refine G.any rfl rfl (.neq rfl rfl) rfl rfl rfl ?_
                   refine G.nil (E.thenN ?_)
                   by_cases c16 : ((comeO (goneO s.own.length s.ls old) (seats.take k6)).getD k8 0) ≠ (fee.getD k8 0)
                   ·refine WC.condY rfl (decide_eq_true c16) ?_
                    refine WC.seq (WC.region ?_)
                    refine W.any (.assign rfl) rfl rfl rfl ?_
                    refine W.nil (E.thenN (WC.ret (E.thenR (E.blkR (E.thenR (E.thenR (E.blkR (E.thenR ?_))))))))
                    have f154 := (f8_0.le d52)
                    have f155 := (f8_1.le d52)
                    have f156 := (f8_2.le d52)
                    have f157 := (f8_3.le d52)
                    refine E.retG1 rfl rfl ?_
                    have ho : (cutL s old seats fee) = (s, 8) := cutL_no (cutC_8 hok ht5 ht14 ht4 (left_ne (i := k8) (by rw [← h6]; assumption))) (by decide)
                    rw [ho]; exact ⟨L152, _, _, _, _, _, _, m, rfl, ⟨f154, f155, f156, f157, hL.mp, hL.lp, hL.hpp, hL.ml, hL.mh, hL.lh⟩, hR, fun g hg => .inl hg⟩
                   ·refine WC.condN rfl (decide_eq_false c16) ?_
                    refine WC.skip (E.thenN ?_)
                    refine WC.draw [0, 1, 2, 3, 4, 5, 6, 7, 8, 9, 10, 11, 12] mixed (by kernel_rfl) ?_
                    intro w54 d54
                    have L158 := L152.le d54
                    refine G.any rfl rfl (.move rfl) rfl rfl rfl ?_
                    refine G.any rfl rfl (.move rfl) rfl rfl rfl ?_
                    refine G.any rfl rfl (.nilCheck rfl) rfl rfl rfl ?_
                    refine G.any rfl rfl (.field0 fa71_3 rfl) rfl rfl rfl ?_
                    have f159 := (f8_4.le (d52.trans d54))
                    refine G.rd rfl rfl (.loadB (v := .int .i64 ((m.gone + (fee.take k8).sum))) na3 rfl f159 rfl) rfl rfl rfl ?_
                    refine G.any rfl rfl (.move rfl) rfl rfl rfl ?_
                    refine G.any rfl rfl (.move rfl) rfl rfl rfl ?_
                    refine G.any rfl rfl (.idxS (k8) Tryz.underlying22 sz3 rfl rfl (hfv.isSome iv_row (by omega)) (rfl) (by omega)) rfl rfl rfl ?_
                    refine G.rd rfl rfl (.vone (v := .int .i64 ((fee.getD k8 0))) na3 rfl (hfv.chP L158 hfa) iv_row (getS fee 0 (by first | omega | (simp only [List.length_cons, List.length_nil]; omega))) rfl) rfl rfl rfl ?_
                    refine G.any rfl rfl (.add rfl rfl (by have := coin_at hok.2.2 (show k8 < fee.length by omega); omega)) rfl rfl rfl ?_
                    refine G.any rfl rfl (.nilCheck rfl) rfl rfl rfl ?_
                    refine G.any rfl rfl (.field0 fa71_3 rfl) rfl rfl rfl ?_
                    refine G.ef0 rfl rfl rfl rfl ?_
                    refine Ef.store sz3 rfl rfl f159 (by first | decide | (simp; done)) (rfl) ?_
                    intro w54_12 b54_12 h54_12
                    refine ⟨fun h => absurd h (ne_true_of_eq_false (by kernel_rfl)), ?_⟩
                    have b54_12 : Blk w54_12 gp17_1 71 #[.slice Am17_1 m.mine.length cm17_1, .slice Ay ld.length cy, .slice Ah17_1 m.hs.length ch17_1, .int .i64 (((m.gone + (fee.take k8).sum) + (fee.getD k8 0)))] := b54_12
                    have L160 : ChP w w54_12 (fun k => k = gp ∨ rowOf Am cm = some k ∨ rowOf Al cl = some k ∨ rowOf Ah ch_ = some k) := L158.ch h54_12 (fun i hi hlt => by cases hi; exact absurd hlt (by have := L39.size; have := hg17_1; omega))
                    refine G.nil (E.blkN (E.thenN (WC.region ?_)))
                    refine W.any (.move rfl) rfl rfl rfl ?_
                    refine W.any (.add rfl rfl (by omega)) rfl rfl rfl ?_
                    refine W.any (.assign rfl) rfl rfl rfl ?_
                    refine W.nil ?_
                    have f161 := ((f8_0.le (d52.trans d54)).ch h54_12 (fun h => (show gp17_1 ≠ gp from by have := f44.lt; omega) (Option.some.inj h)))
                    have f162 := ((f8_1.le (d52.trans d54)).ch h54_12 (fun q hq => by cases hq; exact (fun he => by have := (f45.row he).2; omega)))
                    have f163 := ((f8_2.le (d52.trans d54)).ch h54_12 (fun q hq => by cases hq; exact (fun he => by have := (f46.row he).2; omega)))
                    have f164 := ((f8_3.le (d52.trans d54)).ch h54_12 (fun q hq => by cases hq; exact (fun he => by have := (f47.row he).2; omega)))
                    have f165 := ((f8_5.le (d52.trans d54)).ch h54_12 (fun q hq => by cases hq; exact n117_1))
                    have f166 := ((f8_6.le (d52.trans d54)).ch h54_12 (fun q hq => by cases hq; exact cq6_0))
                    have f167 := ((f8_7.le (d52.trans d54)).ch h54_12 (fun q hq => by cases hq; exact n317_1))
                    have f168 := ((f153.le d54).ch h54_12 (fun q hq => by cases hq; exact (fun he => by have := (f153.row he).1; have := f3_4.lt; omega)))
                    refine E.again (k8 + 1) (.cons rfl (.cons rfl (.cons rfl (.cons rfl (.cons rfl (.nil _)))))) ?_ ?_
                    ·exact ⟨by omega, fun i hi => (Nat.lt_succ_iff_lt_or_eq.1 hi).elim (hle8 i) (fun hh => by subst hh; omega), L160, by have := zl8; have := d52.size; have := d54.size; have := h54_12.size; omega, f161, f162, f163, f164, (b54_12.cast (by rw [sum_take_next (by omega), ← Int.add_assoc])), f165, f166, f167, f168⟩
                    ·first | omega | (simp only []; omega)
                  ·refine WC.condN rfl (decide_eq_false c15) ?_
                   refine WC.exit (E.thenX (E.thenX (E.blkH (E.thenN (WC.seq (WC.region ?_))))))
                   refine W.any (.move rfl) rfl rfl rfl ?_
                   refine W.any (.move rfl) rfl rfl rfl ?_
                   refine W.any (.nilCheck rfl) rfl rfl rfl ?_
                   refine W.any (.field0 fa71_1 rfl) rfl rfl rfl ?_
                   refine W.rd (.loadB (v := .slice Ay ld.length cy) na68 rfl f8_4 rfl) rfl rfl rfl ?_
                   refine W.any (.nilCheck rfl) rfl rfl rfl ?_
                   refine W.any (.field0 fa71_1 rfl) rfl rfl rfl ?_
                   refine W.ef0 rfl rfl ?_
                   refine Ef.store sz68 rfl rfl f8_0 (by first | decide | (simp; done)) (rfl) ?_
                   intro w55_7 b55_7 h55_7
                   have b55_7 : Blk w55_7 gp 71 #[.slice Am m.mine.length cm, .slice Ay ld.length cy, .slice Ah m.hs.length ch_, .int .i64 (m.gone)] := b55_7
                   have L169 : ChP w w55_7 (fun k => k = gp ∨ rowOf Am cm = some k ∨ rowOf Al cl = some k ∨ rowOf Ah ch_ = some k) := Ll8.ch h55_7 (fun i hi _ => by cases hi; exact Or.inl rfl)
                   refine W.nil (E.thenN (WC.seq (WC.region ?_)))
                   refine W.any (.move rfl) rfl rfl rfl ?_
                   refine W.any (.move rfl) rfl rfl rfl ?_
                   refine W.any (.nilCheck rfl) rfl rfl rfl ?_
                   refine W.any (.field0 fa71_3 rfl) rfl rfl rfl ?_
                   have f170 := (f8_4.ch h55_7 (fun h => (show gp ≠ gp17_1 from by have := f44.lt; omega) (Option.some.inj h)))
                   refine W.rd (.loadB (v := .int .i64 ((m.gone + (fee.take k8).sum))) na3 rfl f170 rfl) rfl rfl rfl ?_
                   refine W.any (.nilCheck rfl) rfl rfl rfl ?_
                   refine W.any (.field0 fa71_3 rfl) rfl rfl rfl ?_
                   refine W.ef0 rfl rfl ?_
                   refine Ef.store sz3 rfl rfl b55_7 (by first | decide | (simp; done)) (rfl) ?_
                   intro w56_7 b56_7 h56_7
                   have b56_7 : Blk w56_7 gp 71 #[.slice Am m.mine.length cm, .slice Ay ld.length cy, .slice Ah m.hs.length ch_, .int .i64 ((m.gone + (fee.take k8).sum))] := b56_7
                   have L171 : ChP w w56_7 (fun k => k = gp ∨ rowOf Am cm = some k ∨ rowOf Al cl = some k ∨ rowOf Ah ch_ = some k) := L169.ch h56_7 (fun i hi _ => by cases hi; exact Or.inl rfl)
                   refine W.nil (E.thenN (WC.seq (WC.region ?_)))
                   refine W.any (.assign rfl) rfl rfl rfl ?_
                   refine W.nil (E.thenN (WC.ret ?_))
                   have f172 := ((f8_1.ch h55_7 (fun q hq => by cases hq; exact hL.mp)).ch h56_7 (fun q hq => by cases hq; exact hL.mp))
                   have f173 := ((f8_6.ch h55_7 (fun q hq => by cases hq; exact (fun he => by have := (f8_6.row he).1; have := f44.lt; omega))).ch h56_7 (fun q hq => by cases hq; exact (fun he => by have := (f8_6.row he).1; have := f44.lt; omega)))
                   have f174 := ((f8_3.ch h55_7 (fun q hq => by cases hq; exact hL.hpp)).ch h56_7 (fun q hq => by cases hq; exact hL.hpp))
                   refine E.retG1 rfl rfl ?_
                   rw [h6] at hle8
                   have hle : comeO (goneO s.own.length s.ls old) seats = fee := left_eq (n := k8) (by rw [comeO_len, goneO_len]; omega) (by omega) hle8
                   have hsum : (fee.take k8).sum = fee.sum := by rw [List.take_of_length_le (by omega)]
                   have ho : (cutL s old seats fee) = _ := cutL_yes (cutC_ok hok ht5 ht14 ht4 hle)
                   rw [ho]; refine ⟨L171, _, _, _, _, _, _, ⟨m.mine, ld, m.hs, m.gone + (fee.take k8).sum⟩, rfl, ⟨b56_7, f172, (f173.mono (Nat.zero_le _)), f174, hL.mp, (fun he => by have := (f173.row he).1; have := f44.lt; omega), hL.hpp, (fun q h1 h2 => by have := (f45.row h1).2; have := (f173.row h2).1; omega), hL.mh, (Apart.symm (fun q h1 h2 => by have := (f47.row h1).2; have := (f173.row h2).1; omega))⟩, ⟨e1, by show m.gone + (fee.take k8).sum = s.lost + fee.sum; rw [hsum, e2], ?_, hsd, hR.holds⟩, ?_⟩
                   ·rw [List.take_of_length_le (show seats.length ≤ k6 by omega)] at hld; exact hld
                   rintro g (q | q | q | q)
                   ·exact .inl (.inl q)
                   ·exact .inl (.inr (.inl q))
                   ·exact .inr ((f173.mono L39.size).row q).1
                   ·exact .inl (.inr (.inr (.inr q)))
end Go.Proofs.YtmgfgbplbemklaaGreat

namespace Go.Proofs.YtmgfgbplbemklaaGreat
open Go Go.Sx Go.Num Go.Gsp Go.Lsp
set_option maxRecDepth 20000
set_option linter.unusedSimpArgs false
set_option linter.unusedVariables false
theorem small_of {s : Led} {m : RLed} (hR : RelL s m) (hG : GoodL s) (hf : s.lh.length ≤ 40) : SmallR m := by
  refine ⟨⟨by rw [hR.mine]; exact hG.len.2, hR.few hG, ?_⟩, ?_, ?_, ?_⟩
  · have := hR.holds.length_eq
    simp only [List.length_map] at this
    omega
  · intro j
    rw [hR.mine]
    exact hG.ownB j
  · intro j hj
    rw [hR.mine]
    exact (hG.seat (hR.at_some hG hj)).2.2.1
  · intro j hj
    have h := (hG.hold (hR.hold_some hG hj)).1.2.1
    have e : (entH (m.hs.getD j noRHold)).2.am = (m.hs.getD j noRHold).am := rfl
    rw [e] at h
    omega
theorem seatsR {s : Led} {m : RLed} (hR : RelL s m) (hG : GoodL s) : m.l = seatsL s.ls := by
  have h1 : m.l = (m.l.map (·.ch)).map (seatAt' s.ls) := by
    rw [List.map_map]
    refine (List.map_id _).symm.trans (List.map_congr_left fun t ht => ?_)
    have h := hR.seats.some hG.keys ht
    show t = seatAt' s.ls t.ch
    unfold seatAt'
    rw [show getG t.ch s.ls = some t from h]
    rfl
  have h2 : (m.l.map (·.ch)).Perm (keysM s.ls) := by
    have h := hR.seats.map (·.1)
    rw [List.map_map, List.map_map] at h
    exact h
  have h3 : (m.l.map (·.ch)).Pairwise (· ≤ ·) := by
    rw [List.pairwise_map]
    exact hR.srt.imp fun h => Int.le_of_lt h
  have h4 : m.l.map (·.ch) = srtI (keysM s.ls) := srt_uniq (h2.trans (srtI_perm _).symm) h3 (srtI_srt _)
  rw [h1, h4]
  rfl
/-- The document's ledger, in the blocks F, all of them new behind 'base'. -/
def RLPool (w : World) (base gp : Nat) (F : Nat → Prop) (s : Led) : Prop := ∃ Am cm Al cl Ah ch_ m, RLL w gp Am cm Al cl Ah ch_ m ∧ RelL s m ∧ GoodL s ∧ (∀ k, F k ↔ RLF gp Am cm Al cl Ah ch_ k) ∧ ∀ k, F k → base ≤ k
section
variable {w w' : World} {base gp : Nat} {F : Nat → Prop} {s : Led}
theorem RLPool.chP {F' : Nat → Prop} (h : RLPool w base gp F s) (hc : ChP w w' F') (hne : ∀ k, F k → ¬ F' k) : RLPool w' base gp F s := by
  obtain ⟨Am, cm, Al, cl, Ah, ch_, m, h1, h2, h3, h4, h5⟩ := h
  exact ⟨Am, cm, Al, cl, Ah, ch_, m, h1.chP hc (fun k hk => hne k ((h4 k).2 hk)), h2, h3, h4, h5⟩
theorem RLPool.ch {r : Option Nat} (h : RLPool w base gp F s) (hc : Ch w w' r) (hne : ∀ k, r = some k → ¬ F k) : RLPool w' base gp F s := h.chP (hc.chP (F := fun k => r = some k) (fun i hi => hi)) (fun k hk hr => hne k hr hk)
theorem RLPool.le (h : RLPool w base gp F s) (hl : Le w w') : RLPool w' base gp F s := h.chP (hl.chP (fun _ => False)) (fun _ _ hf => hf)
theorem RLPool.lt (h : RLPool w base gp F s) {k : Nat} (hk : F k) : k < w.heap.size := by
  obtain ⟨Am, cm, Al, cl, Ah, ch_, m, h1, h2, h3, h4, h5⟩ := h
  exact h1.lt ((h4 k).1 hk)
theorem RLPool.good (h : RLPool w base gp F s) : GoodL s := by
  obtain ⟨Am, cm, Al, cl, Ah, ch_, m, h1, h2, h3, h4, h5⟩ := h
  exact h3
theorem RLPool.old (h : RLPool w base gp F s) {k : Nat} (hk : F k) : base ≤ k := by
  obtain ⟨Am, cm, Al, cl, Ah, ch_, m, h1, h2, h3, h4, h5⟩ := h
  exact h5 k hk
theorem RLPool.size (h : RLPool w base gp F s) : base ≤ w.heap.size := by
  obtain ⟨Am, cm, Al, cl, Ah, ch_, m, h1, h2, h3, h4, h5⟩ := h
  have := h5 gp ((h4 gp).2 (.inl rfl))
  have := h1.hp.lt
  omega
def ActedR (w : World) (base gp : Nat) (F : Nat → Prop) (r : Led × Int) : Ending → World → Prop := fun e w' => ∃ F', e = .returned (.int .i64 r.2) ∧ RLPool w' base gp F' r.1 ∧ GrownL w F F' ∧ ChP w w' F
theorem actedR {Am Al Ah : Option Addr} {cm cl ch_ : Nat} {r : Led × Int} {e : Ending} (hg : GoodL r.1) (hF : ∀ k, F k ↔ RLF gp Am cm Al cl Ah ch_ k) (hb : ∀ k, F k → base ≤ k) (hbw : base ≤ w.heap.size)
    (h : ChP w w' (fun k => k = gp ∨ rowOf Am cm = some k ∨ rowOf Al cl = some k ∨ rowOf Ah ch_ = some k) ∧ ∃ Am' cm' Al' cl' Ah' ch' m', e = .returned (.int .i64 r.2) ∧ RLL w' gp Am' cm' Al' cl' Ah' ch' m' ∧ RelL r.1 m' ∧ ∀ g, RLF gp Am' cm' Al' cl' Ah' ch' g → RLF gp Am cm Al cl Ah ch_ g ∨ w.heap.size ≤ g) : ActedR w base gp F r e w' := by
  obtain ⟨hc, Am', cm', Al', cl', Ah', ch', m', he, h1, h2, h3⟩ := h
  refine ⟨RLF gp Am' cm' Al' cl' Ah' ch', he, ⟨Am', cm', Al', cl', Ah', ch', m', h1, h2, hg, fun _ => Iff.rfl, fun k hk => ?_⟩, fun k hk => ?_, hc.mono fun k hk _ => (hF k).2 hk⟩
  · rcases h3 k hk with h | h
    · exact hb k ((hF k).2 h)
    · omega
  · rcases h3 k hk with h | h
    · exact .inl ((hF k).2 h)
    · exact .inr h
theorem open_rled (t : Seat) (fee : Int) (h : RLPool w base gp F s) (hf : s.lh.length ≤ 40) : Calls Tryz.prog 30 #[.pointer (some ⟨gp, 0, none⟩), .agg (seatV t).toArray, .int .i64 fee] w (ActedR w base gp F (openL s t fee)) := by
  have hbw := h.size
  obtain ⟨Am, cm, Al, cl, Ah, ch_, m, h1, h2, h3, h4, h5⟩ := h
  exact Calls.mono (ropen_ok t fee w h1 (small_of h2 h3 hf) h2 h3) (fun r w' hr => actedR (open_good h3 t fee).1 h4 h5 hbw hr)
theorem close_rled (ch : Int) (fee : Pair) (h : RLPool w base gp F s) (hf : s.lh.length ≤ 40) : Calls Tryz.prog 31 #[.pointer (some ⟨gp, 0, none⟩), .int .i64 ch, .agg (pairV fee).toArray] w (ActedR w base gp F (closeL s ch fee)) := by
  have hbw := h.size
  obtain ⟨Am, cm, Al, cl, Ah, ch_, m, h1, h2, h3, h4, h5⟩ := h
  exact Calls.mono (rclose_ok ch fee w h1 (small_of h2 h3 hf) h2 h3) (fun r w' hr => actedR (close_good h3 ch fee).1 h4 h5 hbw hr)
theorem offer_rled (ch side id am : Int) (pt : Nat) (hpt : pt < 18446744073709551616) (h : RLPool w base gp F s) (hf : s.lh.length ≤ 40) : Calls Tryz.prog 32 #[.pointer (some ⟨gp, 0, none⟩), .int .i64 ch, .int .i64 side, .int .i64 id, .int .i64 am, .int .u64 ((pt : Nat) : Int)] w (ActedR w base gp F (offerL s ch side id am pt)) := by
  have hbw := h.size
  obtain ⟨Am, cm, Al, cl, Ah, ch_, m, h1, h2, h3, h4, h5⟩ := h
  exact Calls.mono (roffer_ok ch side id am pt w h1 (small_of h2 h3 hf) h2 h3 hpt) (fun r w' hr => actedR (offer_good h3 ch side id am pt).1 h4 h5 hbw hr)
theorem settle_rled (ch side id : Int) (sec : Nat) (h : RLPool w base gp F s) (hf : s.lh.length ≤ 40) : Calls Tryz.prog 33 #[.pointer (some ⟨gp, 0, none⟩), .int .i64 ch, .int .i64 side, .int .i64 id, .int .u64 ((sec : Nat) : Int)] w (ActedR w base gp F (settleL s ch side id sec)) := by
  have hbw := h.size
  obtain ⟨Am, cm, Al, cl, Ah, ch_, m, h1, h2, h3, h4, h5⟩ := h
  exact Calls.mono (rsettle_ok ch side id sec w h1 (small_of h2 h3 hf) h2 h3) (fun r w' hr => actedR (settle_good h3 ch side id sec).1 h4 h5 hbw hr)
theorem fail_rled (ch side id : Int) (h : RLPool w base gp F s) (hf : s.lh.length ≤ 40) : Calls Tryz.prog 34 #[.pointer (some ⟨gp, 0, none⟩), .int .i64 ch, .int .i64 side, .int .i64 id] w (ActedR w base gp F (failL s ch side id)) := by
  have hbw := h.size
  obtain ⟨Am, cm, Al, cl, Ah, ch_, m, h1, h2, h3, h4, h5⟩ := h
  exact Calls.mono (rfail_ok ch side id w h1 (small_of h2 h3 hf) h2 h3) (fun r w' hr => actedR (fail_good h3 ch side id).1 h4 h5 hbw hr)
theorem pay_rled {Ag : Option Addr} {ng cg : Nat} {legs : List Leg} (h : RLPool w base gp F s) (hf : s.lh.length ≤ 40) (hg0 : Vec w legV 3 Ag ng legs) (hng : ng ≤ 1000) (hga : ∀ q, blkOf Ag = some q → 0 < ng → q < w.heap.size → ¬ F q) : Calls Tryz.prog 35 #[.pointer (some ⟨gp, 0, none⟩), .slice Ag ng cg] w (ActedR w base gp F (payL s legs)) := by
  have hbw := h.size
  obtain ⟨Am, cm, Al, cl, Ah, ch_, m, h1, h2, h3, h4, h5⟩ := h
  exact Calls.mono (rpay_ok w h1 (small_of h2 h3 hf) h2 h3 hg0 hng (fun q a b c d => hga q a b c ((h4 q).2 d))) (fun r w' hr => actedR (pay_good h3 legs).1 h4 h5 hbw hr)
theorem splice_rled (ch : Int) (d fee : Pair) (h : RLPool w base gp F s) (hf : s.lh.length ≤ 40) : Calls Tryz.prog 36 #[.pointer (some ⟨gp, 0, none⟩), .int .i64 ch, .agg (pairV d).toArray, .agg (pairV fee).toArray] w (ActedR w base gp F (spliceL s ch d fee)) := by
  have hbw := h.size
  obtain ⟨Am, cm, Al, cl, Ah, ch_, m, h1, h2, h3, h4, h5⟩ := h
  exact Calls.mono (rsplice_ok ch d fee w h1 (small_of h2 h3 hf) h2 h3) (fun r w' hr => actedR (splice_good h3 ch d fee).1 h4 h5 hbw hr)
theorem cut_rled {Ao As Af : Option Addr} {no co ns cS nf cf : Nat} {old fee : List Int} {ss : List Seat} (h : RLPool w base gp F s) (hf : s.lh.length ≤ 40) (ho : Vec w iv 1 Ao no old) (hs : Vec w seatV 5 As ns ss) (hfv : Vec w iv 1 Af nf fee) (hno : no ≤ 1000) (hns : ns ≤ 1000) (hnf : nf ≤ 1000)
    (hoa : ∀ q, blkOf Ao = some q → 0 < no → q < w.heap.size → ¬ F q) (hsa : ∀ q, blkOf As = some q → 0 < ns → q < w.heap.size → ¬ F q) (hfa : ∀ q, blkOf Af = some q → 0 < nf → q < w.heap.size → ¬ F q) :
    Calls Tryz.prog 37 #[.pointer (some ⟨gp, 0, none⟩), .slice Ao no co, .slice As ns cS, .slice Af nf cf] w (ActedR w base gp F (cutL s old ss fee)) := by
  have hbw := h.size
  obtain ⟨Am, cm, Al, cl, Ah, ch_, m, h1, h2, h3, h4, h5⟩ := h
  exact Calls.mono (rcut_ok w h1 (small_of h2 h3 hf) h2 h3 ho hs hfv hno hns hnf (fun q a b c d => hoa q a b c ((h4 q).2 d)) (fun q a b c d => hsa q a b c ((h4 q).2 d)) (fun q a b c d => hfa q a b c ((h4 q).2 d))) (fun r w' hr => actedR (cut_good h3 old ss fee).1 h4 h5 hbw hr)
theorem own_rled (party : Int) (h : RLPool w base gp F s) (hf : s.lh.length ≤ 40) : Calls Tryz.prog 42 #[.pointer (some ⟨gp, 0, none⟩), .int .i64 party] w fun r w' => r = .returned (.int .i64 (ownL s.own party)) ∧ Le w w' := by
  obtain ⟨Am, cm, Al, cl, Ah, ch_, m, h1, h2, h3, h4, h5⟩ := h
  have := rown_ok party w h1 (small_of h2 h3 hf)
  rwa [h2.mine] at this
theorem lost_rled (h : RLPool w base gp F s) (hf : s.lh.length ≤ 40) : Calls Tryz.prog 39 #[.pointer (some ⟨gp, 0, none⟩)] w fun r w' => r = .returned (.int .i64 s.lost) ∧ Le w w' := by
  obtain ⟨Am, cm, Al, cl, Ah, ch_, m, h1, h2, h3, h4, h5⟩ := h
  have := rlost_ok w h1 (small_of h2 h3 hf)
  rwa [h2.gone] at this
theorem held_rled (ch side : Int) (h : RLPool w base gp F s) (hf : s.lh.length ≤ 40) : Calls Tryz.prog 41 #[.pointer (some ⟨gp, 0, none⟩), .int .i64 ch, .int .i64 side] w fun r w' => r = .returned (.int .i64 (heldL s.lh ch side)) ∧ Le w w' := by
  obtain ⟨Am, cm, Al, cl, Ah, ch_, m, h1, h2, h3, h4, h5⟩ := h
  have := rheld_ok ch side w h1 (small_of h2 h3 hf)
  rwa [h2.held] at this
theorem worth_rled (party : Int) (h : RLPool w base gp F s) (hf : s.lh.length ≤ 40) : Calls Tryz.prog 43 #[.pointer (some ⟨gp, 0, none⟩), .int .i64 party] w fun r w' => r = .returned (.int .i64 (worthL s.own s.ls s.lh party)) ∧ Le w w' := by
  obtain ⟨Am, cm, Al, cl, Ah, ch_, m, h1, h2, h3, h4, h5⟩ := h
  have := rworth_ok party w h1 (small_of h2 h3 hf)
  rwa [h2.worth] at this
theorem total_rled (h : RLPool w base gp F s) (hf : s.lh.length ≤ 40) : Calls Tryz.prog 40 #[.pointer (some ⟨gp, 0, none⟩)] w fun r w' => r = .returned (.int .i64 (s.all - s.lost)) ∧ Le w w' := by
  obtain ⟨Am, cm, Al, cl, Ah, ch_, m, h1, h2, h3, h4, h5⟩ := h
  have := rtotal_ok w h1 (small_of h2 h3 hf) h2 h3
  have e : s.all - s.lost = totalL s.own s.ls s.lh s.own.length := by rw [total_all h3]; unfold Led.all; omega
  rw [e]
  exact this
theorem seats_rled (h : RLPool w base gp F s) (hf : s.lh.length ≤ 40) : Calls Tryz.prog 38 #[.pointer (some ⟨gp, 0, none⟩)] w fun r w' => ∃ (A : Option Addr) (c : Nat), r = .returned (.slice A (seatsL s.ls).length c) ∧ OVec w' w.heap.size 73 seatV 5 A (seatsL s.ls).length c (seatsL s.ls) ∧ Le w w' := by
  obtain ⟨Am, cm, Al, cl, Ah, ch_, m, h1, h2, h3, h4, h5⟩ := h
  have := rseats_ok w h1 (small_of h2 h3 hf)
  rwa [seatsR h2 h3] at this
theorem new_rled {Aw : Option Addr} {nw cw : Nat} {own : List Int} (w : World) (hO : Vec w iv 1 Aw nw own) (hn : newOk own) : Calls Tryz.prog 7 #[.slice Aw nw cw] w fun r w' => ∃ gp F, r = .returned (.pointer (some ⟨gp, 0, none⟩)) ∧ RLPool w' w.heap.size gp F ⟨own, [], 0, [], 0, 0⟩ ∧ Le w w' := by
  refine Calls.mono (rlnew_ok w hO) ?_
  rintro r w' (⟨h, _⟩ | ⟨_, gp, Am, cm, rfl, h1, h2, h3⟩)
  · exact absurd hn h
  · exact ⟨gp, RLF gp Am cm none 0 none 0, rfl, ⟨Am, cm, none, 0, none, 0, _, h1, ⟨rfl, rfl, RelM.nil, List.Pairwise.nil, RelM.nil⟩, (new_good hn).1, fun _ => Iff.rfl, h2⟩, h3⟩
theorem new_rnone {Aw : Option Addr} {nw cw : Nat} {own : List Int} (w : World) (hO : Vec w iv 1 Aw nw own) (hn : ¬ newOk own) : Calls Tryz.prog 7 #[.slice Aw nw cw] w fun r w' => r = .returned (.pointer none) ∧ Le w w' := by
  refine Calls.mono (rlnew_ok w hO) ?_
  rintro r w' (⟨_, h1, h2⟩ | ⟨h, _⟩)
  · exact ⟨h1, h2⟩
  · exact absurd h hn
end
theorem delM_len {κ β : Type} [DecidableEq κ] (key : κ) (l : List (Nat × κ × β)) : (delM key l).length ≤ l.length := List.length_filter_le _ _
theorem actL_more (s : Led) (a : LAct) : (actL s a).1.lh.length ≤ s.lh.length + 1 := by
  unfold actL
  split
  · unfold openL; repeat (first | omega | (split <;> try (simp only; omega)))
  split
  · unfold closeL; repeat (first | omega | (split <;> try (simp only; omega)))
  split
  · unfold offerL
    split
    · simp only; omega
    · split
      · simp only; omega
      · split
        · simp only; omega
        · split
          · simp only; omega
          · simp only [List.length_append, List.length_cons, List.length_nil]; omega
  split
  · unfold settleL
    split
    · simp only; omega
    · split
      · simp only; omega
      · exact Nat.le_trans (delM_len _ _) (Nat.le_succ _)
  split
  · unfold failL
    split
    · simp only; omega
    · exact Nat.le_trans (delM_len _ _) (Nat.le_succ _)
  split
  · unfold payL; split <;> (simp only; omega)
  split
  · unfold spliceL; repeat (first | omega | (split <;> try (simp only; omega)))
  · unfold cutL; split <;> (simp only; omega)
end Go.Proofs.YtmgfgbplbemklaaGreat

namespace Go.Proofs.YtmgfgbplbemklaaGreat
open Go Go.Sx Go.Num Go.Gsp Go.Lsp
set_option maxRecDepth 20000
set_option linter.unusedSimpArgs false
set_option linter.unusedVariables false
theorem told46_ok {w0 : World} {base gp : Nat} {F : Nat → Prop} {s : Led} {a : LAct} {w : World} (hP : RLPool w base gp F s) (hx : ActOk w0 a ∧ Le w0 w ∧ w0.heap.size ≤ base) (hf : fewA a) (hfw : s.lh.length ≤ 40) : Calls Tryz.prog 9 #[.pointer (some ⟨gp, 0, none⟩), .agg (lactV a).toArray] w (ActedR w base gp F (actL s a)) := by
 obtain ⟨ha, hl0, hb0⟩ := hx
 have v1 := (ha.legs).le hl0
 have v2 := (ha.old).le hl0
 have v3 := (ha.seats).le hl0
 have v4 := (ha.fees).le hl0
 have nv1 : ∀ q, blkOf a.lA = some q → 0 < a.lN → q < w.heap.size → ¬ F q := fun q h1 h2 _ hF => by have := ha.legs.blk_lt legV_row h2 h1; have := hP.old hF; omega
 have nv2 : ∀ q, blkOf a.oA = some q → 0 < a.oN → q < w.heap.size → ¬ F q := fun q h1 h2 _ hF => by have := ha.old.blk_lt iv_row h2 h1; have := hP.old hF; omega
 have nv3 : ∀ q, blkOf a.sA = some q → 0 < a.sN → q < w.heap.size → ¬ F q := fun q h1 h2 _ hF => by have := ha.seats.blk_lt seatV_row h2 h1; have := hP.old hF; omega
 have nv4 : ∀ q, blkOf a.fA = some q → 0 < a.fN → q < w.heap.size → ¬ F q := fun q h1 h2 _ hF => by have := ha.fees.blk_lt iv_row h2 h1; have := hP.old hF; omega
 have hdo := ha.do_
 have hpt := ha.pt
 obtain ⟨f1, f2, f3, f4⟩ := hf
 have hv1 := v1.1; have hv3 := v3.1
 refine enter Tryz.func9 rfl rfl ?_
 have L0 := ChP.refl w (F)
 refine WC.seq (WC.region ?_)
 refine W.ef rfl rfl rfl ?_
 refine Ef.boxA rfl ?_
 intro g0_0 w0_0 hg0_0 b0_0 h0_0
 have L1 := L0.le h0_0
 have b0_0 : Blk w0_0 g0_0 39 (lactV a).toArray := b0_0
 refine W.any (.assign rfl) rfl rfl rfl ?_
 refine W.nil (E.thenN (WC.seq (WC.region ?_)))
 refine W.any (.assign rfl) rfl rfl rfl ?_
 refine W.nil (E.thenN (WC.seq (WC.seq (WC.region ?_))))
 refine W.any (.assign rfl) rfl rfl rfl ?_
 refine W.nil (E.thenN (WC.block ?_))
 have f2 := (hP.le h0_0)
 refine WC.loop (ι := Nat × ((Option Addr)) × Nat) (fun ⟨k, Ae, ce⟩ => [(0, .pointer (some ⟨gp, 0, none⟩)), (3, .pointer (some ⟨g0_0, 0, none⟩)), (5, .slice Ae k ce), (6, .int .i64 (((k : Nat) : Int)))]) (fun ⟨k, Ae, ce⟩ wl0 => (k ≤ a.sN) ∧ ChP w wl0 (F) ∧ w0_0.heap.size ≤ wl0.heap.size ∧ RLPool wl0 base gp F s ∧ Blk wl0 g0_0 39 (lactV a).toArray ∧ OVec wl0 w0_0.heap.size 73 seatV 5 Ae k ce (a.seats.take k)) (fun ⟨k, Ae, ce⟩ => a.sN - k) (0, none, 0) ?_ ?_ ?_
 ·exact .cons rfl (.cons rfl (.cons rfl (.cons rfl (.nil _))))
 ·exact ⟨Nat.zero_le _, L1, Nat.le_refl _, f2, b0_0, (OVec.nil w0_0 w0_0.heap.size 73 seatV 5 none)⟩
 ·rintro ⟨k, Ae, ce⟩ wl0 ⟨hk, Ll0, zl0, f0_0, f0_1, f0_2⟩
  have lb0_7 : w0_0.heap.size ≤ wl0.heap.size := by omega
  refine WC.seq (WC.seq (WC.region ?_))
  refine W.any (.move rfl) rfl rfl rfl ?_
  refine W.any (.field0 fa39_12 rfl) rfl rfl rfl ?_
  refine W.rd (.loadB (v := .slice a.sA a.sN a.sC) na37 rfl f0_1 rfl) rfl rfl rfl ?_
  refine W.rd (.len Tryz.underlying37 rfl) rfl rfl rfl ?_
  refine W.any (.lss rfl rfl) rfl rfl rfl ?_
  refine W.nil (E.thenN ?_)
  by_cases c0 : ((k : Nat) : Int) < ((a.sN : Nat) : Int)
  ·refine WC.condY rfl (decide_eq_true c0) ?_
   refine WC.skip (E.thenN (WC.seq (WC.block (WC.seq (WC.region ?_)))))
   refine W.any (.field0 fa39_12 rfl) rfl rfl rfl ?_
   refine W.rd (.loadB (v := .slice a.sA a.sN a.sC) na37 rfl f0_1 rfl) rfl rfl rfl ?_
   refine W.any (.move rfl) rfl rfl rfl ?_
   refine W.any (.idxS (k) Tryz.underlying37 sz44 rfl rfl (v3.isSome seatV_row (by omega)) (rfl) (by omega)) rfl rfl rfl ?_
   refine W.rd (.vload ag44 rfl (v3.chP Ll0 nv3) seatV_row (getS a.seats noSeat (by first | omega | (simp only [List.length_cons, List.length_nil]; omega)))) rfl rfl rfl ?_
   refine W.ef rfl rfl rfl ?_
   refine Ef.allocA z44 ?_
   intro g5_5 w5_5 hg5_5 b5_5 h5_5
   have L3 := Ll0.le h5_5
   have b5_5 : Blk w5_5 g5_5 44 (seatV noSeat).toArray := b5_5
   refine W.ef0 rfl rfl ?_
   refine Ef.storeAll sz44 (by rfl) rfl rfl b5_5 (by simp only [List.size_toArray, seatV_row.len]) (seatV_row.one (a.seats.getD k noSeat)) ?_
   intro w5_6 b5_6 h5_6
   have b5_6 : Blk w5_6 g5_5 44 (seatV (a.seats.getD k noSeat)).toArray := b5_6
   have L4 : ChP w w5_6 (F) := L3.ch h5_6 (fun i hi hlt => by cases hi; exact absurd hlt (by have := Ll0.size; have := hg5_5; omega))
   refine W.nil (E.thenN (WC.region ?_))
   refine W.any (.move rfl) rfl rfl rfl ?_
   refine W.any (.field0 fa44_0 rfl) rfl rfl rfl ?_
   refine W.rd (.loadB (v := .int .i64 ((a.seats.getD k noSeat).ch)) na3 rfl b5_6 rfl) rfl rfl rfl ?_
   refine W.any (.field0 fa44_1 rfl) rfl rfl rfl ?_
   refine W.rd (.bpart [.int .i64 ((a.seats.getD k noSeat).p0), .int .i64 ((a.seats.getD k noSeat).p1)] ag35 rfl (by decide) rfl b5_6 rfl) rfl rfl rfl ?_
   refine W.any (.field0 fa44_2 rfl) rfl rfl rfl ?_
   refine W.rd (.bpart [.int .i64 ((a.seats.getD k noSeat).h0), .int .i64 ((a.seats.getD k noSeat).h1)] ag35 rfl (by decide) rfl b5_6 rfl) rfl rfl rfl ?_
   refine W.any (.buildP (seatV (⟨(a.seats.getD k noSeat).ch, (a.seats.getD k noSeat).p0, (a.seats.getD k noSeat).p1, (a.seats.getD k noSeat).h0, (a.seats.getD k noSeat).h1⟩ : Seat)) pl73 z73 rfl rfl) rfl rfl rfl ?_
   refine W.ef rfl rfl rfl ?_
   refine Ef.buildSliceV (len := 1) [_] Tryz.underlying68 el73 rfl (by simp [Value.cells, seatV_row.len]) rfl (by decide) (by decide) ?_
   intro g6_8 w6_8 hg6_8 b6_8 h6_8
   have L5 := L4.le h6_8
   have b6_8 : Blk w6_8 g6_8 73 (([(⟨(a.seats.getD k noSeat).ch, (a.seats.getD k noSeat).p0, (a.seats.getD k noSeat).p1, (a.seats.getD k noSeat).h0, (a.seats.getD k noSeat).h1⟩ : Seat)]).map seatV).flatten.toArray := b6_8
   have o6_8 : OVec w6_8 w5_6.heap.size 73 seatV 5 (some ⟨g6_8, 0, none⟩) 1 1 ([(⟨(a.seats.getD k noSeat).ch, (a.seats.getD k noSeat).p0, (a.seats.getD k noSeat).p1, (a.seats.getD k noSeat).h0, (a.seats.getD k noSeat).h1⟩ : Seat)]) := b6_8.ovec hg6_8 seatV_row rfl rfl (by decide)
   have f6 := (((f0_2.le h5_5).ch h5_6 (fun q hq => by cases hq; exact (fun he => by have := (f0_2.row he).2; omega))).le h6_8)
   refine W.ef rfl rfl rfl ?_
   refine Ef.vpush (a := (⟨(a.seats.getD k noSeat).ch, (a.seats.getD k noSeat).p0, (a.seats.getD k noSeat).p1, (a.seats.getD k noSeat).h0, (a.seats.getD k noSeat).h1⟩ : Seat)) Tryz.underlying68 el73 Tryz.underlying68 seatV_row rfl f6 rfl b6_8 (by omega) (by unfold maxLen; omega) (by have := lb0_7; have := h5_5.size; have := h5_6.size; have := h6_8.size; omega) ?_
   intro A6_9 c6_9 w6_9 o6_9 h6_9 at6_9
   have L7 : ChP w w6_9 (F) := L5.ch h6_9 (fun i hi hlt => absurd hlt (by have := (f6.row hi).1; have := L1.size; omega))
   refine W.any (.assign rfl) rfl rfl rfl ?_
   refine W.nil (E.blkN (E.thenN (WC.region ?_)))
   refine W.any (.move rfl) rfl rfl rfl ?_
   refine W.any (.add rfl rfl (by omega)) rfl rfl rfl ?_
   refine W.any (.assign rfl) rfl rfl rfl ?_
   refine W.nil ?_
   have f8 := ((((f0_0.le h5_5).ch h5_6 (fun q hqq hF => by cases hqq; have := f0_0.lt hF;  have := hg5_5; omega)).le h6_8).ch h6_9 (fun q hqq hF => by have := (f6.row hqq).1; have := f2.lt hF;  omega))
   have f9 := ((((f0_1.le h5_5).ch h5_6 (fun h => (show g5_5 ≠ g0_0 from by have := f0_1.lt; omega) (Option.some.inj h))).le h6_8).ch h6_9 (fun he => by have := (f6.row he).1; have := b0_0.lt; omega))
   refine E.again (k + 1, A6_9, c6_9) (.cons rfl (.cons rfl (.cons rfl (.cons rfl (.nil _))))) ?_ ?_
   ·exact ⟨by omega, L7, by have := zl0; have := h5_5.size; have := h5_6.size; have := h6_8.size; have := h6_9.size; omega, f8, f9, (o6_9.cast rfl (by rw [take_next (z := noSeat) (by omega)]))⟩
   ·first | omega | (simp only []; omega)
  ·refine WC.condN rfl (decide_eq_false c0) ?_
   have o10 := f0_2.cast (m' := k) (ys := a.seats) (rfl) (List.take_of_length_le (by omega))
   refine WC.exit (E.thenX (E.thenX (E.blkH (E.thenN (WC.seq (WC.region ?_))))))
   refine W.any (.assign rfl) rfl rfl rfl ?_
   refine W.nil (E.thenN (WC.seq (WC.seq (WC.region ?_))))
   refine W.any (.assign rfl) rfl rfl rfl ?_
   refine W.nil (E.thenN (WC.block ?_))
   refine WC.loop (ι := Nat × ((Option Addr)) × Nat) (fun ⟨j, Ag, cg⟩ => [(0, .pointer (some ⟨gp, 0, none⟩)), (3, .pointer (some ⟨g0_0, 0, none⟩)), (5, .slice Ae k ce), (8, .slice Ag j cg), (9, .int .i64 (((j : Nat) : Int)))]) (fun ⟨j, Ag, cg⟩ wl1 => (j ≤ a.lN) ∧ ChP w wl1 (F) ∧ wl0.heap.size ≤ wl1.heap.size ∧ RLPool wl1 base gp F s ∧ Blk wl1 g0_0 39 (lactV a).toArray ∧ OVec wl1 w0_0.heap.size 73 seatV 5 Ae k ce a.seats ∧ OVec wl1 wl0.heap.size 75 legV 3 Ag j cg (a.legs.take j)) (fun ⟨j, Ag, cg⟩ => a.lN - j) (0, none, 0) ?_ ?_ ?_
   ·exact .cons rfl (.cons rfl (.cons rfl (.cons rfl (.cons rfl (.nil _)))))
   ·exact ⟨Nat.zero_le _, Ll0, Nat.le_refl _, f0_0, f0_1, o10, (OVec.nil wl0 wl0.heap.size 75 legV 3 none)⟩
   ·rintro ⟨j, Ag, cg⟩ wl1 ⟨hj, Ll1, zl1, f1_0, f1_1, f1_2, f1_3⟩
    have lb1_7 : w0_0.heap.size ≤ wl1.heap.size := Nat.le_trans lb0_7 (by omega)
    have lb1_11 : wl0.heap.size ≤ wl1.heap.size := by omega
    refine WC.seq (WC.seq (WC.region ?_))
    refine W.any (.move rfl) rfl rfl rfl ?_
    refine W.any (.field0 fa39_10 rfl) rfl rfl rfl ?_
    refine W.rd (.loadB (v := .slice a.lA a.lN a.lC) na36 rfl f1_1 rfl) rfl rfl rfl ?_
    refine W.rd (.len Tryz.underlying36 rfl) rfl rfl rfl ?_
    refine W.any (.lss rfl rfl) rfl rfl rfl ?_
    refine W.nil (E.thenN ?_)
    by_cases c1 : ((j : Nat) : Int) < ((a.lN : Nat) : Int)
    ·refine WC.condY rfl (decide_eq_true c1) ?_
     refine WC.skip (E.thenN (WC.seq (WC.block (WC.seq (WC.region ?_)))))
     refine W.any (.field0 fa39_10 rfl) rfl rfl rfl ?_
     refine W.rd (.loadB (v := .slice a.lA a.lN a.lC) na36 rfl f1_1 rfl) rfl rfl rfl ?_
     refine W.any (.move rfl) rfl rfl rfl ?_
     refine W.any (.idxS (j) Tryz.underlying36 sz53 rfl rfl (v1.isSome legV_row (by omega)) (rfl) (by omega)) rfl rfl rfl ?_
     refine W.rd (.vload ag53 rfl (v1.chP Ll1 nv1) legV_row (getS a.legs noLeg (by first | omega | (simp only [List.length_cons, List.length_nil]; omega)))) rfl rfl rfl ?_
     refine W.ef rfl rfl rfl ?_
     refine Ef.allocA z53 ?_
     intro g11_5 w11_5 hg11_5 b11_5 h11_5
     have L11 := Ll1.le h11_5
     have b11_5 : Blk w11_5 g11_5 53 (legV noLeg).toArray := b11_5
     refine W.ef0 rfl rfl ?_
     refine Ef.storeAll sz53 (by rfl) rfl rfl b11_5 (by simp only [List.size_toArray, legV_row.len]) (legV_row.one (a.legs.getD j noLeg)) ?_
     intro w11_6 b11_6 h11_6
     have b11_6 : Blk w11_6 g11_5 53 (legV (a.legs.getD j noLeg)).toArray := b11_6
     have L12 : ChP w w11_6 (F) := L11.ch h11_6 (fun i hi hlt => by cases hi; exact absurd hlt (by have := Ll1.size; have := hg11_5; omega))
     refine W.nil (E.thenN (WC.region ?_))
     refine W.any (.move rfl) rfl rfl rfl ?_
     refine W.any (.field0 fa53_0 rfl) rfl rfl rfl ?_
     refine W.rd (.loadB (v := .int .i64 ((a.legs.getD j noLeg).ch)) na3 rfl b11_6 rfl) rfl rfl rfl ?_
     refine W.any (.field0 fa53_1 rfl) rfl rfl rfl ?_
     refine W.rd (.loadB (v := .int .i64 ((a.legs.getD j noLeg).side)) na3 rfl b11_6 rfl) rfl rfl rfl ?_
     refine W.any (.field0 fa53_2 rfl) rfl rfl rfl ?_
     refine W.rd (.loadB (v := .int .i64 ((a.legs.getD j noLeg).am)) na3 rfl b11_6 rfl) rfl rfl rfl ?_
     refine W.any (.buildP (legV (⟨(a.legs.getD j noLeg).ch, (a.legs.getD j noLeg).side, (a.legs.getD j noLeg).am⟩ : Leg)) pl75 z75 rfl rfl) rfl rfl rfl ?_
     refine W.ef rfl rfl rfl ?_
     refine Ef.buildSliceV (len := 1) [_] Tryz.underlying74 el75 rfl (by simp [Value.cells, legV_row.len]) rfl (by decide) (by decide) ?_
     intro g12_8 w12_8 hg12_8 b12_8 h12_8
     have L13 := L12.le h12_8
     have b12_8 : Blk w12_8 g12_8 75 (([(⟨(a.legs.getD j noLeg).ch, (a.legs.getD j noLeg).side, (a.legs.getD j noLeg).am⟩ : Leg)]).map legV).flatten.toArray := b12_8
     have o12_8 : OVec w12_8 w11_6.heap.size 75 legV 3 (some ⟨g12_8, 0, none⟩) 1 1 ([(⟨(a.legs.getD j noLeg).ch, (a.legs.getD j noLeg).side, (a.legs.getD j noLeg).am⟩ : Leg)]) := b12_8.ovec hg12_8 legV_row rfl rfl (by decide)
     have f14 := (((f1_3.le h11_5).ch h11_6 (fun q hq => by cases hq; exact (fun he => by have := (f1_3.row he).2; omega))).le h12_8)
     refine W.ef rfl rfl rfl ?_
     refine Ef.vpush (a := (⟨(a.legs.getD j noLeg).ch, (a.legs.getD j noLeg).side, (a.legs.getD j noLeg).am⟩ : Leg)) Tryz.underlying74 el75 Tryz.underlying74 legV_row rfl f14 rfl b12_8 (by omega) (by unfold maxLen; omega) (by have := lb1_11; have := h11_5.size; have := h11_6.size; have := h12_8.size; omega) ?_
     intro A12_9 c12_9 w12_9 o12_9 h12_9 at12_9
     have L15 : ChP w w12_9 (F) := L13.ch h12_9 (fun i hi hlt => absurd hlt (by have := (f14.row hi).1; have := Ll0.size; omega))
     refine W.any (.assign rfl) rfl rfl rfl ?_
     refine W.nil (E.blkN (E.thenN (WC.region ?_)))
     refine W.any (.move rfl) rfl rfl rfl ?_
     refine W.any (.add rfl rfl (by omega)) rfl rfl rfl ?_
     refine W.any (.assign rfl) rfl rfl rfl ?_
     refine W.nil ?_
     have f16 := ((((f1_0.le h11_5).ch h11_6 (fun q hqq hF => by cases hqq; have := f1_0.lt hF;  have := hg11_5; omega)).le h12_8).ch h12_9 (fun q hqq hF => by have := (f14.row hqq).1; have := f0_0.lt hF;  omega))
     have f17 := ((((f1_1.le h11_5).ch h11_6 (fun h => (show g11_5 ≠ g0_0 from by have := f1_1.lt; omega) (Option.some.inj h))).le h12_8).ch h12_9 (fun he => by have := (f14.row he).1; have := f0_1.lt; omega))
     have f18 := ((((f1_2.le h11_5).ch h11_6 (fun q hq => by cases hq; exact (fun he => by have := (f1_2.row he).2; omega))).le h12_8).ch h12_9 ((Apart.symm (fun q h1 h2 => by have := (f0_2.row h1).2; have := (f14.row h2).1; omega))))
     refine E.again (j + 1, A12_9, c12_9) (.cons rfl (.cons rfl (.cons rfl (.cons rfl (.cons rfl (.nil _)))))) ?_ ?_
     ·exact ⟨by omega, L15, by have := zl1; have := h11_5.size; have := h11_6.size; have := h12_8.size; have := h12_9.size; omega, f16, f17, f18, (o12_9.cast rfl (by rw [take_next (z := noLeg) (by omega)]))⟩
     ·first | omega | (simp only []; omega)
    ·refine WC.condN rfl (decide_eq_false c1) ?_
     have o19 := f1_3.cast (m' := j) (ys := a.legs) (rfl) (List.take_of_length_le (by omega))
     refine WC.exit (E.thenX (E.thenX (E.blkH (E.thenN (WC.seq (WC.seq (WC.region ?_)))))))
     refine W.any (.field0 fa39_0 rfl) rfl rfl rfl ?_
     refine W.rd (.loadB (v := .int .i64 (a.do_)) na3 rfl f1_1 rfl) rfl rfl rfl ?_
     refine W.any (.and7 rfl rfl (by omega)) rfl rfl rfl ?_
     refine W.nil (E.thenN (WC.block (WC.seq (WC.region ?_))))
     refine W.any (.eql rfl rfl) rfl rfl rfl ?_
     refine W.any (.assign rfl) rfl rfl rfl ?_
     refine W.nil (E.thenN ?_)
     by_cases c2 : (a.do_ % 8) = 0
     ·refine WC.condY rfl (decide_eq_true c2) ?_
      refine WC.seq (WC.region ?_)
      refine W.any (.move rfl) rfl rfl rfl ?_
      refine W.any (.field0 fa39_1 rfl) rfl rfl rfl ?_
      refine W.rd (.loadB (v := .int .i64 (a.ch)) na3 rfl f1_1 rfl) rfl rfl rfl ?_
      refine W.any (.field0 fa39_7 rfl) rfl rfl rfl ?_
      refine W.rd (.bpart [.int .i64 (a.party.a), .int .i64 (a.party.b)] ag35 rfl (by decide) rfl f1_1 rfl) rfl rfl rfl ?_
      refine W.any (.field0 fa39_8 rfl) rfl rfl rfl ?_
      refine W.rd (.bpart [.int .i64 (a.pair.a), .int .i64 (a.pair.b)] ag35 rfl (by decide) rfl f1_1 rfl) rfl rfl rfl ?_
      refine W.any (.buildP (seatV (⟨a.ch, a.party.a, a.party.b, a.pair.a, a.pair.b⟩ : Seat)) pl73 z73 rfl rfl) rfl rfl rfl ?_
      refine W.any (.field0 fa39_9 rfl) rfl rfl rfl ?_
      refine W.any (.idxAo (0) Tryz.underlying35 sz3 rfl rfl (rfl) (by omega)) rfl rfl rfl ?_
      refine W.rd (.loadB (v := .int .i64 (a.fee.a)) na3 rfl f1_1 rfl) rfl rfl rfl ?_
      refine W.ef rfl rfl rfl ?_
      refine Ef.call go30 rfl rfl (open_rled (s := s) (⟨a.ch, a.party.a, a.party.b, a.pair.a, a.pair.b⟩ : Seat) a.fee.a f1_0 hfw) ?_
      rintro _ w15_11 ⟨F15_11, rfl, p15_11, g15_11, h15_11⟩
      refine ⟨_, rfl, ?_⟩
      have L20 := Ll1.sub h15_11 (fun i hi hlt => hi)
      have zq21n := (show ¬ F g0_0 from (fun hF => by have := hP.lt hF;  have := hg0_0; omega))
      have zq21 := f1_1.chP h15_11 zq21n
      have zq21g : ¬ F15_11 g0_0 := fun hF => (g15_11 _ hF).elim zq21n (fun hz => by have := f1_1.lt; omega)
      have zq22n := (show ∀ g, rowOf Ae ce = some g → ¬ F g from (fun g hg hF => by have := f2.lt hF;  have := (f1_2.row hg).1; omega))
      have zq22 := f1_2.chP h15_11 zq22n
      have zq22g : ∀ g, rowOf Ae ce = some g → ¬ F15_11 g := fun g hg hF => (g15_11 _ hF).elim (zq22n g hg) (fun hz => by have := (f1_2.row hg).2; omega)
      have zq23n := (show ∀ g, rowOf Ag cg = some g → ¬ F g from (fun g hg hF => by have := f0_0.lt hF;  have := (o19.row hg).1; omega))
      have zq23 := o19.chP h15_11 zq23n
      have zq23g : ∀ g, rowOf Ag cg = some g → ¬ F15_11 g := fun g hg hF => (g15_11 _ hF).elim (zq23n g hg) (fun hz => by have := (o19.row hg).2; omega)
      refine W.any (.assign rfl) rfl rfl rfl ?_
      refine W.nil (E.thenN (WC.ret (E.blkR (E.thenR ?_))))
      refine E.retG1 rfl rfl ?_
      have ea : actL s a = (openL s (⟨a.ch, a.party.a, a.party.b, a.pair.a, a.pair.b⟩ : Seat) a.fee.a) := (by unfold actL LAct.seat; rw [if_pos c2])
      rw [ea]
      exact ⟨_, rfl, p15_11, fun k hk => (g15_11 k hk).imp_right (fun h => Nat.le_trans (Ll1).size h), L20⟩
     ·refine WC.condN rfl (decide_eq_false c2) ?_
      refine WC.seq (WC.region ?_)
      refine W.any (.eql rfl rfl) rfl rfl rfl ?_
      refine W.any (.assign rfl) rfl rfl rfl ?_
      refine W.nil (E.thenN ?_)
      by_cases c3 : (a.do_ % 8) = 1
      ·refine WC.condY rfl (decide_eq_true c3) ?_
       refine WC.seq (WC.region ?_)
       refine W.any (.move rfl) rfl rfl rfl ?_
       refine W.any (.field0 fa39_1 rfl) rfl rfl rfl ?_
       refine W.rd (.loadB (v := .int .i64 (a.ch)) na3 rfl f1_1 rfl) rfl rfl rfl ?_
       refine W.any (.field0 fa39_9 rfl) rfl rfl rfl ?_
       refine W.rd (.bpart [.int .i64 (a.fee.a), .int .i64 (a.fee.b)] ag35 rfl (by decide) rfl f1_1 rfl) rfl rfl rfl ?_
       refine W.ef rfl rfl rfl ?_
       refine Ef.call go31 rfl rfl (close_rled (s := s) a.ch (⟨a.fee.a, a.fee.b⟩ : Pair) f1_0 hfw) ?_
       rintro _ w17_5 ⟨F17_5, rfl, p17_5, g17_5, h17_5⟩
       refine ⟨_, rfl, ?_⟩
       have L24 := Ll1.sub h17_5 (fun i hi hlt => hi)
       have zq25n := (show ¬ F g0_0 from (fun hF => by have := hP.lt hF;  have := hg0_0; omega))
       have zq25 := f1_1.chP h17_5 zq25n
       have zq25g : ¬ F17_5 g0_0 := fun hF => (g17_5 _ hF).elim zq25n (fun hz => by have := f1_1.lt; omega)
       have zq26n := (show ∀ g, rowOf Ae ce = some g → ¬ F g from (fun g hg hF => by have := f2.lt hF;  have := (f1_2.row hg).1; omega))
       have zq26 := f1_2.chP h17_5 zq26n
       have zq26g : ∀ g, rowOf Ae ce = some g → ¬ F17_5 g := fun g hg hF => (g17_5 _ hF).elim (zq26n g hg) (fun hz => by have := (f1_2.row hg).2; omega)
       have zq27n := (show ∀ g, rowOf Ag cg = some g → ¬ F g from (fun g hg hF => by have := f0_0.lt hF;  have := (o19.row hg).1; omega))
       have zq27 := o19.chP h17_5 zq27n
       have zq27g : ∀ g, rowOf Ag cg = some g → ¬ F17_5 g := fun g hg hF => (g17_5 _ hF).elim (zq27n g hg) (fun hz => by have := (o19.row hg).2; omega)
       refine W.any (.assign rfl) rfl rfl rfl ?_
       refine W.nil (E.thenN (WC.ret (E.blkR (E.thenR ?_))))
       refine E.retG1 rfl rfl ?_
       have ea : actL s a = (closeL s a.ch (⟨a.fee.a, a.fee.b⟩ : Pair)) := (by unfold actL LAct.seat; rw [if_neg c2, if_pos c3])
       rw [ea]
       exact ⟨_, rfl, p17_5, fun k hk => (g17_5 k hk).imp_right (fun h => Nat.le_trans (Ll1).size h), L24⟩
      ·refine WC.condN rfl (decide_eq_false c3) ?_
       refine WC.seq (WC.region ?_)
       refine W.any (.eql rfl rfl) rfl rfl rfl ?_
       refine W.any (.assign rfl) rfl rfl rfl ?_
       refine W.nil (E.thenN ?_)
       by_cases c4 : (a.do_ % 8) = 2
       ·refine WC.condY rfl (decide_eq_true c4) ?_
        refine WC.seq (WC.region ?_)
        refine W.any (.move rfl) rfl rfl rfl ?_
        refine W.any (.field0 fa39_1 rfl) rfl rfl rfl ?_
        refine W.rd (.loadB (v := .int .i64 (a.ch)) na3 rfl f1_1 rfl) rfl rfl rfl ?_
        refine W.any (.field0 fa39_2 rfl) rfl rfl rfl ?_
        refine W.rd (.loadB (v := .int .i64 (a.side)) na3 rfl f1_1 rfl) rfl rfl rfl ?_
        refine W.any (.field0 fa39_3 rfl) rfl rfl rfl ?_
        refine W.rd (.loadB (v := .int .i64 (a.id)) na3 rfl f1_1 rfl) rfl rfl rfl ?_
        refine W.any (.field0 fa39_4 rfl) rfl rfl rfl ?_
        refine W.rd (.loadB (v := .int .i64 (a.am)) na3 rfl f1_1 rfl) rfl rfl rfl ?_
        refine W.any (.field0 fa39_5 rfl) rfl rfl rfl ?_
        refine W.rd (.loadB (v := .int .u64 (((a.pt : Nat) : Int))) na33 rfl f1_1 rfl) rfl rfl rfl ?_
        refine W.ef rfl rfl rfl ?_
        refine Ef.call go32 rfl rfl (offer_rled (s := s) a.ch a.side a.id a.am a.pt (hpt) f1_0 hfw) ?_
        rintro _ w19_11 ⟨F19_11, rfl, p19_11, g19_11, h19_11⟩
        refine ⟨_, rfl, ?_⟩
        have L28 := Ll1.sub h19_11 (fun i hi hlt => hi)
        have zq29n := (show ¬ F g0_0 from (fun hF => by have := hP.lt hF;  have := hg0_0; omega))
        have zq29 := f1_1.chP h19_11 zq29n
        have zq29g : ¬ F19_11 g0_0 := fun hF => (g19_11 _ hF).elim zq29n (fun hz => by have := f1_1.lt; omega)
        have zq30n := (show ∀ g, rowOf Ae ce = some g → ¬ F g from (fun g hg hF => by have := f2.lt hF;  have := (f1_2.row hg).1; omega))
        have zq30 := f1_2.chP h19_11 zq30n
        have zq30g : ∀ g, rowOf Ae ce = some g → ¬ F19_11 g := fun g hg hF => (g19_11 _ hF).elim (zq30n g hg) (fun hz => by have := (f1_2.row hg).2; omega)
        have zq31n := (show ∀ g, rowOf Ag cg = some g → ¬ F g from (fun g hg hF => by have := f0_0.lt hF;  have := (o19.row hg).1; omega))
        have zq31 := o19.chP h19_11 zq31n
        have zq31g : ∀ g, rowOf Ag cg = some g → ¬ F19_11 g := fun g hg hF => (g19_11 _ hF).elim (zq31n g hg) (fun hz => by have := (o19.row hg).2; omega)
        refine W.any (.assign rfl) rfl rfl rfl ?_
        refine W.nil (E.thenN (WC.ret (E.blkR (E.thenR ?_))))
        refine E.retG1 rfl rfl ?_
        have ea : actL s a = (offerL s a.ch a.side a.id a.am a.pt) := (by unfold actL LAct.seat; rw [if_neg c2, if_neg c3, if_pos c4])
        rw [ea]
        exact ⟨_, rfl, p19_11, fun k hk => (g19_11 k hk).imp_right (fun h => Nat.le_trans (Ll1).size h), L28⟩
       ·refine WC.condN rfl (decide_eq_false c4) ?_
        refine WC.seq (WC.region ?_)
        refine W.any (.eql rfl rfl) rfl rfl rfl ?_
        refine W.any (.assign rfl) rfl rfl rfl ?_
        refine W.nil (E.thenN ?_)
        by_cases c5 : (a.do_ % 8) = 3
        ·refine WC.condY rfl (decide_eq_true c5) ?_
         refine WC.seq (WC.region ?_)
         refine W.any (.move rfl) rfl rfl rfl ?_
         refine W.any (.field0 fa39_1 rfl) rfl rfl rfl ?_
         refine W.rd (.loadB (v := .int .i64 (a.ch)) na3 rfl f1_1 rfl) rfl rfl rfl ?_
         refine W.any (.field0 fa39_2 rfl) rfl rfl rfl ?_
         refine W.rd (.loadB (v := .int .i64 (a.side)) na3 rfl f1_1 rfl) rfl rfl rfl ?_
         refine W.any (.field0 fa39_3 rfl) rfl rfl rfl ?_
         refine W.rd (.loadB (v := .int .i64 (a.id)) na3 rfl f1_1 rfl) rfl rfl rfl ?_
         refine W.any (.field0 fa39_6 rfl) rfl rfl rfl ?_
         refine W.rd (.loadB (v := .int .u64 (((a.sec : Nat) : Int))) na34 rfl f1_1 rfl) rfl rfl rfl ?_
         refine W.ef rfl rfl rfl ?_
         refine Ef.call go33 rfl rfl (settle_rled (s := s) a.ch a.side a.id a.sec f1_0 hfw) ?_
         rintro _ w21_9 ⟨F21_9, rfl, p21_9, g21_9, h21_9⟩
         refine ⟨_, rfl, ?_⟩
         have L32 := Ll1.sub h21_9 (fun i hi hlt => hi)
         have zq33n := (show ¬ F g0_0 from (fun hF => by have := hP.lt hF;  have := hg0_0; omega))
         have zq33 := f1_1.chP h21_9 zq33n
         have zq33g : ¬ F21_9 g0_0 := fun hF => (g21_9 _ hF).elim zq33n (fun hz => by have := f1_1.lt; omega)
         have zq34n := (show ∀ g, rowOf Ae ce = some g → ¬ F g from (fun g hg hF => by have := f2.lt hF;  have := (f1_2.row hg).1; omega))
         have zq34 := f1_2.chP h21_9 zq34n
         have zq34g : ∀ g, rowOf Ae ce = some g → ¬ F21_9 g := fun g hg hF => (g21_9 _ hF).elim (zq34n g hg) (fun hz => by have := (f1_2.row hg).2; omega)
         have zq35n := (show ∀ g, rowOf Ag cg = some g → ¬ F g from (fun g hg hF => by have := f0_0.lt hF;  have := (o19.row hg).1; omega))
         have zq35 := o19.chP h21_9 zq35n
         have zq35g : ∀ g, rowOf Ag cg = some g → ¬ F21_9 g := fun g hg hF => (g21_9 _ hF).elim (zq35n g hg) (fun hz => by have := (o19.row hg).2; omega)
         refine W.any (.assign rfl) rfl rfl rfl ?_
         refine W.nil (E.thenN (WC.ret (E.blkR (E.thenR ?_))))
         refine E.retG1 rfl rfl ?_
         have ea : actL s a = (settleL s a.ch a.side a.id a.sec) := (by unfold actL LAct.seat; rw [if_neg c2, if_neg c3, if_neg c4, if_pos c5])
         rw [ea]
         exact ⟨_, rfl, p21_9, fun k hk => (g21_9 k hk).imp_right (fun h => Nat.le_trans (Ll1).size h), L32⟩
        ·refine WC.condN rfl (decide_eq_false c5) ?_
         refine WC.seq (WC.region ?_)
         refine W.any (.eql rfl rfl) rfl rfl rfl ?_
         refine W.any (.assign rfl) rfl rfl rfl ?_
         refine W.nil (E.thenN ?_)
         by_cases c6 : (a.do_ % 8) = 4
         ·refine WC.condY rfl (decide_eq_true c6) ?_
          refine WC.seq (WC.region ?_)
          refine W.any (.move rfl) rfl rfl rfl ?_
          refine W.any (.field0 fa39_1 rfl) rfl rfl rfl ?_
          refine W.rd (.loadB (v := .int .i64 (a.ch)) na3 rfl f1_1 rfl) rfl rfl rfl ?_
          refine W.any (.field0 fa39_2 rfl) rfl rfl rfl ?_
          refine W.rd (.loadB (v := .int .i64 (a.side)) na3 rfl f1_1 rfl) rfl rfl rfl ?_
          refine W.any (.field0 fa39_3 rfl) rfl rfl rfl ?_
          refine W.rd (.loadB (v := .int .i64 (a.id)) na3 rfl f1_1 rfl) rfl rfl rfl ?_
          refine W.ef rfl rfl rfl ?_
          refine Ef.call go34 rfl rfl (fail_rled (s := s) a.ch a.side a.id f1_0 hfw) ?_
          rintro _ w23_7 ⟨F23_7, rfl, p23_7, g23_7, h23_7⟩
          refine ⟨_, rfl, ?_⟩
          have L36 := Ll1.sub h23_7 (fun i hi hlt => hi)
          have zq37n := (show ¬ F g0_0 from (fun hF => by have := hP.lt hF;  have := hg0_0; omega))
          have zq37 := f1_1.chP h23_7 zq37n
          have zq37g : ¬ F23_7 g0_0 := fun hF => (g23_7 _ hF).elim zq37n (fun hz => by have := f1_1.lt; omega)
          have zq38n := (show ∀ g, rowOf Ae ce = some g → ¬ F g from (fun g hg hF => by have := f2.lt hF;  have := (f1_2.row hg).1; omega))
          have zq38 := f1_2.chP h23_7 zq38n
          have zq38g : ∀ g, rowOf Ae ce = some g → ¬ F23_7 g := fun g hg hF => (g23_7 _ hF).elim (zq38n g hg) (fun hz => by have := (f1_2.row hg).2; omega)
          have zq39n := (show ∀ g, rowOf Ag cg = some g → ¬ F g from (fun g hg hF => by have := f0_0.lt hF;  have := (o19.row hg).1; omega))
          have zq39 := o19.chP h23_7 zq39n
          have zq39g : ∀ g, rowOf Ag cg = some g → ¬ F23_7 g := fun g hg hF => (g23_7 _ hF).elim (zq39n g hg) (fun hz => by have := (o19.row hg).2; omega)
          refine W.any (.assign rfl) rfl rfl rfl ?_
          refine W.nil (E.thenN (WC.ret (E.blkR (E.thenR ?_))))
          refine E.retG1 rfl rfl ?_
          have ea : actL s a = (failL s a.ch a.side a.id) := (by unfold actL LAct.seat; rw [if_neg c2, if_neg c3, if_neg c4, if_neg c5, if_pos c6])
          rw [ea]
          exact ⟨_, rfl, p23_7, fun k hk => (g23_7 k hk).imp_right (fun h => Nat.le_trans (Ll1).size h), L36⟩
         ·refine WC.condN rfl (decide_eq_false c6) ?_
          refine WC.seq (WC.region ?_)
          refine W.any (.eql rfl rfl) rfl rfl rfl ?_
          refine W.any (.assign rfl) rfl rfl rfl ?_
          refine W.nil (E.thenN ?_)
          by_cases c7 : (a.do_ % 8) = 5
          ·refine WC.condY rfl (decide_eq_true c7) ?_
           refine WC.seq (WC.region ?_)
           refine W.any (.move rfl) rfl rfl rfl ?_
           refine W.any (.move rfl) rfl rfl rfl ?_
           refine W.ef rfl rfl rfl ?_
           refine Ef.call go35 rfl rfl (pay_rled (s := s) (cg := cg) f1_0 hfw o19.vec (by omega) (fun q h0 h1 h2 => (show ∀ g, rowOf Ag cg = some g → ¬ F g from (fun g hg hF => by have := f0_0.lt hF;  have := (o19.row hg).1; omega)) q (rowOf_of h0 (by have := o19.cap; omega)))) ?_
           rintro _ w25_2 ⟨F25_2, rfl, p25_2, g25_2, h25_2⟩
           refine ⟨_, rfl, ?_⟩
           have L40 := Ll1.sub h25_2 (fun i hi hlt => hi)
           have zq41n := (show ¬ F g0_0 from (fun hF => by have := hP.lt hF;  have := hg0_0; omega))
           have zq41 := f1_1.chP h25_2 zq41n
           have zq41g : ¬ F25_2 g0_0 := fun hF => (g25_2 _ hF).elim zq41n (fun hz => by have := f1_1.lt; omega)
           have zq42n := (show ∀ g, rowOf Ae ce = some g → ¬ F g from (fun g hg hF => by have := f2.lt hF;  have := (f1_2.row hg).1; omega))
           have zq42 := f1_2.chP h25_2 zq42n
           have zq42g : ∀ g, rowOf Ae ce = some g → ¬ F25_2 g := fun g hg hF => (g25_2 _ hF).elim (zq42n g hg) (fun hz => by have := (f1_2.row hg).2; omega)
           have zq43n := (show ∀ g, rowOf Ag cg = some g → ¬ F g from (fun g hg hF => by have := f0_0.lt hF;  have := (o19.row hg).1; omega))
           have zq43 := o19.chP h25_2 zq43n
           have zq43g : ∀ g, rowOf Ag cg = some g → ¬ F25_2 g := fun g hg hF => (g25_2 _ hF).elim (zq43n g hg) (fun hz => by have := (o19.row hg).2; omega)
           refine W.any (.assign rfl) rfl rfl rfl ?_
           refine W.nil (E.thenN (WC.ret (E.blkR (E.thenR ?_))))
           refine E.retG1 rfl rfl ?_
           have ea : actL s a = (payL s a.legs) := (by unfold actL LAct.seat; rw [if_neg c2, if_neg c3, if_neg c4, if_neg c5, if_neg c6, if_pos c7])
           rw [ea]
           exact ⟨_, rfl, p25_2, fun k hk => (g25_2 k hk).imp_right (fun h => Nat.le_trans (Ll1).size h), L40⟩
          ·refine WC.condN rfl (decide_eq_false c7) ?_
           refine WC.seq (WC.region ?_)
           refine W.any (.eql rfl rfl) rfl rfl rfl ?_
           refine W.any (.assign rfl) rfl rfl rfl ?_
           refine W.nil (E.thenN ?_)
           by_cases c8 : (a.do_ % 8) = 6
           ·refine WC.condY rfl (decide_eq_true c8) ?_
            refine WC.seq (WC.region ?_)
            refine W.any (.move rfl) rfl rfl rfl ?_
            refine W.any (.field0 fa39_1 rfl) rfl rfl rfl ?_
            refine W.rd (.loadB (v := .int .i64 (a.ch)) na3 rfl f1_1 rfl) rfl rfl rfl ?_
            refine W.any (.field0 fa39_8 rfl) rfl rfl rfl ?_
            refine W.rd (.bpart [.int .i64 (a.pair.a), .int .i64 (a.pair.b)] ag35 rfl (by decide) rfl f1_1 rfl) rfl rfl rfl ?_
            refine W.any (.field0 fa39_9 rfl) rfl rfl rfl ?_
            refine W.rd (.bpart [.int .i64 (a.fee.a), .int .i64 (a.fee.b)] ag35 rfl (by decide) rfl f1_1 rfl) rfl rfl rfl ?_
            refine W.ef rfl rfl rfl ?_
            refine Ef.call go36 rfl rfl (splice_rled (s := s) a.ch (⟨a.pair.a, a.pair.b⟩ : Pair) (⟨a.fee.a, a.fee.b⟩ : Pair) f1_0 hfw) ?_
            rintro _ w27_7 ⟨F27_7, rfl, p27_7, g27_7, h27_7⟩
            refine ⟨_, rfl, ?_⟩
            have L44 := Ll1.sub h27_7 (fun i hi hlt => hi)
            have zq45n := (show ¬ F g0_0 from (fun hF => by have := hP.lt hF;  have := hg0_0; omega))
            have zq45 := f1_1.chP h27_7 zq45n
            have zq45g : ¬ F27_7 g0_0 := fun hF => (g27_7 _ hF).elim zq45n (fun hz => by have := f1_1.lt; omega)
            have zq46n := (show ∀ g, rowOf Ae ce = some g → ¬ F g from (fun g hg hF => by have := f2.lt hF;  have := (f1_2.row hg).1; omega))
            have zq46 := f1_2.chP h27_7 zq46n
            have zq46g : ∀ g, rowOf Ae ce = some g → ¬ F27_7 g := fun g hg hF => (g27_7 _ hF).elim (zq46n g hg) (fun hz => by have := (f1_2.row hg).2; omega)
            have zq47n := (show ∀ g, rowOf Ag cg = some g → ¬ F g from (fun g hg hF => by have := f0_0.lt hF;  have := (o19.row hg).1; omega))
            have zq47 := o19.chP h27_7 zq47n
            have zq47g : ∀ g, rowOf Ag cg = some g → ¬ F27_7 g := fun g hg hF => (g27_7 _ hF).elim (zq47n g hg) (fun hz => by have := (o19.row hg).2; omega)
            refine W.any (.assign rfl) rfl rfl rfl ?_
            refine W.nil (E.thenN (WC.ret (E.blkR (E.thenR ?_))))
            refine E.retG1 rfl rfl ?_
            have ea : actL s a = (spliceL s a.ch (⟨a.pair.a, a.pair.b⟩ : Pair) (⟨a.fee.a, a.fee.b⟩ : Pair)) := (by unfold actL LAct.seat; rw [if_neg c2, if_neg c3, if_neg c4, if_neg c5, if_neg c6, if_neg c7, if_pos c8])
            rw [ea]
            exact ⟨_, rfl, p27_7, fun k hk => (g27_7 k hk).imp_right (fun h => Nat.le_trans (Ll1).size h), L44⟩
           ·refine WC.condN rfl (decide_eq_false c8) ?_
            refine WC.skip (E.blkN (E.thenN (WC.seq (WC.region ?_))))
            refine W.any (.move rfl) rfl rfl rfl ?_
            refine W.any (.field0 fa39_11 rfl) rfl rfl rfl ?_
            refine W.rd (.loadB (v := .slice a.oA a.oN a.oC) na22 rfl f1_1 rfl) rfl rfl rfl ?_
            refine W.any (.move rfl) rfl rfl rfl ?_
            refine W.any (.field0 fa39_13 rfl) rfl rfl rfl ?_
            refine W.rd (.loadB (v := .slice a.fA a.fN a.fC) na22 rfl f1_1 rfl) rfl rfl rfl ?_
            refine W.ef rfl rfl rfl ?_
            refine Ef.call go37 rfl rfl (cut_rled (s := s) (co := a.oC) (cS := ce) (cf := a.fC) f1_0 hfw (v2.chP Ll1 nv2) f1_2.vec (v4.chP Ll1 nv4) (by omega) (by omega) (by omega) (fun q h0 h1 h2 => nv2 q h0 h1 (v2.blk_lt iv_row h1 h0)) (fun q h0 h1 h2 => (show ∀ g, rowOf Ae ce = some g → ¬ F g from (fun g hg hF => by have := f2.lt hF;  have := (f1_2.row hg).1; omega)) q (rowOf_of h0 (by have := f1_2.cap; omega))) (fun q h0 h1 h2 => nv4 q h0 h1 (v4.blk_lt iv_row h1 h0))) ?_
            rintro _ w28_6 ⟨F28_6, rfl, p28_6, g28_6, h28_6⟩
            refine ⟨_, rfl, ?_⟩
            have L48 := Ll1.sub h28_6 (fun i hi hlt => hi)
            have zq49n := (show ¬ F g0_0 from (fun hF => by have := hP.lt hF;  have := hg0_0; omega))
            have zq49 := f1_1.chP h28_6 zq49n
            have zq49g : ¬ F28_6 g0_0 := fun hF => (g28_6 _ hF).elim zq49n (fun hz => by have := f1_1.lt; omega)
            have zq50n := (show ∀ g, rowOf Ae ce = some g → ¬ F g from (fun g hg hF => by have := f2.lt hF;  have := (f1_2.row hg).1; omega))
            have zq50 := f1_2.chP h28_6 zq50n
            have zq50g : ∀ g, rowOf Ae ce = some g → ¬ F28_6 g := fun g hg hF => (g28_6 _ hF).elim (zq50n g hg) (fun hz => by have := (f1_2.row hg).2; omega)
            have zq51n := (show ∀ g, rowOf Ag cg = some g → ¬ F g from (fun g hg hF => by have := f0_0.lt hF;  have := (o19.row hg).1; omega))
            have zq51 := o19.chP h28_6 zq51n
            have zq51g : ∀ g, rowOf Ag cg = some g → ¬ F28_6 g := fun g hg hF => (g28_6 _ hF).elim (zq51n g hg) (fun hz => by have := (o19.row hg).2; omega)
            refine W.any (.assign rfl) rfl rfl rfl ?_
            refine W.nil (E.thenN (WC.ret ?_))
            refine E.retG1 rfl rfl ?_
            have ea : actL s a = (cutL s a.old a.seats a.fees) := (by unfold actL LAct.seat; rw [if_neg c2, if_neg c3, if_neg c4, if_neg c5, if_neg c6, if_neg c7, if_neg c8])
            rw [ea]
            exact ⟨_, rfl, p28_6, fun k hk => (g28_6 k hk).imp_right (fun h => Nat.le_trans (Ll1).size h), L48⟩
end Go.Proofs.YtmgfgbplbemklaaGreat

