/- The statement OnionTells walked: it answers true and leaves old memory as it was. -/
import Derived.Test.YtpmjdiccekkadaaLaw31b
import Derived.Test.YtpmjdiccekkadaaRef31p
namespace Go.Proofs.Ytpmjdiccekkadaa
open Go Go.Sx Go.Hsp Go.Num Go.Osp
set_option maxRecDepth 20000
set_option maxHeartbeats 2000000 in
theorem OnionTells_ok (kk : Nat) (hkk : kk < 18446744073709551616) {A : Option Addr} {n c : Nat} {xs : List Byte} (w : World) (hS : Sb w A n xs) (hc : n ≤ c) : Calls Try.prog 9 #[.int .u64 ((kk : Nat) : Int), .slice A n c] w fun e w' => e = .returned (.bool true) ∧ Le w w' := by
  refine enter Try.func9 rfl rfl ?_
  have L0 := Le.refl w
  refine WC.seq ?_
  refine WC.region ?_
  refine W.any (.assign rfl) rfl rfl rfl ?_
  refine W.nil ?_
  refine E.thenN ?_
  refine WC.seq ?_
  refine WC.region ?_
  refine W.ef rfl rfl rfl ?_
  refine Ef.call go26 rfl rfl (small31_ok w) ?_
  rintro _ w1_0 ⟨rfl, h1_0⟩
  refine ⟨_, rfl, ?_⟩
  have L1_0 := L0.trans h1_0
  refine W.any (.assign rfl) rfl rfl rfl ?_
  refine W.nil ?_
  refine E.thenN ?_
  refine WC.seq ?_
  refine WC.seq ?_
  refine WC.region ?_
  refine W.any (.move rfl) rfl rfl rfl ?_
  refine W.rd (.len Try.underlying24 rfl) rfl rfl rfl ?_
  refine W.any (.gtr rfl rfl) rfl rfl rfl ?_
  refine W.nil ?_
  refine E.thenN ?_
  refine WC.cond rfl (fun c0 => ?_) (fun c0 => ?_)
  · refine WC.seq ?_
    refine WC.region ?_
    refine W.any (.move rfl) rfl rfl rfl ?_
    refine W.any (.assign rfl) rfl rfl rfl ?_
    refine W.nil ?_
    refine E.thenN ?_
    refine WC.ret ?_
    refine E.thenR ?_
    refine E.ret1 rfl rfl ?_
    exact ⟨rfl, L1_0⟩
  · refine WC.skip ?_
    refine E.thenN ?_
    refine WC.seq ?_
    refine WC.region ?_
    refine W.any (.move rfl) rfl rfl rfl ?_
    refine W.any (.move rfl) rfl rfl rfl ?_
    refine W.ef rfl rfl rfl ?_
    refine Ef.call go31 rfl rfl (peel_ok kk hkk w1_0 (hS.le L1_0) hc) ?_
    rintro _ w4_2 ⟨A4, m4, c4, e, s4, h4_2⟩
    subst e
    refine ⟨_, rfl, ?_⟩
    have L4_2 := L1_0.trans h4_2
    refine W.any (.move rfl) rfl rfl rfl ?_
    refine W.any (.extract rfl rfl) rfl rfl rfl ?_
    refine W.any (.extract rfl rfl) rfl rfl rfl ?_
    refine W.any (.extract rfl rfl) rfl rfl rfl ?_
    refine W.any (.extract rfl rfl) rfl rfl rfl ?_
    refine W.ef rfl rfl rfl ?_
    refine Ef.allocA z51 ?_
    intro g4_8 w4_8 hg4_8 b4_8 h4_8
    have L4_8 := L4_2.trans h4_8
    refine W.ef rfl rfl rfl ?_
    refine Ef.allocA z23 ?_
    intro g4_9 w4_9 hg4_9 b4_9 h4_9
    have L4_9 := L4_8.trans h4_9
    refine W.ef0 rfl rfl ?_
    refine Ef.storeAll sz51 (by rfl) rfl rfl (b4_8.le h4_9) (by rfl) (hopV_one _) ?_
    intro w4_10 b4_10 h4_10
    have L4_10 : Le w w4_10 := L4_9.then_ h4_10 (fun q hq => by cases hq; exact Nat.le_trans L4_2.size hg4_8)
    refine W.any (.assign rfl) rfl rfl rfl ?_
    refine W.ef0 rfl rfl ?_
    refine Ef.storeAll sz23 (by simp [peel_sum_len]) rfl rfl (b4_9.ch h4_10 (by simp; have := b4_8.lt; omega)) (by simp [peel_sum_len]) (all_u8v _) ?_
    intro w4_12 b4_12 h4_12
    have L4_12 : Le w w4_12 := L4_10.then_ h4_12 (fun q hq => by cases hq; exact Nat.le_trans L4_8.size hg4_9)
    have bh4 := b4_10.ch h4_12 (by simp; have := b4_8.lt; omega)
    have LP4 : Le w4_2 w4_12 := ((h4_8.trans h4_9).then_ h4_10 (fun q hq => by cases hq; exact hg4_8)).then_ h4_12 (fun q hq => by cases hq; exact Nat.le_trans h4_8.size hg4_9)
    refine W.any (.assign rfl) rfl rfl rfl ?_
    refine W.nil ?_
    refine E.thenN ?_
    refine WC.seq ?_
    refine WC.region ?_
    refine W.any (.move rfl) rfl rfl rfl ?_
    refine W.any (.move rfl) rfl rfl rfl ?_
    refine W.ef rfl rfl rfl ?_
    refine Ef.call go32 rfl rfl (rpeel_ok kk hkk w4_12 (hS.le L4_12) hc) ?_
    rintro _ w5_2 ⟨A5, m5, c5, e, s5, h5_2⟩
    subst e
    refine ⟨_, rfl, ?_⟩
    have L5_2 := L4_12.trans h5_2
    refine W.any (.move rfl) rfl rfl rfl ?_
    refine W.any (.extract rfl rfl) rfl rfl rfl ?_
    refine W.any (.extract rfl rfl) rfl rfl rfl ?_
    refine W.any (.extract rfl rfl) rfl rfl rfl ?_
    refine W.any (.extract rfl rfl) rfl rfl rfl ?_
    refine W.ef rfl rfl rfl ?_
    refine Ef.allocA z51 ?_
    intro g5_8 w5_8 hg5_8 b5_8 h5_8
    have L5_8 := L5_2.trans h5_8
    refine W.ef rfl rfl rfl ?_
    refine Ef.allocA z23 ?_
    intro g5_9 w5_9 hg5_9 b5_9 h5_9
    have L5_9 := L5_8.trans h5_9
    refine W.ef0 rfl rfl ?_
    refine Ef.storeAll sz51 (by rfl) rfl rfl (b5_8.le h5_9) (by rfl) (hopV_one _) ?_
    intro w5_10 b5_10 h5_10
    have L5_10 : Le w w5_10 := L5_9.then_ h5_10 (fun q hq => by cases hq; exact Nat.le_trans L5_2.size hg5_8)
    refine W.any (.assign rfl) rfl rfl rfl ?_
    refine W.ef0 rfl rfl ?_
    refine Ef.storeAll sz23 (by simp [peel_sum_len]) rfl rfl (b5_9.ch h5_10 (by simp; have := b5_8.lt; omega)) (by simp [peel_sum_len]) (all_u8v _) ?_
    intro w5_12 b5_12 h5_12
    have L5_12 : Le w w5_12 := L5_10.then_ h5_12 (fun q hq => by cases hq; exact Nat.le_trans L5_8.size hg5_9)
    have bh5 := b5_10.ch h5_12 (by simp; have := b5_8.lt; omega)
    have LP5 : Le w5_2 w5_12 := ((h5_8.trans h5_9).then_ h5_10 (fun q hq => by cases hq; exact hg5_8)).then_ h5_12 (fun q hq => by cases hq; exact Nat.le_trans h5_8.size hg5_9)
    refine W.any (.assign rfl) rfl rfl rfl ?_
    refine W.nil ?_
    refine E.thenN ?_
    refine WC.seq ?_
    refine WC.region ?_
    refine W.any (.move rfl) rfl rfl rfl ?_
    refine W.any (.move rfl) rfl rfl rfl ?_
    refine W.rdg (.loadAll ag51 (by rfl) rfl (bh4.le (h5_2.trans LP5))) rfl rfl rfl (rfl) rfl rfl ?_
    refine W.rdg (.loadAll ag51 (by rfl) rfl (bh5)) rfl rfl rfl (rfl) rfl rfl ?_
    refine W.rdg (Any.rd (.dec (.eqA eg51 rfl rfl (eqv_hop (d := 9998) _ _)) (decide_eq_true rfl)) _) rfl rfl rfl (rfl) rfl rfl ?_
    refine W.any (.pickT rfl rfl rfl) rfl rfl rfl ?_
    refine W.any (.move rfl) rfl rfl rfl ?_
    refine W.rdg (Any.rd (.move rfl) _) rfl rfl rfl (rfl) rfl rfl ?_
    refine W.rdg (.toStr Try.underlying24 Try.underlying5 Try.underlying9 rfl (((s4.le LP4).le (h5_2.trans LP5)).sb)) rfl rfl rfl (rfl) rfl rfl ?_
    refine W.rdg (Any.rd (.move rfl) _) rfl rfl rfl (rfl) rfl rfl ?_
    refine W.rdg (.toStr Try.underlying24 Try.underlying5 Try.underlying9 rfl ((s5.le LP5).sb)) rfl rfl rfl (rfl) rfl rfl ?_
    refine W.rdg (Any.rd (.dec (.eqlStr rfl rfl) (show _ = true from by rw [strOf_eq]; exact decide_eq_true rfl)) _) rfl rfl rfl (rfl) rfl rfl ?_
    refine W.any (.pickT rfl rfl rfl) rfl rfl rfl ?_
    refine W.any (.move rfl) rfl rfl rfl ?_
    refine W.rdg (.loadAll ag23 (by simp [peel_sum_len]) rfl (b4_12.le (h5_2.trans LP5))) rfl rfl rfl (rfl) rfl rfl ?_
    refine W.rdg (.loadAll ag23 (by simp [peel_sum_len]) rfl (b5_12)) rfl rfl rfl (rfl) rfl rfl ?_
    refine W.rdg (Any.rd (.dec (.eqA eg23 rfl rfl (Eqv.bytes (d := 9998) _ _ Try.underlying23 sz5 Try.underlying5 (peel_sum_len _ _) (peel_sum_len _ _))) (decide_eq_true rfl)) _) rfl rfl rfl (rfl) rfl rfl ?_
    refine W.any (.pickT rfl rfl rfl) rfl rfl rfl ?_
    refine W.any (.move rfl) rfl rfl rfl ?_
    refine W.rdg (Any.rd (.move rfl) _) rfl rfl rfl (rfl) rfl rfl ?_
    refine W.rdg (Any.rd (.move rfl) _) rfl rfl rfl (rfl) rfl rfl ?_
    refine W.rdg (Any.rd (.dec (.eql rfl rfl) (decide_eq_true rfl)) _) rfl rfl rfl (rfl) rfl rfl ?_
    refine W.any (.pickT rfl rfl rfl) rfl rfl rfl ?_
    refine W.any (.assign rfl) rfl rfl rfl ?_
    refine W.nil ?_
    refine E.thenN ?_
    refine WC.ret ?_
    refine E.ret1 rfl rfl ?_
    exact ⟨rfl, L5_12⟩
end Go.Proofs.Ytpmjdiccekkadaa
