/- Two hops compared. -/
import Derived.Test.YtfgakofjkldcjaaSxk
import Derived.Test.YtfgakofjkldcjaaOnion2
namespace Go.Proofs.Ytfgakofjkldcjaa
open Go Go.Sx Go.Hsp Go.Num Go.Osp
theorem eqv_hop {d : Nat} (a b : Hop) : Eqv Try.prog (d + 2) 95 (.agg (hopV a).toArray) (.agg (hopV b).toArray) (decide (a = b)) := by
  have h := Eqv.ints (P := Try.prog) (d := d) (t := 95) (hopV a) (hopV b) [(.i64, 0), (.i64, 1), (.i64, 2), (.i64, 3), (.u64, 4), (.u64, 5)] (by kernel_rfl) (by kernel_rfl) (by
    rw [show (Try.prog.fieldsOf 95) = _ from (by unfold Program.fieldsOf; rw [Try.underlying95])]
    exact ⟨by decide, rfl, Try.underlying3, ⟨_, _, rfl, rfl⟩, by decide, rfl, Try.underlying3, ⟨_, _, rfl, rfl⟩, by decide, rfl, Try.underlying3, ⟨_, _, rfl, rfl⟩, by decide, rfl, Try.underlying3, ⟨_, _, rfl, rfl⟩, by decide, rfl, Try.underlying31, ⟨_, _, rfl, rfl⟩, by decide, rfl, Try.underlying30, ⟨_, _, rfl, rfl⟩, trivial⟩)
  have e : eqAll (hopV a) (hopV b) [(.i64, 0), (.i64, 1), (.i64, 2), (.i64, 3), (.u64, 4), (.u64, 5)] = decide (a = b) := by
    obtain ⟨a1, a2, a3, a4, a5, a6⟩ := a
    obtain ⟨b1, b2, b3, b4, b5, b6⟩ := b
    simp only [eqAll, hopV, List.getElem?_cons_zero, List.getElem?_cons_succ, Prod.mk.injEq]
    rw [Bool.eq_iff_iff]
    simp only [Bool.and_eq_true, decide_eq_true_eq, Bool.and_true]
    constructor
    · rintro ⟨h1, h2, h3, h4, h5, h6⟩; exact ⟨h1, h2, h3, h4, by omega, by omega⟩
    · rintro ⟨h1, h2, h3, h4, h5, h6⟩; exact ⟨h1, h2, h3, h4, by omega, by omega⟩
  rw [e] at h
  exact h
end Go.Proofs.Ytfgakofjkldcjaa
