/- LedgerSheets: for every input the law answers true and leaves its arguments as they were. -/
import Derived.Test.YtgpaekbdbpkogaaGreatLedgerSheetsJ
import Derived.Laws.Concat
set_option linter.unusedVariables false
set_option linter.unusedSimpArgs false
namespace Go.Sx
variable {P : Program} {n : Nat}
section
variable {env : Env} {d : Option Nat} {T : TypeId} {p : String} {af : Array Edge} {g : Option (Nat × Bool)}
theorem OVec.ne_blk {α : Type} {w : World} {base e s g t : Nat} {f : α -> List Value} {A : Option Addr} {k c : Nat} {xs : List α} {cs : Array Value} (hO : OVec w base e f s A k c xs) (hB : Blk w g t cs) (hne : e ≠ t) : rowOf A c ≠ some g := fun he => by
  rcases hO.2.2 with ⟨rfl, rfl⟩ | ⟨g', cur, rfl, hb, hh, hnc, hcm, hcs, htake⟩
  · rw [rowOf_zero] at he; cases he
  · have h1 := rowOf_lit he
    subst h1
    have h2 : w.heap[g]? = _ := hB
    rw [hh] at h2
    injection h2 with h3
    injection h3 with _ h4 _
    exact hne h4
end
end Go.Sx

