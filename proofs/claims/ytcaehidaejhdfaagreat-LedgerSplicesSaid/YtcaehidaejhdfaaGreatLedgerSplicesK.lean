/- LedgerSplices: for every input the law answers true and leaves its arguments as they were. -/
import Derived.Test.YtcaehidaejhdfaaGreatLedgerSplicesJ
import Derived.Laws.Concat
set_option linter.unusedVariables false
set_option linter.unusedSimpArgs false
namespace Go.Sx
variable {P:Program}{n:Nat}
section
variable {env:Env}{d:Option Nat}{T:TypeId}{p:String}{af:Array Edge}{g:Option (Nat×Bool)}
theorem jO.lY {α:Type}{w:World}{base e s g t:Nat}{f:α->List Value}{A:Option Addr}{k c:Nat}{xs:List α}{cs:Array Value}(hO:jO w base e f s A k c xs)(hB:jL w g t cs)(hne:e≠t):rowOf A c≠some g:=fun he=>by
  rcases hO.2.2 with⟨rfl,rfl⟩|⟨g',cur,rfl,hb,hh,hnc,hcm,hcs,htake⟩
  · rw[lC]at he;cases he
  · have d:=qY he
    subst d
    have b:w.heap[g]? =_:=hB
    rw[hh]at b
    injection b with h3
    injection h3 with _ h4 _
    exact hne h4
end
end Go.Sx

