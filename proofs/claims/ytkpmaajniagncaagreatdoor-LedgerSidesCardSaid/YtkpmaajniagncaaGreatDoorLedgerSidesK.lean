/- LedgerSides: for every input the law answers true and leaves its arguments as they were. -/
import Derived.Test.YtkpmaajniagncaaGreatDoorLedgerSidesJ
import Derived.LoopN
set_option linter.unusedVariables false
set_option linter.unusedSimpArgs false
namespace Go.Sx
open Go
section
variable {P:Program}{Q:Exit->Act->World->Prop}{n:Nat}{env:Env}{w:World}{c:Code}{m:Nat}
def uo (P:Program)(Q:Exit->Act->World->Prop)(n:Nat)(c:Code)(m:Nat)(env:Env)(w:World):Prop:=∀a,sM a n env->Code.rounds P c Q m a w
theorem WC.rounds (m:Nat)(h:uo P Q n c m env w):WC P Q n (.loop c) env w:=fun a ha=>wp_loop_rounds m (h a ha)
theorem uo.step (h:WC P (Exit.then (Code.rounds P c Q m) Q) n c env w):uo P Q n c (m+1) env w:=fun a ha=>h a ha
theorem E.round (h:uo P Q n c m env w):E (Exit.then (Code.rounds P c Q m) Q) n .normal env w:=fun a ha=>h a ha
end
section
variable {P:Program}{env:Env}{n:Nat}{d:Option Nat}{T:TypeId}{p:String}{af:Array Edge}{g:Option (Nat×Bool)}{x y:Operand}{i:Int}
theorem Any.DU {t e len s:Nat}{cs:Array Value}(j:Nat)(vs:List Value)(ht:P.underlying t=some (.array len e))(hs:Sz P e s)(he:ky P e s)(hx:ev env x=some (.agg cs))(hy:ev env y=some (J i))(hi:i=(j:Int))(hj:j<len)(hv:(cs.toList.drop (j*s)).take s=vs):Any P env n ⟨d,.index t x y,T,p,af,g⟩ (.agg vs.toArray):=fun a ha w=>by
 subst hi
 have hp:(part e cs (j*s)).run P w= .ok (.agg vs.toArray) w:=by
  have hq:cs.extract (j*s) (j*s+s)=vs.toArray:=by
   apply Array.toList_inj.1
   rw[Array.toList_extract,<-hv]
   simp[List.extract_eq_take_drop]
  simp[part,he.run,hs.run,hq]
 simp[execOp,ha.eval hx,ha.eval hy,Instr.index,run_underlying ht,asIntOf,hs.run,hj,hp]
theorem Any.Lg {t ty:TypeId}(hx:ev env x=some (J i))(hy:ev env y=some (J 1))(h:i=0\/i=1):Any P env n ⟨d,.binOp .andNot t x y ty,T,p,af,g⟩ (J 0):= .int hx hy fun w=>by
 rcases h with rfl|rfl<;>rfl
end
end Go.Sx
