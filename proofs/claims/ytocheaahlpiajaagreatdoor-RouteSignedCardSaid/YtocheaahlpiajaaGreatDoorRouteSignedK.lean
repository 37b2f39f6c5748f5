/- RouteSigned: for every input the law answers true and leaves its arguments as they were. -/
import Derived.Test.YtocheaahlpiajaaGreatDoorRouteSignedJ
import Derived.Laws.Concat
set_option linter.unusedVariables false
set_option linter.unusedSimpArgs false
namespace Go.Sx
variable {P:Program}{n:Nat}
section
variable {env:Env}{d:Option Nat}{T:TypeId}{p:String}{af:Array Edge}{g:Option (Nat×Bool)}
theorem Any.addStr {t ty:TypeId}{x y:Operand}{a b:List UInt8}(hx:ev env x=some (.string ⟨a.toArray⟩))(hy:ev env y=some (.string ⟨b.toArray⟩))(ha:a.length<=1000000)(hb:b.length<=1000000):
    Any P env n ⟨d,.binOp .add t x y ty,T,p,af,g⟩ (.string ⟨(a++b).toArray⟩):=
  .bin hx hy (fun w=>rfl) fun w=>run_string_add_lists w a b (by omega) (by omega)
theorem Any.eqlYes {t ty:TypeId}{x y:Operand}{a b:List UInt8}(hx:ev env x=some (.string ⟨a.toArray⟩))(hy:ev env y=some (.string ⟨b.toArray⟩))(hab:a=b):
    Any P env n ⟨d,.binOp .eql t x y ty,T,p,af,g⟩ (.bool true):=by
  subst hab
  have h:=Any.eqlStr (P:=P) (n:=n) (d:=d) (T:=T) (p:=p) (af:=af) (g:=g) (t:=t) (ty:=ty) hx hy
  rw[beq_self_eq_true]at h
  exact h
end
end Go.Sx

