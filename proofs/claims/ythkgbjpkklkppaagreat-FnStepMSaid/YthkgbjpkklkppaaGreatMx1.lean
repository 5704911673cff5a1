/- What a call does to memory, told at the whole memory: no conditions but those that it states. -/
import Derived.Calls
import Derived.KernelRfl
import Derived.Laws.Sem
import Derived.Deep.Quiet
import Derived.Scope
import Derived.Orders
import Derived.Below
import Derived.Laws.StructEq
import Derived.Laws.Cover3
import Derived.Defers
import Derived.Recover
import Derived.Test.YthkgbjpkklkppaaGreatProg
import Derived.Test.YthkgbjpkklkppaaGreatMa9
set_option linter.unusedVariables false
set_option linter.constructorNameAsVariable false
namespace Go.Vc
open Go.RowKit
variable {P:Program} {f:FuncId} {args:List Value} {w:World}
theorem below_of_pure {x:Value} (i:∀ h,(∀ b o,h b=some o->(w.heap[b]? = some o))->(∀ b,h b=w.heap[b]?)->Pure P f args h x):Calls P f args.toArray w λe g=>e=.returned x/\Below w.heap.size w g:=by
 refine(i (λb=>w.heap[b]?) (λ_ _ h=>h) (λ_=>rfl) w (λ_ _ h=>h)).mono ?_;rintro e g ⟨k,m,c⟩;cases e with
 | returned v =>
  obtain⟨rfl,rfl⟩:=c;refine⟨rfl,m.out.1,m.out.2.1,m.out.2.2,m.size,λb d=>?_⟩;rw[Array.getElem?_eq_getElem d];exact m.view b _ (Array.getElem?_eq_getElem d)
 | panicked j=>exact c.elim
 | outgrown=>exact c.elim
end Go.Vc
