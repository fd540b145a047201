/-
  The reference parser: statements, all.
-/
import Derived.Test.YtdgfmdjlhkjbaaaGd
import Derived.Test.YtdgfmdjlhkjbaaaGe
import Derived.Test.YtdgfmdjlhkjbaaaGf
import Derived.Test.YtdgfmdjlhkjbaaaGg
set_option linter.all false
section
namespace Go.Proofs.Ab5
open Go.Ab Go.Proofs
variable {ts : List Tok}

theorem allS (N : Nat) : AllS ts N := by
  induction N with
  | zero =>
    constructor <;> intro _ _ _ _ _ _ _ _ _ _ _ _ _ _ _ <;> intros <;> exfalso <;> (have h := PI.lt ‹PI _ _ _ _ _ _ _›; omega)
  | succ N ih => exact ⟨s_statement ih, s_cond ih, s_function ih, s_block ih⟩

end Go.Proofs.Ab5
end
