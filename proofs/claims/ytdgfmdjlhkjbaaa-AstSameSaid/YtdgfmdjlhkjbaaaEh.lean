/-
  The reference parser: expressions.
-/
import Derived.Test.YtdgfmdjlhkjbaaaEa
import Derived.Test.YtdgfmdjlhkjbaaaEb
import Derived.Test.YtdgfmdjlhkjbaaaEc
import Derived.Test.YtdgfmdjlhkjbaaaEd
import Derived.Test.YtdgfmdjlhkjbaaaEe
import Derived.Test.YtdgfmdjlhkjbaaaEf
import Derived.Test.YtdgfmdjlhkjbaaaEg
set_option linter.all false
section
namespace Go.Proofs.Ab5
open Go.Ab Go.Proofs
variable {ts : List Tok}

theorem allE (N : Nat) : AllE ts N := by
  induction N with
  | zero =>
    constructor <;> intro _ _ _ _ _ _ _ _ _ _ _ _ _ _ _ <;> intros <;> exfalso <;> (have h := PI.lt ‹PI _ _ _ _ _ _ _›; omega)
  | succ N ih => exact ⟨e_test ih, e_or ih, e_and ih, e_not ih, e_compare ih, e_sum ih, e_product ih, e_targets ih, e_several ih, e_target ih, e_unary ih, e_primary ih, e_atom ih, e_index ih, e_arguments ih, e_rest ih, e_round ih, e_square ih, e_curly ih⟩

end Go.Proofs.Ab5
end
