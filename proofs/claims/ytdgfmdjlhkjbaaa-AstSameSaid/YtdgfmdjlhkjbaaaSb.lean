/-
  The rules for frames of many slots.
-/
import Derived.Test.YtdgfmdjlhkjbaaaSa
import Derived.Test.YtdgfmdjlhkjbaaaCa
set_option linter.all false
section
namespace Go.Proofs.Ab5
open Go.Ab Go.Proofs
attribute [go_sem high] selA_true selA_false selF_true selF_false
attribute [go_sem ↓] mkF_set mkF_getD mkF_get? alook_cons vget_zero vget_succ
attribute [go_sem] alook_nil vget_nil vset_nil_zero vset_nil_succ vset_zero vset_succ keepV_nil keepV_true keepV_false okV_nil okV_true okV_false cleanF_mk keptF_mk loopEnd_mk
attribute [go_sem ↓] W_some ifB_true ifB_false selA_true selA_false selF_true selF_false pickK_true pickK_false guardK_true guardK_false guardK_not guardK_not' guardK_undef guardS_true guardS_false guardS_not guardS_not' guardS_undef then_normal then_ret then_exit inBlock_normal inBlock_ret inBlock_exit normalK_eq rsThen_eq dropH_eq rl_nil rs_nil
end Go.Proofs.Ab5
end
