/- What any places are left with, and where any two lists of bytes are apart, is as the document says. -/
import Derived.Test.YtlmbfnnjhpehiaaAx3
import Derived.Test.YtlmbfnnjhpehiaaAwake
set_option linter.unusedVariables false
set_option linter.unusedSimpArgs false
namespace Go.Proofs.Ytlmbfnnjhpehiaa.Pure
open Go.RowKit Go.Proofs.Ytlmbfnnjhpehiaa.All Go.Proofs.Ytlmbfnnjhpehiaa.Given Go.Proofs.Ytlmbfnnjhpehiaa.Cut Go.Proofs.YtlmbfnnjhpehiaaW.PrintWords Go.Proofs.YtlmbfnnjhpehiaaW.PrintLast Go.Proofs.YtlmbfnnjhpehiaaW.PrintMore

theorem CutTells : keepsakelaw08_CutTells.Pure := by
  intro o at_ pick b ho _ _ ha _ _ hp _ _ hb _ _
  refine ⟨100001, ?_⟩
  unfold keepsakelaw08_CutTells.f
  rw [awake_f _ (by decide), Option.bind_some]
  have yes : keepsakelaw08_CutTells.j0 100001 o at_ pick b true true = some true := by rw [keepsakelaw08_CutTells.j0, if_pos rfl]
  by_cases h0 : (o.length : Int) > 200
  · rw [if_pos h0, yes]
  by_cases h1 : (at_.length : Int) > 200
  · rw [if_neg h0, if_pos h1, yes]
  by_cases h2 : (pick.length : Int) > 200
  · rw [if_neg h0, if_neg h1, if_pos h2, yes]
  by_cases h3 : (b.length : Int) > 200
  · rw [if_neg h0, if_neg h1, if_neg h2, decide_eq_true h3, yes]
  rw [if_neg h0, if_neg h1, if_neg h2, decide_eq_false h3, keepsakelaw08_CutTells.j0, if_neg (by decide), if_pos rfl, Cells_f o at_ pick (by omega) (by omega), Option.bind_some, ref_f o at_ pick (by omega) (by omega) _ (by decide), Option.bind_some,
    Same.same_f _ _ (by rw [cells_len]; omega) _ (by rw [cells_len]; omega), Option.bind_some, if_pos (by simp), apart_f o b (by omega) (by omega) _ (by omega), Option.bind_some, refApart_f o b (by omega) (by omega) _ (by omega), Option.bind_some,
    Ints.ints_f _ _ (by have := apart_len o b; omega) _ (by have := apart_len o b; omega), Option.bind_some]
  simp

end Go.Proofs.Ytlmbfnnjhpehiaa.Pure
