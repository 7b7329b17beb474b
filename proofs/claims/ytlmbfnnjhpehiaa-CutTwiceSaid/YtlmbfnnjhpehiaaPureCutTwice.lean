/- What is cut twice alike is as it was cut once. -/
import Derived.Test.YtlmbfnnjhpehiaaAx9
import Derived.Test.YtlmbfnnjhpehiaaAwake
set_option linter.unusedVariables false
set_option linter.unusedSimpArgs false
namespace Go.Proofs.Ytlmbfnnjhpehiaa.Pure
open Go.RowKit Go.Proofs.Ytlmbfnnjhpehiaa.All Go.Proofs.Ytlmbfnnjhpehiaa.Given Go.Proofs.Ytlmbfnnjhpehiaa.Cut Go.Proofs.YtlmbfnnjhpehiaaW.PrintWords Go.Proofs.YtlmbfnnjhpehiaaW.PrintLast Go.Proofs.YtlmbfnnjhpehiaaW.PrintMore

theorem cells_twice (o at_ pick : List Int) : cells (cells o at_ pick) at_ pick = cells o at_ pick :=
  list_eq (by rw [cells_len]) (fun i hi => by
    rw [cells_len, cells_len] at hi
    rw [cells_at _ _ _ i (by rw [cells_len]; exact hi), cells_at _ _ _ i hi, look_twice])
theorem CutTwice : keepsakelaw08_CutTwice.Pure := by
  intro o at_ pick a m ho _ _ ha _ _ hp _ _ h3 h4
  obtain ⟨a0, a1⟩ := u8_bd h3
  obtain ⟨m0, m1⟩ := u8_bd h4
  refine ⟨1001, ?_⟩
  unfold keepsakelaw08_CutTwice.f
  rw [awake_f _ (by decide), Option.bind_some]
  have yes : keepsakelaw08_CutTwice.j0 1001 o at_ pick a m true true = some true := by rw [keepsakelaw08_CutTwice.j0, if_pos rfl]
  by_cases h0 : (o.length : Int) > 200
  · rw [if_pos h0, yes]
  by_cases h1 : (at_.length : Int) > 200
  · rw [if_neg h0, if_pos h1, yes]
  by_cases h2 : (pick.length : Int) > 200
  · rw [if_neg h0, if_neg h1, decide_eq_true h2, yes]
  rw [if_neg h0, if_neg h1, decide_eq_false h2, keepsakelaw08_CutTwice.j0, if_neg (by decide), Cells_f o at_ pick (by omega) (by omega), Option.bind_some, Cut.w64 a (by omega) (by omega), Cut.w64 m (by omega) (by omega), Range_f o a m pick (by omega) (by omega), Option.bind_some, if_pos rfl,
    if_pos (by rw [cells_len]), if_pos (by rw [cells_len]), Cells_f _ at_ pick (by rw [cells_len]; omega) (by omega), Option.bind_some, cells_twice, Same.same_f _ _ (by rw [cells_len]; omega) _ (by rw [cells_len]; omega), Option.bind_some, if_pos (by simp),
    Range_f _ a m pick (by rw [cells_len]; omega) (by omega), Option.bind_some, cells_twice, Same.same_f _ _ (by rw [cells_len]; omega) _ (by rw [cells_len]; omega), Option.bind_some]
  simp

end Go.Proofs.Ytlmbfnnjhpehiaa.Pure
