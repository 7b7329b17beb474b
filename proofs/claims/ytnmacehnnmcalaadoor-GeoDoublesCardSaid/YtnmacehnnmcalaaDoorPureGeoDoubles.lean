/- Each kind of EEPROM has twice as many bytes as the one ahead, and no smaller pages: for every kind. -/
import Derived.Test.YtnmacehnnmcalaaDoorAx4
set_option linter.unusedVariables false
set_option linter.unusedSimpArgs false
namespace Go.Proofs.YtnmacehnnmcalaaDoor.Pure
open Go.RowKit Go.Proofs.YtnmacehnnmcalaaDoor.All Go.Proofs.YtnmacehnnmcalaaDoor.Given Go.Proofs.YtnmacehnnmcalaaDoorW.PrintWords Go.Proofs.YtnmacehnnmcalaaDoorW.PrintLast

theorem eachGeoDoubles : ∀ n : Fin 256, keepsakelaw03_GeoDoubles.f ((n.val : Nat) : Int) = some true := by decide +kernel
theorem GeoDoubles : keepsakelaw03_GeoDoubles.Pure := by
  intro a h
  simp [Lit.wf, IntKind.min, IntKind.max, IntKind.signed, IntKind.bits] at h
  obtain ⟨n, rfl⟩ := Int.eq_ofNat_of_zero_le h.1
  exact eachGeoDoubles ⟨n, by omega⟩

end Go.Proofs.YtnmacehnnmcalaaDoor.Pure
