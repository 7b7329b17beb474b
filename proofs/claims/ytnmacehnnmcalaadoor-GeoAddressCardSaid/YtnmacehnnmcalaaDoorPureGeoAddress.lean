/- An address tells each byte of every kind of EEPROM, and a page divides the bytes: both are powers of 2. -/
import Derived.Test.YtnmacehnnmcalaaDoorAx5
set_option linter.unusedVariables false
set_option linter.unusedSimpArgs false
namespace Go.Proofs.YtnmacehnnmcalaaDoor.Pure
open Go.RowKit Go.Proofs.YtnmacehnnmcalaaDoor.All Go.Proofs.YtnmacehnnmcalaaDoor.Given Go.Proofs.YtnmacehnnmcalaaDoorW.PrintWords Go.Proofs.YtnmacehnnmcalaaDoorW.PrintLast

theorem eachGeoAddress : ∀ n : Fin 256, keepsakelaw03_GeoAddress.f ((n.val : Nat) : Int) = some true := by decide +kernel
theorem GeoAddress : keepsakelaw03_GeoAddress.Pure := by
  intro a h
  simp [Lit.wf, IntKind.min, IntKind.max, IntKind.signed, IntKind.bits] at h
  obtain ⟨n, rfl⟩ := Int.eq_ofNat_of_zero_le h.1
  exact eachGeoAddress ⟨n, by omega⟩

end Go.Proofs.YtnmacehnnmcalaaDoor.Pure
