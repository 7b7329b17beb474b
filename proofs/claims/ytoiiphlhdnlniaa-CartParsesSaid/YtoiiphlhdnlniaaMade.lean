/- The contract of Make. -/
import Derived.Test.YtoiiphlhdnlniaaMake
import Derived.Test.YtoiiphlhdnlniaaParsed
set_option linter.unusedVariables false
set_option linter.unusedSimpArgs false
namespace Go.Proofs.Ytoiiphlhdnlniaa.Given
open Go.RowKit Go.Proofs.Ytoiiphlhdnlniaa.All Go.Proofs.Ytoiiphlhdnlniaa.Sums Go.Proofs.Ytoiiphlhdnlniaa.Math Go.Proofs.YtoiiphlhdnlniaaW.PrintWords Go.Proofs.YtoiiphlhdnlniaaW.PrintLast Go.Proofs.YtoiiphlhdnlniaaW.PrintMore

def cart_Make.f (a0_0 : Int) (a0_1 : Int) (a0_2 : Int) (a0_3 : Int) (a0_4 : Int) (l0_5 : List Int) : Option (List Int × Int) := if l0_5.length ≤ 100000 ∧ byteB l0_5 = true then some (makeL a0_0 a0_1 a0_2 a0_3 a0_4 l0_5) else none
theorem cart_Make.calls (a0_0 : Int) (a0_1 : Int) (a0_2 : Int) (a0_3 : Int) (a0_4 : Int) (A0_5 : Option Addr) (c0_5 : Nat) (l0_5 : List Int) (r1 : List Int) (r2 : Int) (w : World) (hr0_5 : Kd.C (Kd.int .u8) w A0_5 l0_5.length l0_5) (hc0_5 : l0_5.length ≤ c0_5) (h : cart_Make.f a0_0 a0_1 a0_2 a0_3 a0_4 l0_5 = some (r1, r2)) :
    Calls Try.prog 15 #[.agg #[.int .i64 a0_0, .int .i64 a0_1, .int .i64 a0_2, .int .i64 a0_3, .int .i64 a0_4, .slice A0_5 l0_5.length c0_5]] w fun e w' => ∃ v0_ : Value, e = .returned (.tuple #[v0_, .int .i64 r2]) ∧ Kd.R (Kd.int .u8) 5 w' w.heap.size (fun _ => True) v0_ r1 ∧ Below w.heap.size w w' := by
  unfold cart_Make.f at h
  split at h
  · rename_i hb
    obtain ⟨hl, hb⟩ := hb
    rw [byteB_iff] at hb
    injection h with h
    have key := make_walk a0_0 a0_1 a0_2 a0_3 a0_4 A0_5 c0_5 l0_5 w hr0_5 hc0_5 hl hb
    rw [h] at key
    exact key
  · cases h

end Go.Proofs.Ytoiiphlhdnlniaa.Given
