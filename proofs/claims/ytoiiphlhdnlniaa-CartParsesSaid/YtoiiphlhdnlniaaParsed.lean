/- The contract of Parse. -/
import Derived.Test.YtoiiphlhdnlniaaParse
set_option linter.unusedVariables false
set_option linter.unusedSimpArgs false
namespace Go.Proofs.Ytoiiphlhdnlniaa.Given
open Go.RowKit Go.Proofs.Ytoiiphlhdnlniaa.All Go.Proofs.Ytoiiphlhdnlniaa.Sums Go.Proofs.Ytoiiphlhdnlniaa.Math Go.Proofs.YtoiiphlhdnlniaaW.PrintWords Go.Proofs.YtoiiphlhdnlniaaW.PrintLast Go.Proofs.YtoiiphlhdnlniaaW.PrintMore

def byteB (l : List Int) : Bool := l.all fun x => decide (0 ≤ x ∧ x ≤ 255)
theorem byteB_iff (l : List Int) : byteB l = true ↔ Bytes l := by
  unfold byteB Bytes
  simp
def presL (l : List Int) : Int × Int × Int × Int × Int × List Int × Int :=
  if l.length < 16 then (0, 0, 0, 0, 0, [], 5)
  else pres (rd l 0) (rd l 1) (rd l 2) (rd l 3) (rd l 4) (rd l 5) (rd l 6) (rd l 7) (rd l 8) (rd l 9) (rd l 10) (rd l 11) (rd l 12) (rd l 13) (rd l 14) (rd l 15) (l.drop 16)
def cart_Parse.f (l0 : List Int) : Option (Int × Int × Int × Int × Int × List Int × Int) := if l0.length ≤ 100000 ∧ byteB l0 = true then some (presL l0) else none
set_option maxHeartbeats 1000000 in
theorem parse_short (A0 : Option Addr) (c0 : Nat) (l0 : List Int) (w : World) (h : l0.length < 16) : Calls Try.prog 9 #[.slice A0 l0.length c0] w (PO w (0, 0, 0, 0, 0, [], 5)) := by
  have h' : (l0.length : Int) < 16 := by omega
  go_enter Try.func9, Try.ntmps9
  go_wp2_with (fail)
  refine bodyPost_ret (v := .tuple #[.agg #[.int .i64 0, .int .i64 0, .int .i64 0, .int .i64 0, .int .i64 0, .slice none 0 0], .int .i64 5]) ?_ rfl ⟨_, rfl, Kd.R_nil _ _ _ _ _, (Below.refl _ _).alloc (Nat.le_refl _) _⟩
  simp [results, Try.results9, go_sem]
theorem cart_Parse.calls (A0 : Option Addr) (c0 : Nat) (l0 : List Int) (r1 : Int) (r2 : Int) (r3 : Int) (r4 : Int) (r5 : Int) (r6 : List Int) (r7 : Int) (w : World) (hr0 : Kd.C (Kd.int .u8) w A0 l0.length l0) (hc0 : l0.length ≤ c0) (h : cart_Parse.f l0 = some (r1, r2, r3, r4, r5, r6, r7)) :
    Calls Try.prog 9 #[.slice A0 l0.length c0] w fun e w' => ∃ v5_ : Value, e = .returned (.tuple #[.agg #[.int .i64 r1, .int .i64 r2, .int .i64 r3, .int .i64 r4, .int .i64 r5, v5_], .int .i64 r7]) ∧ Kd.R (Kd.int .u8) 5 w' w.heap.size (fun _ => True) v5_ r6 ∧ Below w.heap.size w w' := by
  unfold cart_Parse.f at h
  split at h
  · rename_i hb
    obtain ⟨hl, hb⟩ := hb
    rw [byteB_iff] at hb
    injection h with h
    have key : Calls Try.prog 9 #[.slice A0 l0.length c0] w (PO w (presL l0)) := by
      by_cases h16 : l0.length < 16
      · unfold presL
        rw [if_pos h16]
        exact parse_short A0 c0 l0 w h16
      · unfold presL
        rw [if_neg h16]
        obtain ⟨h0, h1, h2, h3, h4, h5, h6, h7, h8, h9, h10, h11, g0, g1, g2, g3, rom, rfl⟩ := first16 l0 (by omega)
        have hr := Kd.reads_of_C (enc := Value.int .u8) (d := (0 : Int)) (h1 := fun _ => rfl) hr0
        obtain ⟨ad, rfl, _⟩ := hr.2.2 (by simp)
        have e : (h0 :: h1 :: h2 :: h3 :: h4 :: h5 :: h6 :: h7 :: h8 :: h9 :: h10 :: h11 :: g0 :: g1 :: g2 :: g3 :: rom).length = rom.length + 16 := by simp
        have k := parse_walk ad c0 h0 h1 h2 h3 h4 h5 h6 h7 h8 h9 h10 h11 g0 g1 g2 g3 rom w hr hc0 (by rw [e] at hl; omega) hb
        rw [← e] at k
        exact k
    rw [h] at key
    exact key
  · cases h

end Go.Proofs.Ytoiiphlhdnlniaa.Given
