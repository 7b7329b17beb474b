/- slices.Clone at []byte: new memory with the same bytes, by its walk. -/
import Derived.Test.YtpkgpcolngoicaaWMore
import Derived.Test.YtpkgpcolngoicaaWWords
import Derived.Test.YtpkgpcolngoicaaProg
import Derived.WalkKit
import Derived.WalkSpells
import Derived.RowKit3
import Derived.Lib.SliceRun
import Derived.Lib.Hide
set_option linter.unusedVariables false
set_option linter.unusedSimpArgs false
namespace Go.Proofs.Ytpkgpcolngoicaa.Given
open Go.RowKit Go.Proofs.YtpkgpcolngoicaaW.PrintWords Go.Proofs.YtpkgpcolngoicaaW.PrintLast Go.Proofs.YtpkgpcolngoicaaW.PrintMore

theorem infoB : (Try.prog.info? 5).map (fun i => (i.zero, i.size, i.bytes)) = some (some (.int .u8 0), 1, 1) := by kernel_rfl
def slices_Clone_byte_byte.f (l0 : List Int) : Option (List Int) := if l0.length ≤ 140737488351232 then some l0 else none
set_option maxHeartbeats 800000 in
theorem slices_Clone_byte_byte.calls (A0 : Option Addr) (c0 : Nat) (l0 : List Int) (r : List Int) (w : World) (hr0 : Kd.C (Kd.int .u8) w A0 l0.length l0) (hc0 : l0.length ≤ c0) (h : slices_Clone_byte_byte.f l0 = some r) :
    Calls Try.prog 35 #[.slice A0 l0.length c0] w fun e w' => ∃ v0_ : Value, e = .returned (v0_) ∧ Kd.R (Kd.int .u8) 5 w' w.heap.size (fun _ => True) v0_ r ∧ Below w.heap.size w w' := by

  unfold slices_Clone_byte_byte.f at h
  split at h
  · rename_i hlen
    injection h with h
    subst h
    have hq := fun W => Lib.run_eql_slice_nil (P := Try.prog) W 22 5 A0 l0.length c0 0 0 Try.underlying22
    have HR := Aside0.mk hr0
    have HL := Aside0.mk hlen
    clear hr0 hlen
    cases A0 with
    | none =>
      have hz : l0 = [] := by
        cases l0 with
        | nil => rfl
        | cons x l => exact absurd (HR.out.2.2 (by simp)) (by rintro ⟨ad, h, _⟩; cases h)
      subst hz
      have hp : ∃ v0_ : Value, Ending.returned (.slice none 0 0) = .returned v0_ ∧ Kd.R (Kd.int .u8) 5 w w.heap.size (fun _ => True) v0_ ([] : List Int) ∧ Below w.heap.size w w := ⟨_, rfl, Kd.R_nil _ _ _ _ _, Below.refl _ _⟩
      have HP := Aside0.mk hp
      clear hp HR
      simp only [List.length_nil] at hq ⊢
      go_enter Try.func35, Try.ntmps35
      go_wp2
      go_ret
      exact HP.out
    | some ad =>
      have HC := Aside0.mk hc0
      clear hc0
      go_enter Try.func35, Try.ntmps35
      go_wp2_with (first | (at_builtin; refine Kd.R_append_rows (Kd.int .u8) (w0 := w) w.heap.size rfl (.tmp 5) (.tmp 6) 22 5 (.int .u8 0) 1 rfl Try.underlying22 infoB rfl (by decide) (by omega) (.slice (some ⟨w.heap.size, 0, none⟩) 0 0) ([] : List Int) l0 _ _ _ (fun _ => True) (fun _ => False) rfl rfl ?aO ?aR (fun _ _ h => h) (fun _ h => h.elim) ?aF ?aB ?aS ?aL ?_; (case aR => exact Kd.C_alloc HR.out _); (case aB => exact (Below.refl _ _).alloc (Nat.le_refl _) _); (case aF => exact (fun _ _ => trivial)); (case aO => exact Kd.R_of_own (World.ownsRow_lit w #[] 0 (Nat.le_refl _) (by decide) rfl) (fun _ _ => trivial)); (case aS => simp); (case aL => have := HL.out; simp; omega); intro v1 w1 ho hb hg hat; have HO := Aside0.mk ho; have HB := Aside0.mk hb; clear ho hb hg hat))
      go_ret
      exact ⟨v1, rfl, HO.out, HB.out⟩
  · cases h

end Go.Proofs.Ytpkgpcolngoicaa.Given
