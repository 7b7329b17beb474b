/- Writes, as they come in. -/
import Derived.Deep.Slices
import Derived.ChangeSame
import Derived.WalkKit
import Derived.Test.YtpkgpcolngoicaaPOps
import Derived.Test.YtpkgpcolngoicaaAx1
set_option linter.unusedVariables false
set_option linter.unusedSimpArgs false
namespace Go.Proofs.Ytpkgpcolngoicaa.Given
open Go.RowKit Go.ChangeShapes Go.WideShapes Go.Deep Go.Proofs.Ytpkgpcolngoicaa.All Go.Proofs.YtpkgpcolngoicaaW.PrintWords
section
variable {H : Type} {enc : TypeId × Value → H} {W : World} {base : Nat} {spare : Nat → Bool} {held : Bool}
def PutWf (p : S47) : Prop := (Lit.int .i64 p.f0).wf = true ∧ (Lit.int .u8 p.f1).wf = true
theorem put_open {fuel : Nat} {cs : List Value} {x : DataW H × List MemPlace} (hl : cs.length = 2) (hf : DataW.trod enc Try.prog W base spare held fuel 47 cs = some x) :
    ∃ p : S47, cs = [.int .i64 p.f0, .int .u8 p.f1] ∧ PutWf p := by
  obtain ⟨xs, n, rfl, _, _, ln, el⟩ := DataW.trod_struct Try.underlying47 hf
  have c5 : Try.prog.cellsOf 5 = 1 := by kernel_rfl
  have c3 : Try.prog.cellsOf 3 = 1 := by kernel_rfl
  have e1 := el 0 _ rfl
  rw [List.getElem?_eq_getElem (show 0 < xs.length by rw [ln]; decide)] at e1
  obtain ⟨b, q1, _, w1⟩ := DataW.trod_int Try.underlying3 e1
  have e2 := el 1 _ rfl
  rw [List.getElem?_eq_getElem (show 1 < xs.length by rw [ln]; decide)] at e2
  obtain ⟨c, q2, _, w2⟩ := DataW.trod_int Try.underlying5 e2
  refine ⟨⟨b, c⟩, ?_, w1, w2⟩
  clear el hf e1 e2
  match cs, hl with
  | [x1, x2], _ =>
    have g1 : [x1] = [Value.int .i64 b] := by simpa [c3] using q1
    have g2 : [x2] = [Value.int .u8 c] := by simpa [c5] using q2
    obtain rfl := (List.cons.inj g1).1
    obtain rfl := (List.cons.inj g2).1
    rfl
/-- The writes that came in. -/
theorem puts_open {a : Option Addr} {len cap : Nat} {d : DataW H} {ps : List MemPlace} (h : DataW.Trod enc Try.prog W base spare held 29 (.slice a len cap) d ps) :
    ∃ l : List S47, len = l.length ∧ l.length ≤ cap ∧ Kd.C k47 W a l.length l ∧ ∀ p ∈ l, PutWf p := by
  obtain ⟨fuel, hf⟩ := h
  have cc : Try.prog.cellsOf 47 = 2 := by kernel_rfl
  rcases open_slice Try.underlying29 hf with ⟨hcs, _⟩ | ⟨ad, l, c, m, n, D, Pl, hcs, _, hl, hm, hmm, _, hi⟩
  · simp [Value.cells] at hcs
    obtain ⟨rfl, rfl, rfl⟩ := hcs
    exact ⟨[], rfl, Nat.le_refl _, Kd.C_nil _ _, fun p hp => by cases hp⟩
  · simp [Value.cells] at hcs
    obtain ⟨rfl, rfl, rfl⟩ := hcs
    have hlm : len ≤ m := by rw [hmm]; split <;> omega
    rw [cc] at hi
    obtain ⟨ls, hls, hp⟩ := list_of (P := fun i (p : S47) => PutWf p ∧ ∀ j u, ([.int .i64 p.f0, .int .u8 p.f1] : List Value)[j]? = some u → W.cell? (ad.add (i * 2 + j)) = some u) len (fun i hil => by
      obtain ⟨cs', hc, ht'⟩ := hi i (by omega)
      obtain ⟨_, hcl, hat⟩ := World.cells?_some hc
      obtain ⟨p, rfl, hw⟩ := put_open hcl ht'
      refine ⟨p, hw, fun j u hj => ?_⟩
      have hjl : j < 2 := (List.getElem?_eq_some_iff.1 hj).1
      have := hat j hjl
      rw [Go.Deep.add_add] at this
      exact this.trans hj)
    refine ⟨ls, hls.symm, by omega, ⟨rfl, by unfold maxLen at hm; omega, fun _ => ⟨ad, rfl, fun j p hj => ⟨_, rfl, k47_mk W p, (hp j p hj).2⟩⟩⟩, fun p hpm => ?_⟩
    obtain ⟨i, hi⟩ := List.getElem?_of_mem hpm
    exact (hp i p hi).1
end
end Go.Proofs.Ytpkgpcolngoicaa.Given
