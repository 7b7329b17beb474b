/- An argument that is a slice of operations, opened. -/
import Derived.Test.YtehjfcfnnpjedaaAx1
import Derived.Deep.Slices
import Derived.ChangeSame
import Derived.WalkKit
import Derived.Test.YtehjfcfnnpjedaaProg
set_option linter.unusedVariables false
set_option linter.unusedSimpArgs false
namespace Go.Proofs.Ytehjfcfnnpjedaa.Given
open Go.RowKit Go.ChangeShapes Go.WideShapes Go.Deep Go.Proofs.Ytehjfcfnnpjedaa.All Go.Proofs.YtehjfcfnnpjedaaW.PrintWords
section
variable {H : Type} {enc : TypeId × Value → H} {W : World} {base : Nat} {spare : Nat → Bool} {held : Bool}
def OpWf (p : S34) : Prop := (Lit.int .u8 p.f0).wf = true ∧ (Lit.int .i64 p.f1).wf = true ∧ (Lit.int .u8 p.f2).wf = true
theorem op_open {fuel : Nat} {cs : List Value} {x : DataW H × List MemPlace} (hl : cs.length = 3) (hf : DataW.trod enc Try.prog W base spare held fuel 34 cs = some x) :
    ∃ p : S34, cs = [.int .u8 p.f0, .int .i64 p.f1, .int .u8 p.f2] ∧ OpWf p := by
  obtain ⟨xs, n, rfl, _, _, ln, el⟩ := DataW.trod_struct Try.underlying34 hf
  have c5 : Try.prog.cellsOf 5 = 1 := by kernel_rfl
  have c3 : Try.prog.cellsOf 3 = 1 := by kernel_rfl
  have e0 := el 0 _ rfl
  rw [List.getElem?_eq_getElem (show 0 < xs.length by rw [ln]; decide)] at e0
  obtain ⟨a, q0, _, w0⟩ := DataW.trod_int Try.underlying5 e0
  have e1 := el 1 _ rfl
  rw [List.getElem?_eq_getElem (show 1 < xs.length by rw [ln]; decide)] at e1
  obtain ⟨b, q1, _, w1⟩ := DataW.trod_int Try.underlying3 e1
  have e2 := el 2 _ rfl
  rw [List.getElem?_eq_getElem (show 2 < xs.length by rw [ln]; decide)] at e2
  obtain ⟨c, q2, _, w2⟩ := DataW.trod_int Try.underlying5 e2
  refine ⟨⟨a, b, c⟩, ?_, w0, w1, w2⟩
  clear el hf e0 e1 e2
  match cs, hl with
  | [x0, x1, x2], _ =>
    have g0 : [x0] = [Value.int .u8 a] := by simpa [c5] using q0
    have g1 : [x1] = [Value.int .i64 b] := by simpa [c3] using q1
    have g2 : [x2] = [Value.int .u8 c] := by simpa [c5] using q2
    obtain rfl := (List.cons.inj g0).1
    obtain rfl := (List.cons.inj g1).1
    obtain rfl := (List.cons.inj g2).1
    rfl
theorem list_of {α : Type} {P : Nat → α → Prop} (n : Nat) (h : ∀ i, i < n → ∃ x, P i x) : ∃ l : List α, l.length = n ∧ ∀ i x, l[i]? = some x → P i x := by
  induction n with
  | zero => exact ⟨[], rfl, fun i x hx => by simp at hx⟩
  | succ n ih =>
    obtain ⟨l, hl, hp⟩ := ih (fun i hi => h i (by omega))
    obtain ⟨x, hx⟩ := h n (by omega)
    refine ⟨l ++ [x], by simp [hl], fun i y hy => ?_⟩
    rcases Nat.lt_trichotomy i n with hi | hi | hi
    · rw [List.getElem?_append_left (by omega)] at hy
      exact hp i y hy
    · subst hi
      rw [List.getElem?_append_right (by omega), hl] at hy
      simp at hy
      subst hy
      exact hx
    · rw [List.getElem?_eq_none (by simp; omega)] at hy
      cases hy
/-- The operations that came in. -/
theorem ops_open {a : Option Addr} {len cap : Nat} {d : DataW H} {ps : List MemPlace} (h : DataW.Trod enc Try.prog W base spare held 23 (.slice a len cap) d ps) :
    ∃ l : List S34, len = l.length ∧ l.length ≤ cap ∧ Kd.C k34 W a l.length l ∧ ∀ p ∈ l, OpWf p := by
  obtain ⟨fuel, hf⟩ := h
  have cc : Try.prog.cellsOf 34 = 3 := by kernel_rfl
  rcases open_slice Try.underlying23 hf with ⟨hcs, _⟩ | ⟨ad, l, c, m, n, D, Pl, hcs, _, hl, hm, hmm, _, hi⟩
  · simp [Value.cells] at hcs
    obtain ⟨rfl, rfl, rfl⟩ := hcs
    exact ⟨[], rfl, Nat.le_refl _, Kd.C_nil _ _, fun p hp => by cases hp⟩
  · simp [Value.cells] at hcs
    obtain ⟨rfl, rfl, rfl⟩ := hcs
    have hlm : len ≤ m := by rw [hmm]; split <;> omega
    rw [cc] at hi
    obtain ⟨ls, hls, hp⟩ := list_of (P := fun i (p : S34) => OpWf p ∧ ∀ j u, ([.int .u8 p.f0, .int .i64 p.f1, .int .u8 p.f2] : List Value)[j]? = some u → W.cell? (ad.add (i * 3 + j)) = some u) len (fun i hil => by
      obtain ⟨cs', hc, ht'⟩ := hi i (by omega)
      obtain ⟨_, hcl, hat⟩ := World.cells?_some hc
      obtain ⟨p, rfl, hw⟩ := op_open hcl ht'
      refine ⟨p, hw, fun j u hj => ?_⟩
      have hjl : j < 3 := (List.getElem?_eq_some_iff.1 hj).1
      have := hat j hjl
      rw [Go.Deep.add_add] at this
      exact this.trans hj)
    refine ⟨ls, hls.symm, by omega, ⟨rfl, by unfold maxLen at hm; omega, fun _ => ⟨ad, rfl, fun j p hj => ⟨_, rfl, k34_mk W p, (hp j p hj).2⟩⟩⟩, fun p hpm => ?_⟩
    obtain ⟨i, hi⟩ := List.getElem?_of_mem hpm
    exact (hp i p hi).1
end
end Go.Proofs.Ytehjfcfnnpjedaa.Given
