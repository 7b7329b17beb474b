/- An argument that is a slice of slices of bytes, opened; and the walk of ImageCuts. -/
import Derived.Test.YtmlldfkmmmncgaaDoorAx12
import Derived.Deep.Slices
import Derived.ChangeSlices
import Derived.ChangeSame
import Derived.WalkKit
import Derived.Test.YtmlldfkmmmncgaaDoorProg
import Derived.Test.YtmlldfkmmmncgaaDoorPureImageCuts
set_option linter.unusedVariables false
set_option linter.unusedSimpArgs false
namespace Go.Proofs.YtmlldfkmmmncgaaDoor.Given
open Go.RowKit Go.ChangeShapes Go.WideShapes Go.Deep Go.Proofs.YtmlldfkmmmncgaaDoor.All Go.Proofs.YtmlldfkmmmncgaaDoorW.PrintWords
section
variable {H : Type} {enc : TypeId × Value → H} {W : World} {base : Nat} {spare : Nat → Bool} {held : Bool}
theorem list_of {α : Type} {P : Nat → α → Prop} (n : Nat) (h : ∀ i, i < n → ∃ x, P i x) : ∃ l : List α, l.length = n ∧ ∀ i x, l[i]? = some x → P i x := by
  induction n with
  | zero => exact ⟨[], rfl, fun i x hx => by simp at hx⟩
  | succ n ih =>
    obtain ⟨l, hl, hp⟩ := ih (fun i hi => h i (by omega))
    obtain ⟨x, hx⟩ := h n (by omega)
    refine ⟨l ++ [x], by simp [hl], fun i y hy => ?_⟩
    rcases Nat.lt_trichotomy i n with hi | hi | hi
    · rw [List.getElem?_append_left (by omega)] at hy
      exact hp i y hy
    · subst hi
      rw [List.getElem?_append_right (by omega), hl] at hy
      simp at hy
      subst hy
      exact hx
    · rw [List.getElem?_eq_none (by simp; omega)] at hy
      cases hy
/-- A row of bytes, read. -/
theorem bytes_open {fuel : Nat} {cs : List Value} {x : DataW H × List MemPlace} (hf : DataW.trod enc Tryd.prog W base spare held fuel 25 cs = some x) :
    ∃ l : List Int, (Kd.slice 5 (Kd.int .u8)).K W l cs := by
  rcases open_ints Tryd.underlying25 Tryd.underlying5 (by kernel_rfl) hf with ⟨rfl, _⟩ | ⟨x, l, c, zs, rfl, _, hl, hm, hz, _, hcell, hwz⟩
  · exact ⟨[], none, 0, rfl, Nat.le_refl _, Kd.C_nil _ _⟩
  · have hz2 : l ≤ zs.length := by rw [hz]; split <;> omega
    have e : (zs.take l).length = l := by rw [List.length_take]; omega
    refine ⟨zs.take l, some x, c, by rw [e], by omega, ?_⟩
    rw [e]
    refine ⟨e, by unfold maxLen at hm; omega, fun _ => ⟨x, rfl, fun j p hj => ⟨[.int .u8 p], rfl, rfl, fun k u hk => ?_⟩⟩⟩
    have hjl : j < l := by have := (List.getElem?_eq_some_iff.1 hj).1; omega
    have hk0 : k = 0 := by have := (List.getElem?_eq_some_iff.1 hk).1; simp at this; exact this
    subst hk0
    obtain rfl : Value.int .u8 p = u := by simpa using hk
    rw [List.getElem?_take_of_lt hjl] at hj
    have := hcell j (by omega)
    rw [List.getD_eq_getElem?_getD, hj] at this
    show W.cell? (x.add (j * 1 + 0)) = _
    rw [Nat.mul_one, Nat.add_zero]
    exact this
/-- The pieces that came in. -/
theorem ops_open {a : Option Addr} {len cap : Nat} {d : DataW H} {ps : List MemPlace} (h : DataW.Trod enc Tryd.prog W base spare held 31 (.slice a len cap) d ps) :
    ∃ l : List (List Int), len = l.length ∧ l.length ≤ cap ∧ Kd.C (Kd.slice 5 (Kd.int .u8)) W a l.length l ∧ True := by
  obtain ⟨fuel, hf⟩ := h
  have cc : Tryd.prog.cellsOf 25 = 1 := by kernel_rfl
  rcases open_slice Tryd.underlying31 hf with ⟨hcs, _⟩ | ⟨ad, l, c, m, n, D, Pl, hcs, _, hl, hm, hmm, _, hi⟩
  · simp [Value.cells] at hcs
    obtain ⟨rfl, rfl, rfl⟩ := hcs
    exact ⟨[], rfl, Nat.le_refl _, Kd.C_nil _ _, trivial⟩
  · simp [Value.cells] at hcs
    obtain ⟨rfl, rfl, rfl⟩ := hcs
    have hlm : len ≤ m := by rw [hmm]; split <;> omega
    rw [cc] at hi
    obtain ⟨ls, hls, hp⟩ := list_of (P := fun i (p : List Int) => ∃ cs, cs.length = 1 ∧ (Kd.slice 5 (Kd.int .u8)).K W p cs ∧ ∀ j u, cs[j]? = some u → W.cell? (ad.add (i * 1 + j)) = some u) len (fun i hil => by
      obtain ⟨cs', hc, ht'⟩ := hi i (by omega)
      obtain ⟨_, hcl, hat⟩ := World.cells?_some hc
      obtain ⟨p, hw⟩ := bytes_open ht'
      refine ⟨p, cs', hcl, hw, fun j u hj => ?_⟩
      have hjl : j < 1 := by have := (List.getElem?_eq_some_iff.1 hj).1; omega
      have := hat j hjl
      rw [Go.Deep.add_add] at this
      exact this.trans hj)
    exact ⟨ls, hls.symm, by omega, ⟨rfl, by unfold maxLen at hm; omega, fun _ => ⟨ad, rfl, fun j p hj => hp j p hj⟩⟩, trivial⟩
end
theorem imageCuts_walk (a0 : Option Addr) (cap0 : Nat) (l0 : List Int) (a1 : Int) (a2 : Option Addr) (cap2 : Nat) (l2 : List (List Int)) (a3 : Int) (w : World) (hG : Laid w)
    (hr0 : Kd.C (Kd.int .u8) w a0 l0.length l0) (hc0 : l0.length ≤ cap0) (hw0 : ∀ n ∈ l0, (Lit.int .u8 n).wf = true) (w1 : (Lit.int .i64 a1).wf = true)
    (hr2 : Kd.C (Kd.slice 5 (Kd.int .u8)) w a2 l2.length l2) (hc2 : l2.length ≤ cap2) (hw2 : True) (w3 : (Lit.int .i64 a3).wf = true) :
    Calls Tryd.prog 7 #[.slice a0 l0.length cap0, .int .i64 a1, .slice a2 l2.length cap2, .int .i64 a3] w fun e w' => e = .returned (.bool true) ∧ Below w.heap.size w w' := by
  obtain ⟨k, h⟩ := Pure.ImageCuts l0 a1 l2 a3 w3
  exact keepsakelaw05_ImageCuts.calls k a0 cap0 l0 a1 a2 cap2 l2 a3 true w hG hr0 hc0 hr2 hc2 h
end Go.Proofs.YtmlldfkmmmncgaaDoor.Given
