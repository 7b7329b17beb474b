/- Operations, as they come in. -/
import Derived.Deep.Slices
import Derived.ChangeSame
import Derived.WalkKit
import Derived.Test.YtpkgpcolngoicaaProg
import Derived.Test.YtpkgpcolngoicaaAx1
set_option linter.unusedVariables false
set_option linter.unusedSimpArgs false
namespace Go.Proofs.Ytpkgpcolngoicaa.Given
open Go.RowKit Go.ChangeShapes Go.WideShapes Go.Deep Go.Proofs.Ytpkgpcolngoicaa.All Go.Proofs.YtpkgpcolngoicaaW.PrintWords
structure SOP where
  f0 : Int
  f1 : Int
  f2 : Int
def zOP : SOP := ⟨(0 : Int), (0 : Int), (0 : Int)⟩
def kOP : Kd SOP := Kd.iso (Kd.pair (Kd.int .u8) (Kd.pair (Kd.int .i64) (Kd.int .u8))) (fun x : SOP => (x.f0, x.f1, x.f2))
theorem kOP_open {w : World} {x : SOP} {cs : List Value} (h : kOP.K w x cs) : cs = [.int .u8 x.f0, .int .i64 x.f1, .int .u8 x.f2] := by
  obtain ⟨_, _, rfl, rfl, ⟨_, _, rfl, rfl, rfl⟩⟩ := h
  exact rfl
theorem kOP_mk (w : World) (x : SOP)  : kOP.K w x [.int .u8 x.f0, .int .i64 x.f1, .int .u8 x.f2] := ⟨[.int .u8 x.f0], [.int .i64 x.f1, .int .u8 x.f2], rfl, rfl, ⟨[.int .i64 x.f1], [.int .u8 x.f2], rfl, rfl, rfl⟩⟩
def rd_OP (xs : List SOP) (i : Int) : SOP := xs.getD i.toNat zOP
theorem at_OP {w : World} {A : Option Addr} {n : Nat} {xs : List SOP} (h : Kd.C kOP w A n xs) (i : Int) (h0 : 0 ≤ i) (h1 : i < n) : ∃ ad , A = some ad ∧ w.cell? (ad.add (i.toNat * 3)) = some (.int .u8 (rd_OP xs i).f0) ∧ w.cell? ⟨(ad.add (i.toNat * 3)).block, (ad.add (i.toNat * 3)).off + 1, none⟩ = some (.int .i64 (rd_OP xs i).f1) ∧ w.cell? ⟨(ad.add (i.toNat * 3)).block, (ad.add (i.toNat * 3)).off + 2, none⟩ = some (.int .u8 (rd_OP xs i).f2) := by
  obtain ⟨ad, c, e, _, hK, hc0⟩ := Kd.C_get h zOP i h0 h1
  have hc : ∀ j u, c[j]? = some u → w.cell? (ad.add (i.toNat * 3 + j)) = some u := hc0
  obtain rfl := kOP_open hK
  exact ⟨ad, e, hc 0 _ rfl, by rw [← add_field _ _ 1 (by omega)]; exact hc 1 _ rfl, by rw [← add_field _ _ 2 (by omega)]; exact hc 2 _ rfl⟩
section
variable {H : Type} {enc : TypeId × Value → H} {W : World} {base : Nat} {spare : Nat → Bool} {held : Bool}
def OpWf (p : SOP) : Prop := (Lit.int .u8 p.f0).wf = true ∧ (Lit.int .i64 p.f1).wf = true ∧ (Lit.int .u8 p.f2).wf = true
theorem op_open {fuel : Nat} {cs : List Value} {x : DataW H × List MemPlace} (hl : cs.length = 3) (hf : DataW.trod enc Try.prog W base spare held fuel 42 cs = some x) :
    ∃ p : SOP, cs = [.int .u8 p.f0, .int .i64 p.f1, .int .u8 p.f2] ∧ OpWf p := by
  obtain ⟨xs, n, rfl, _, _, ln, el⟩ := DataW.trod_struct Try.underlying42 hf
  have c5 : Try.prog.cellsOf 5 = 1 := by kernel_rfl
  have c3 : Try.prog.cellsOf 3 = 1 := by kernel_rfl
  have e0 := el 0 _ rfl
  rw [List.getElem?_eq_getElem (show 0 < xs.length by rw [ln]; decide)] at e0
  obtain ⟨a, q0, _, w0⟩ := DataW.trod_int Try.underlying5 e0
  have e1 := el 1 _ rfl
  rw [List.getElem?_eq_getElem (show 1 < xs.length by rw [ln]; decide)] at e1
  obtain ⟨b, q1, _, w1⟩ := DataW.trod_int Try.underlying3 e1
  have e2 := el 2 _ rfl
  rw [List.getElem?_eq_getElem (show 2 < xs.length by rw [ln]; decide)] at e2
  obtain ⟨c, q2, _, w2⟩ := DataW.trod_int Try.underlying5 e2
  refine ⟨⟨a, b, c⟩, ?_, w0, w1, w2⟩
  clear el hf e0 e1 e2
  match cs, hl with
  | [x0, x1, x2], _ =>
    have g0 : [x0] = [Value.int .u8 a] := by simpa [c5] using q0
    have g1 : [x1] = [Value.int .i64 b] := by simpa [c3] using q1
    have g2 : [x2] = [Value.int .u8 c] := by simpa [c5] using q2
    obtain rfl := (List.cons.inj g0).1
    obtain rfl := (List.cons.inj g1).1
    obtain rfl := (List.cons.inj g2).1
    rfl
theorem list_of {α : Type} {P : Nat → α → Prop} (n : Nat) (h : ∀ i, i < n → ∃ x, P i x) : ∃ l : List α, l.length = n ∧ ∀ i x, l[i]? = some x → P i x := by
  induction n with
  | zero => exact ⟨[], rfl, fun i x hx => by simp at hx⟩
  | succ n ih =>
    obtain ⟨l, hl, hp⟩ := ih (fun i hi => h i (by omega))
    obtain ⟨x, hx⟩ := h n (by omega)
    refine ⟨l ++ [x], by simp [hl], fun i y hy => ?_⟩
    rcases Nat.lt_trichotomy i n with hi | hi | hi
    · rw [List.getElem?_append_left (by omega)] at hy
      exact hp i y hy
    · subst hi
      rw [List.getElem?_append_right (by omega), hl] at hy
      simp at hy
      subst hy
      exact hx
    · rw [List.getElem?_eq_none (by simp; omega)] at hy
      cases hy
/-- The operations that came in. -/
theorem ops_open {a : Option Addr} {len cap : Nat} {d : DataW H} {ps : List MemPlace} (h : DataW.Trod enc Try.prog W base spare held 40 (.slice a len cap) d ps) :
    ∃ l : List SOP, len = l.length ∧ l.length ≤ cap ∧ Kd.C kOP W a l.length l ∧ ∀ p ∈ l, OpWf p := by
  obtain ⟨fuel, hf⟩ := h
  have cc : Try.prog.cellsOf 42 = 3 := by kernel_rfl
  rcases open_slice Try.underlying40 hf with ⟨hcs, _⟩ | ⟨ad, l, c, m, n, D, Pl, hcs, _, hl, hm, hmm, _, hi⟩
  · simp [Value.cells] at hcs
    obtain ⟨rfl, rfl, rfl⟩ := hcs
    exact ⟨[], rfl, Nat.le_refl _, Kd.C_nil _ _, fun p hp => by cases hp⟩
  · simp [Value.cells] at hcs
    obtain ⟨rfl, rfl, rfl⟩ := hcs
    have hlm : len ≤ m := by rw [hmm]; split <;> omega
    rw [cc] at hi
    obtain ⟨ls, hls, hp⟩ := list_of (P := fun i (p : SOP) => OpWf p ∧ ∀ j u, ([.int .u8 p.f0, .int .i64 p.f1, .int .u8 p.f2] : List Value)[j]? = some u → W.cell? (ad.add (i * 3 + j)) = some u) len (fun i hil => by
      obtain ⟨cs', hc, ht'⟩ := hi i (by omega)
      obtain ⟨_, hcl, hat⟩ := World.cells?_some hc
      obtain ⟨p, rfl, hw⟩ := op_open hcl ht'
      refine ⟨p, hw, fun j u hj => ?_⟩
      have hjl : j < 3 := (List.getElem?_eq_some_iff.1 hj).1
      have := hat j hjl
      rw [Go.Deep.add_add] at this
      exact this.trans hj)
    refine ⟨ls, hls.symm, by omega, ⟨rfl, by unfold maxLen at hm; omega, fun _ => ⟨ad, rfl, fun j p hj => ⟨_, rfl, kOP_mk W p, (hp j p hj).2⟩⟩⟩, fun p hpm => ?_⟩
    obtain ⟨i, hi⟩ := List.getElem?_of_mem hpm
    exact (hp i p hi).1
end
end Go.Proofs.Ytpkgpcolngoicaa.Given
