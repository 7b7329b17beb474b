/- A flash chip as it is held: its box, its bytes, its step, and the blocks that the steps have captured. -/
import Derived.Test.YtpkgpcolngoicaaAx1
import Derived.Test.YtpkgpcolngoicaaSep
import Derived.Test.YtpkgpcolngoicaaClone
import Derived.StillTailTactics
import Derived.Deep.QuietTactic
import Derived.BigQuiet
import Derived.Deep.RegionHeld3
import Derived.Deep.MidRow
import Derived.Laws.EntriesVeiled
set_option linter.unusedVariables false
set_option linter.unusedSimpArgs false
namespace Go.Proofs.Ytpkgpcolngoicaa.Given
open Go.RowKit Go.Proofs.Ytpkgpcolngoicaa.All Go.Proofs.Ytpkgpcolngoicaa.Sep Go.Proofs.YtpkgpcolngoicaaW.PrintWords Go.Proofs.YtpkgpcolngoicaaW.PrintLast Go.Proofs.YtpkgpcolngoicaaW.PrintMore
attribute [local go_sem] max2_int min2_int max_two min_two

/-- Where a key leads to. -/
inductive Tgt
  | cmd
  | erase
/-- What the next write is taken by. -/
inductive Stp
  | first (t : Tgt)
  | second (t : Tgt)
  | on_ (t : Tgt)
  | prog
structure FS where
  sectors : Int
  data : List Int
  step : Stp
  named : Bool
  turn : Int
  wk : Int
  wf : Int
  wm : Int
  wv : Int
  left : Int
  raw : Bool
abbrev ptr (g : Nat) : Value := .pointer (some ⟨g, 0, none⟩)
def fnOf : Tgt → Nat
  | .cmd => 49
  | .erase => 58
abbrev plainV (n g : Nat) : Value := .func (.func n) #[ptr g] #[]
abbrev secV (g1 g2 : Nat) : Value := .func (.func 55) #[] #[ptr g2, ptr g1]
abbrev firV (g1 g3 : Nat) : Value := .func (.func 56) #[] #[ptr g3, ptr g1]
/-- A block of one cell. -/
structure Old where
  blk : Nat
  val : Value
  typ : Nat
/-- The value of a step; what it has captured lies among the old blocks. -/
def StepIs (g : Nat) (olds : List Old) : Stp → Value → Prop
  | .on_ t, v => v = plainV (fnOf t) g
  | .prog, v => v = plainV 57 g
  | .second t, v => ∃ g1 g2, v = secV g1 g2 ∧ ⟨g1, ptr g, 25⟩ ∈ olds ∧ ⟨g2, plainV (fnOf t) g, 43⟩ ∈ olds
  | .first t, v => ∃ g1 g2 g3, v = firV g1 g3 ∧ ⟨g1, ptr g, 25⟩ ∈ olds ∧ ⟨g2, plainV (fnOf t) g, 43⟩ ∈ olds ∧ ⟨g3, secV g1 g2, 43⟩ ∈ olds
theorem StepIs.more {g : Nat} {olds olds' : List Old} {st : Stp} {v : Value} (h : StepIs g olds st v) (hs : ∀ x ∈ olds, x ∈ olds') : StepIs g olds' st v := by
  cases st with
  | on_ t => exact h
  | prog => exact h
  | second t =>
    obtain ⟨g1, g2, h1, h2, h3⟩ := h
    exact ⟨g1, g2, h1, hs _ h2, hs _ h3⟩
  | first t =>
    obtain ⟨g1, g2, g3, h1, h2, h3, h4⟩ := h
    exact ⟨g1, g2, g3, h1, hs _ h2, hs _ h3, hs _ h4⟩
def cellsOf (s : FS) (q cap : Nat) (sv : Value) : Array Value :=
  #[.int .i64 s.sectors, .slice (some ⟨q, 0, none⟩) s.data.length cap, sv, .bool s.named, .int .u8 s.turn, .int .i64 s.wk, .int .i64 s.wf, .int .i64 s.wm, .int .u8 s.wv, .int .i64 s.left, .bool s.raw]
structure FIn (g q cap : Nat) (s : FS) (sv : Value) (olds : List Old) (w : World) (f : Nat → Prop) : Prop where
  at_ : f g
  lt : ∀ k, f k → k < w.heap.size
  pos : 0 < s.data.length
  le : s.data.length ≤ 100000
  box : w.heap[g]? = some (.cells (cellsOf s q cap sv) 65 (0, 0))
  capOk : s.data.length ≤ cap
  fq : f q
  row : (Kd.int .u8).R 5 w 0 (fun k => k = q) (.slice (some ⟨q, 0, none⟩) s.data.length cap) s.data
  old : ∀ x ∈ olds, f x.blk ∧ w.heap[x.blk]? = some (.cells #[x.val] x.typ (0, 0)) ∧ (x.typ = 25 ∨ x.typ = 43)
def fchip (g q cap : Nat) (s : FS) (sv : Value) (olds : List Old) : Thing where
  P w f := FIn g q cap s sv olds w f
  stays := fun {w w' f} h hs => by
    obtain ⟨h1, h2, h3, h4, hb, hc, hf, hr, ho⟩ := h
    refine ⟨h1, fun k hk => ?_, h3, h4, (hs g h1).trans hb, hc, hf, Kd.R_move hr (fun k hk => by subst hk; exact hs _ hf), fun x hx => ⟨(ho x hx).1, (hs _ (ho x hx).1).trans (ho x hx).2.1, (ho x hx).2.2⟩⟩
    have e1 := hs k hk
    have e2 := h2 k hk
    rw [Array.getElem?_eq_getElem e2] at e1
    exact (Array.getElem?_eq_some_iff.1 e1).1
  lt := fun h => h.lt
theorem FIn.qg {g q cap : Nat} {s : FS} {sv : Value} {olds : List Old} {w : World} {f : Nat → Prop} (h : FIn g q cap s sv olds w f) : q ≠ g := by
  obtain ⟨q', c', e, _, _, cells, hc⟩ := Kd.R_form h.row h.pos
  injection e with e _ _
  injection e with e
  injection e with e
  subst e
  intro e
  subst e
  have hb := h.box
  rw [hc] at hb
  injection hb with hb
  injection hb with _ hb _
  cases hb
theorem FIn.og {g q cap : Nat} {s : FS} {sv : Value} {olds : List Old} {w : World} {f : Nat → Prop} (h : FIn g q cap s sv olds w f) : ∀ x ∈ olds, x.blk ≠ g := by
  intro x hx e
  obtain ⟨_, hc, ht⟩ := h.old x hx
  have hb := h.box
  rw [← e, hc] at hb
  injection hb with hb
  injection hb with _ hb _
  rw [hb] at ht
  rcases ht with ht | ht <;> cases ht
theorem FIn.oq {g q cap : Nat} {s : FS} {sv : Value} {olds : List Old} {w : World} {f : Nat → Prop} (h : FIn g q cap s sv olds w f) : ∀ x ∈ olds, x.blk ≠ q := by
  intro x hx e
  obtain ⟨q', c', e', _, _, cells, hc'⟩ := Kd.R_form h.row h.pos
  injection e' with e' _ _
  injection e' with e'
  injection e' with e'
  subst e'
  obtain ⟨_, hc, ht⟩ := h.old x hx
  rw [e, hc'] at hc
  injection hc with hb
  injection hb with _ hb _
  rw [← hb] at ht
  rcases ht with ht | ht <;> cases ht
theorem cell_of_block {w : World} {g : Nat} {cs : Array Value} {t : TypeId} (h : w.heap[g]? = some (.cells cs t (0, 0))) (j : Nat) (v : Value) (hj : cs[j]? = some v) : w.cell? ⟨g, j, none⟩ = some v := by
  simp [World.cell?, h, hj]
section
variable {w0 w W : World} {ts : List Thing} {g q cap : Nat} {s : FS} {sv : Value} {olds : List Old}
theorem fchip_in (h : Held w0 w (fchip g q cap s sv olds :: ts)) : ∃ f, FIn g q cap s sv olds w f := by
  obtain ⟨f, _, h⟩ := h.at_
  exact ⟨f, h⟩
/-- A store into the box. -/
theorem fchip_store (h : Held w0 w (fchip g q cap s sv olds :: ts)) (j : Nat) (u : Value) (s' : FS) (sv' : Value) (hc : (cellsOf s q cap sv).setIfInBounds j u = cellsOf s' q cap sv') (hd : s'.data = s.data) :
    Held w0 (w.setCell ⟨g, j, none⟩ u) (fchip g q cap s' sv' olds :: ts) :=
  h.one (fun f _ hf => by
    have hq := FIn.qg hf
    have ho := FIn.og hf
    obtain ⟨h1, h2, h3, h4, hb, hcp, hfq, hr, hold⟩ := hf
    refine ⟨f, ⟨h1, fun k hk => by simpa [World.setCell] using h2 k hk, by rw [hd]; exact h3, by rw [hd]; exact h4, ?_, by rw [hd]; exact hcp, hfq, ?_, fun x hx => ⟨(hold x hx).1, ?_, (hold x hx).2.2⟩⟩, Frame.set h1 _⟩
    · have := blk_set hb j u
      rwa [hc] at this
    · rw [hd]
      exact Kd.R_far hr (fun k hk => by subst hk; exact hq) _
    · rw [Below.heap_setCell _ _ _ _ (by exact ho x hx)]
      exact (hold x hx).2.1)
/-- New blocks are added. -/
theorem fchip_grow (h : Held w0 w (fchip g q cap s sv olds :: ts)) (hb : Below w.heap.size w W) (new : List Old) (hn : ∀ x ∈ new, w.heap.size ≤ x.blk ∧ W.heap[x.blk]? = some (.cells #[x.val] x.typ (0, 0)) ∧ (x.typ = 25 ∨ x.typ = 43)) :
    Held w0 W (fchip g q cap s sv (new ++ olds) :: ts) :=
  h.one (fun f _ hf => by
    obtain ⟨h1, h2, h3, h4, hbx, hcp, hfq, hr, hold⟩ := hf
    refine ⟨fun k => f k ∨ ∃ x ∈ new, x.blk = k, ⟨.inl h1, fun k hk => ?_, h3, h4, (hb.block _ (h2 g h1)).trans hbx, hcp, .inl hfq, Kd.R_below hr hb, fun x hx => ?_⟩, Frame.fresh hb (fun k hk => hk.imp id (fun ⟨x, hx, e⟩ => e ▸ (hn x hx).1))⟩
    · rcases hk with hk | ⟨x, hx, rfl⟩
      · exact Nat.lt_of_lt_of_le (h2 k hk) hb.size
      · exact (Array.getElem?_eq_some_iff.1 (hn x hx).2.1).1
    · rcases List.mem_append.1 hx with hx | hx
      · exact ⟨.inr ⟨x, hx, rfl⟩, (hn x hx).2⟩
      · exact ⟨.inl (hold x hx).1, (hb.block _ (h2 _ (hold x hx).1)).trans (hold x hx).2.1, (hold x hx).2.2⟩)
/-- A byte is written. -/
theorem fchip_put (h : Held w0 w (fchip g q cap s sv olds :: ts)) (i : Int) (x : Int) :
    Held w0 (w.setCell ⟨q, i.toNat, none⟩ (.int .u8 x)) (fchip g q cap { s with data := s.data.set i.toNat x } sv olds :: ts) :=
  h.one (fun f _ hf => by
    have hq := FIn.qg hf
    have ho := FIn.oq hf
    obtain ⟨h1, h2, h3, h4, hb, hcp, hfq, hr, hold⟩ := hf
    obtain ⟨hr1, _⟩ := Kd.R_put hr i x
    refine ⟨f, ⟨h1, fun k hk => by simpa [World.setCell] using h2 k hk, by simpa using h3, by simpa using h4, ?_, by simpa using hcp, hfq, by rw [List.length_set]; exact hr1, fun y hy => ⟨(hold y hy).1, ?_, (hold y hy).2.2⟩⟩, Frame.set hfq _⟩
    · rw [Below.heap_setCell _ _ _ _ (Ne.symm hq), hb]
      simp [cellsOf]
    · rw [Below.heap_setCell _ _ _ _ (by exact ho y hy)]
      exact (hold y hy).2.1)
theorem fchip_cell (h : Held w0 w (fchip g q cap s sv olds :: ts)) (j : Nat) (v : Value) (hj : (cellsOf s q cap sv)[j]? = some v) : w.cell? ⟨g, j, none⟩ = some v := by
  obtain ⟨f, hf⟩ := fchip_in h
  exact cell_of_block hf.box j v hj
theorem fchip_frozen (h : Held w0 w (fchip g q cap s sv olds :: ts)) (j : Nat) : w.frozen? ⟨g, j, none⟩ = false := by
  obtain ⟨f, hf⟩ := fchip_in h
  exact blk_frozen hf.box j
theorem fchip_old (h : Held w0 w (fchip g q cap s sv olds :: ts)) (x : Old) (hx : x ∈ olds) : w.heap[x.blk]? = some (.cells #[x.val] x.typ (0, 0)) := by
  obtain ⟨f, hf⟩ := fchip_in h
  exact (hf.old x hx).2.1
theorem fchip_len (h : Held w0 w (fchip g q cap s sv olds :: ts)) : 0 < s.data.length ∧ s.data.length ≤ 100000 := by
  obtain ⟨f, hf⟩ := fchip_in h
  exact ⟨hf.pos, hf.le⟩
theorem fchip_row (h : Held w0 w (fchip g q cap s sv olds :: ts)) : s.data.length ≤ cap ∧ (Kd.int .u8).R 5 w 0 (fun k => k = q) (.slice (some ⟨q, 0, none⟩) s.data.length cap) s.data := by
  obtain ⟨f, hf⟩ := fchip_in h
  exact ⟨hf.capOk, hf.row⟩
end
/-- The chip, whatever its step's blocks are. -/
def Chipped (w0 w : World) (g : Nat) (s : FS) (ts : List Thing) : Prop := ∃ q cap sv olds, StepIs g olds s.step sv ∧ Held w0 w (fchip g q cap s sv olds :: ts)
end Go.Proofs.Ytpkgpcolngoicaa.Given
