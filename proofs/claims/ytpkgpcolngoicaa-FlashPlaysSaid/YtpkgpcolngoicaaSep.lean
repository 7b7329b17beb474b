/- What a call owns, thing by thing, apart from one another: rows of bytes, boxes, chips; each step turns one thing and keeps the others. -/
import Derived.Test.YtpkgpcolngoicaaWWords
import Derived.Test.YtpkgpcolngoicaaProg
import Derived.WalkKit
set_option linter.unusedVariables false
namespace Go.Proofs.Ytpkgpcolngoicaa.Sep
open Go.RowKit Go.Proofs.YtpkgpcolngoicaaW.PrintWords

structure Thing where
  P : World → (Nat → Prop) → Prop
  stays : ∀ {w w' : World} {f : Nat → Prop}, P w f → (∀ k, f k → w'.heap[k]? = w.heap[k]?) → P w' f
  lt : ∀ {w : World} {f : Nat → Prop}, P w f → ∀ k, f k → k < w.heap.size

def Sep : List Thing → World → (Nat → Prop) → Prop
  | [], _, _ => True
  | t :: ts, w, S => ∃ f g : Nat → Prop, t.P w f ∧ Sep ts w g ∧ (∀ k, f k → S k) ∧ (∀ k, g k → S k) ∧ (∀ k, f k → g k → False)

theorem Sep.mono {ts : List Thing} {w : World} {S S' : Nat → Prop} (h : Sep ts w S) (hS : ∀ k, S k → S' k) : Sep ts w S' := by
  cases ts with
  | nil => trivial
  | cons t ts =>
    obtain ⟨f, g, hf, hg, h1, h2, h3⟩ := h
    exact ⟨f, g, hf, hg, fun k hk => hS k (h1 k hk), fun k hk => hS k (h2 k hk), h3⟩
theorem Sep.bound {ts : List Thing} : ∀ {w : World} {S : Nat → Prop}, Sep ts w S → Sep ts w (fun k => S k ∧ k < w.heap.size) := by
  induction ts with
  | nil => intro w S _; trivial
  | cons t ts ih =>
    intro w S h
    obtain ⟨f, g, hf, hg, h1, h2, h3⟩ := h
    exact ⟨f, fun k => g k ∧ k < w.heap.size, hf, ih hg, fun k hk => ⟨h1 k hk, t.lt hf k hk⟩, fun k hk => ⟨h2 k hk.1, hk.2⟩, fun k h4 h5 => h3 k h4 h5.1⟩
theorem Sep.stays {ts : List Thing} : ∀ {w w' : World} {S : Nat → Prop}, Sep ts w S → (∀ k, S k → k < w.heap.size → w'.heap[k]? = w.heap[k]?) → Sep ts w' S := by
  induction ts with
  | nil => intro w w' S _ _; trivial
  | cons t ts ih =>
    intro w w' S h hs
    obtain ⟨f, g, hf, hg, h1, h2, h3⟩ := h
    exact ⟨f, g, t.stays hf (fun k hk => hs k (h1 k hk) (t.lt hf k hk)), ih hg (fun k hk hl => hs k (h2 k hk) hl), h1, h2, h3⟩
theorem Sep.split {us ts : List Thing} : ∀ {w : World} {S : Nat → Prop}, Sep (us ++ ts) w S →
    ∃ f g : Nat → Prop, Sep us w f ∧ Sep ts w g ∧ (∀ k, f k → S k) ∧ (∀ k, g k → S k) ∧ (∀ k, f k → g k → False) := by
  induction us with
  | nil => intro w S h; exact ⟨fun _ => False, S, trivial, h, fun _ h => h.elim, fun _ h => h, fun _ h => h.elim⟩
  | cons t us ih =>
    intro w S h
    obtain ⟨f, g, hf, hg, h1, h2, h3⟩ := h
    obtain ⟨f', g', hf', hg', h1', h2', h3'⟩ := ih hg
    refine ⟨fun k => f k ∨ f' k, g', ⟨f, f', hf, hf', fun k hk => .inl hk, fun k hk => .inr hk, fun k a b => h3 k a (h1' k b)⟩, hg', fun k hk => hk.elim (h1 k) (fun x => h2 k (h1' k x)), fun k hk => h2 k (h2' k hk), fun k a b => a.elim (fun x => h3 k x (h2' k b)) (fun x => h3' k x b)⟩
theorem Sep.join {us ts : List Thing} : ∀ {w : World} {f g : Nat → Prop}, Sep us w f → Sep ts w g → (∀ k, f k → g k → False) → Sep (us ++ ts) w (fun k => f k ∨ g k) := by
  induction us with
  | nil => intro w f g _ hg _; exact Sep.mono (ts := ts) hg (fun k hk => .inr hk)
  | cons t us ih =>
    intro w f g hu hg hd
    obtain ⟨a, b, ha, hb, h1, h2, h3⟩ := hu
    exact ⟨a, fun k => b k ∨ g k, ha, ih hb hg (fun k x y => hd k (h2 k x) y), fun k hk => .inl (h1 k hk), fun k hk => hk.elim (fun x => .inl (h2 k x)) .inr, fun k x y => y.elim (h3 k x) (hd k (h1 k x))⟩
theorem Sep.perm {ts us : List Thing} (h : ts.Perm us) : ∀ {w : World} {S : Nat → Prop}, Sep ts w S → Sep us w S := by
  induction h with
  | nil => intro w S h; exact h
  | cons t _ ih =>
    intro w S h
    obtain ⟨f, g, hf, hg, r⟩ := h
    exact ⟨f, g, hf, ih hg, r⟩
  | swap s t l =>
    intro w S h
    obtain ⟨f, g, hf, ⟨f', g', hf', hg', h1', h2', h3'⟩, h1, h2, h3⟩ := h
    exact ⟨f', fun k => f k ∨ g' k, hf', ⟨f, g', hf, hg', fun k x => .inl x, fun k x => .inr x, fun k x y => h3 k x (h2' k y)⟩, fun k x => h2 k (h1' k x), fun k x => x.elim (h1 k) (fun y => h2 k (h2' k y)), fun k x y => y.elim (fun z => h3 k z (h1' k x)) (h3' k x)⟩
  | trans _ _ ih1 ih2 => intro w S h; exact ih2 (ih1 h)

/-- From w to w' no block of w's has turned but those of f; f' are some of f, and new ones. -/
structure Frame (w w' : World) (f f' : Nat → Prop) : Prop where
  os : w'.os = w.os
  tape : w'.tape = w.tape
  output : w'.output = w.output
  size : w.heap.size ≤ w'.heap.size
  block : ∀ k, k < w.heap.size → ¬ f k → w'.heap[k]? = w.heap[k]?
  foot : ∀ k, f' k → f k ∨ w.heap.size ≤ k
theorem Frame.refl (w : World) (f : Nat → Prop) : Frame w w f f := ⟨rfl, rfl, rfl, Nat.le_refl _, fun _ _ _ => rfl, fun _ h => .inl h⟩
theorem Frame.of_below {w w' : World} {f : Nat → Prop} (h : Below w.heap.size w w') : Frame w w' f f := ⟨h.os, h.tape, h.output, h.size, fun k hk _ => h.block k hk, fun _ h => .inl h⟩
theorem Frame.fresh {w w' : World} {f f' : Nat → Prop} (h : Below w.heap.size w w') (hf : ∀ k, f' k → f k ∨ w.heap.size ≤ k) : Frame w w' f f' := ⟨h.os, h.tape, h.output, h.size, fun k hk _ => h.block k hk, hf⟩
theorem Frame.trans {a b c : World} {f g h : Nat → Prop} (x : Frame a b f g) (y : Frame b c g h) : Frame a c f h :=
  ⟨y.os.trans x.os, y.tape.trans x.tape, y.output.trans x.output, Nat.le_trans x.size y.size,
    fun k hk hf => (y.block k (Nat.lt_of_lt_of_le hk x.size) (fun hg => (x.foot k hg).elim hf (fun h => by omega))).trans (x.block k hk hf),
    fun k hk => (y.foot k hk).elim (x.foot k) (fun h => .inr (Nat.le_trans x.size h))⟩
theorem Frame.set {w : World} {f : Nat → Prop} {p : Addr} (hp : f p.block) (u : Value) : Frame w (w.setCell p u) f f :=
  ⟨rfl, rfl, rfl, by simp [World.setCell], fun k _ hk => Below.heap_setCell w p u k (fun e => hk (e ▸ hp)), fun _ h => .inl h⟩
theorem Frame.drew (w : World) (f : Nat → Prop) : Frame w w.drew f f := Frame.of_below (Below.refl _ _).drew
theorem Frame.mono {w w' : World} {f f' g : Nat → Prop} (h : Frame w w' f f') (hg : ∀ k, g k → f' k) : Frame w w' f g := ⟨h.os, h.tape, h.output, h.size, h.block, fun k hk => h.foot k (hg k hk)⟩

/-- What is held since w0. -/
structure Held (w0 w : World) (ts : List Thing) : Prop where
  bel : Below w0.heap.size w0 w
  sep : ∃ S : Nat → Prop, (∀ k, S k → w0.heap.size ≤ k) ∧ Sep ts w S
theorem Held.nil (w : World) : Held w w [] := ⟨Below.refl _ _, fun _ => False, fun _ h => h.elim, trivial⟩
theorem Held.perm {w0 w : World} {ts us : List Thing} (h : Held w0 w ts) (hp : ts.Perm us) : Held w0 w us := by
  obtain ⟨b, S, h1, h2⟩ := h
  exact ⟨b, S, h1, h2.perm hp⟩
theorem Held.swap {w0 w : World} {a b : Thing} {ts : List Thing} (h : Held w0 w (a :: b :: ts)) : Held w0 w (b :: a :: ts) := h.perm (.swap _ _ _)
theorem Held.third {w0 w : World} {a b c : Thing} {ts : List Thing} (h : Held w0 w (a :: b :: c :: ts)) : Held w0 w (c :: a :: b :: ts) := h.perm ((List.Perm.cons a (.swap c b ts)).trans (.swap c a (b :: ts)))
theorem Held.fourth {w0 w : World} {a b c d : Thing} {ts : List Thing} (h : Held w0 w (a :: b :: c :: d :: ts)) : Held w0 w (d :: a :: b :: c :: ts) :=
  (h.perm (List.Perm.cons a ((List.Perm.cons b (.swap d c ts)).trans (.swap d b (c :: ts))))).perm (.swap d a (b :: c :: ts))
theorem Held.drop {w0 w : World} {a : Thing} {ts : List Thing} (h : Held w0 w (a :: ts)) : Held w0 w ts := by
  obtain ⟨b, S, h1, f, g, hf, hg, h2, h3, h4⟩ := h
  exact ⟨b, g, fun k hk => h1 k (h3 k hk), hg⟩
theorem Held.dropTo {w0 w : World} {us ts : List Thing} (h : Held w0 w (us ++ ts)) : Held w0 w us := by
  obtain ⟨b, S, h1, h2⟩ := h
  obtain ⟨f, g, hf, hg, h3, h4, h5⟩ := h2.split
  exact ⟨b, f, fun k hk => h1 k (h3 k hk), hf⟩
theorem Held.step {w0 w w' : World} {us us' ts : List Thing} (h : Held w0 w (us ++ ts)) (hs : ∀ f : Nat → Prop, (∀ k, f k → w0.heap.size ≤ k) → Sep us w f → ∃ f', Sep us' w' f' ∧ Frame w w' f f') : Held w0 w' (us' ++ ts) := by
  obtain ⟨b, S, h1, h2⟩ := h
  obtain ⟨f, g, hf, hg, h3, h4, h5⟩ := h2.split
  obtain ⟨f', hf', fr⟩ := hs f (fun k hk => h1 k (h3 k hk)) hf
  refine ⟨b.trans ⟨fr.os, fr.tape, fr.output, fr.size, fun k hk => fr.block k (by have := b.size; omega) (fun hk' => by have := h1 k (h3 k hk'); omega)⟩, _, ?_,
    Sep.join hf' ((hg.bound.stays (w' := w') (fun k hk _ => fr.block k hk.2 (fun hk' => h5 k hk' hk.1)))) (fun k x y => (fr.foot k x).elim (fun z => h5 k z y.1) (fun z => by have := y.2; omega))⟩
  intro k hk
  rcases hk with hk | hk
  · exact (fr.foot k hk).elim (fun z => h1 k (h3 k z)) (fun z => Nat.le_trans b.size z)
  · exact h1 k (h4 k hk.1)
/-- One thing turns. -/
theorem Held.one {w0 w w' : World} {t t' : Thing} {ts : List Thing} (h : Held w0 w (t :: ts)) (hs : ∀ f : Nat → Prop, (∀ k, f k → w0.heap.size ≤ k) → t.P w f → ∃ f', t'.P w' f' ∧ Frame w w' f f') : Held w0 w' (t' :: ts) :=
  Held.step (us := [t]) (us' := [t']) h (fun f hb hf => by
    obtain ⟨a, b, ha, _, h1, h2, h3⟩ := hf
    obtain ⟨f', hf', fr⟩ := hs a (fun k hk => hb k (h1 k hk)) ha
    exact ⟨f', ⟨f', fun _ => False, hf', trivial, fun _ h => h, fun _ h => h.elim, fun _ _ h => h⟩, fr.os, fr.tape, fr.output, fr.size, fun k hk hn => fr.block k hk (fun x => hn (h1 k x)), fun k hk => (fr.foot k hk).imp (h1 k) id⟩)
/-- A new thing. -/
theorem Held.new {w0 w w' : World} {t : Thing} {ts : List Thing} (h : Held w0 w ts) (hb : Below w.heap.size w w') (f' : Nat → Prop) (ht : t.P w' f') (hf : ∀ k, f' k → w.heap.size ≤ k) : Held w0 w' (t :: ts) :=
  Held.step (us := []) (us' := [t]) h (fun f _ _ => ⟨f', ⟨f', fun _ => False, ht, trivial, fun _ h => h, fun _ h => h.elim, fun _ _ h => h⟩, Frame.fresh hb (fun k hk => .inr (hf k hk))⟩)
theorem Held.below {w0 w w' : World} {ts : List Thing} (h : Held w0 w ts) (hb : Below w.heap.size w w') : Held w0 w' ts :=
  Held.step (us := []) (us' := []) h (fun f _ _ => ⟨f, trivial, Frame.of_below hb⟩)
theorem Held.drew {w0 w : World} {ts : List Thing} (h : Held w0 w ts) : Held w0 w.drew ts := h.below (Below.refl _ _).drew
theorem Held.alloc {w0 w : World} {ts : List Thing} (h : Held w0 w ts) (o : Obj) : Held w0 (w.alloc o) ts := h.below ((Below.refl _ _).alloc (Nat.le_refl _) _)
theorem Held.at_ {w0 w : World} {t : Thing} {ts : List Thing} (h : Held w0 w (t :: ts)) : ∃ f : Nat → Prop, (∀ k, f k → w0.heap.size ≤ k) ∧ t.P w f := by
  obtain ⟨b, S, h1, f, g, hf, hg, h2, h3, h4⟩ := h
  exact ⟨f, fun k hk => h1 k (h2 k hk), hf⟩
theorem Held.start {w0 w : World} {ts : List Thing} (h : Held w0 w ts) : Held w w [] := Held.nil w
/-- What a callee holds besides, handed on: its own start is w. -/
theorem Held.over {w0 w w' : World} {us ts : List Thing} (h : Held w0 w ts) (k : Held w w' us) : Held w0 w' (us ++ ts) := by
  obtain ⟨b, S, h1, h2⟩ := k
  exact Held.step (us := []) (us' := us) h (fun f _ _ => ⟨S, h2, Frame.fresh b (fun k hk => .inr (h1 k hk))⟩)

/-! ### things -/
/-- A row of a kind. -/
def row {α : Type} (d : Kd α) (e : Nat) (v : Value) (xs : List α) : Thing where
  P w f := (∀ k, f k → k < w.heap.size) ∧ d.R e w 0 f v xs
  stays := fun {w w' f} h hs => ⟨fun k hk => by
    have h1 := hs k hk
    have h2 := h.1 k hk
    rw [Array.getElem?_eq_getElem h2] at h1
    exact (Array.getElem?_eq_some_iff.1 h1).1, Kd.R_move h.2 hs⟩
  lt := fun h => h.1
/-- A block of cells. -/
def box (g : Nat) (cs : Array Value) (e : Nat) : Thing where
  P w f := f g ∧ (∀ k, f k → k = g) ∧ w.heap[g]? = some (.cells cs e (0, 0))
  stays := fun h hs => ⟨h.1, h.2.1, (hs _ h.1).trans h.2.2⟩
  lt := fun {w f} h k hk => by rw [h.2.1 k hk]; exact (Array.getElem?_eq_some_iff.1 h.2.2).1
theorem Held.box_new {w0 w : World} {ts : List Thing} (h : Held w0 w ts) (cs : Array Value) (e : Nat) : Held w0 (w.alloc (.cells cs e)) (box w.heap.size cs e :: ts) :=
  h.new ((Below.refl _ _).alloc (Nat.le_refl _) _) (fun k => k = w.heap.size) ⟨rfl, fun _ h => h, heap_alloc_new w _⟩ (fun k hk => by omega)
theorem Held.box_at {w0 w : World} {g : Nat} {cs : Array Value} {e : Nat} {ts : List Thing} (h : Held w0 w (box g cs e :: ts)) : w.heap[g]? = some (.cells cs e (0, 0)) ∧ w0.heap.size ≤ g := by
  obtain ⟨f, h1, h2⟩ := h.at_
  exact ⟨h2.2.2, h1 g h2.1⟩
theorem Held.row_new {α : Type} {d : Kd α} {e : Nat} {w0 w w' : World} {ts : List Thing} {v : Value} {xs : List α} (h : Held w0 w ts) (hr : d.R e w' w.heap.size (fun _ => True) v xs) (hb : Below w.heap.size w w') : Held w0 w' (row d e v xs :: ts) :=
  h.new hb (fun k => w.heap.size ≤ k ∧ k < w'.heap.size) ⟨fun k hk => hk.2, Kd.R_lower (Kd.R_mono (Kd.R_bound hr) (fun k hk => ⟨hk.2.1, hk.2.2.1⟩)) (Nat.zero_le _)⟩ (fun k hk => hk.1)
theorem Held.row_at {α : Type} {d : Kd α} {e : Nat} {w0 w : World} {ts : List Thing} {v : Value} {xs : List α} (h : Held w0 w (row d e v xs :: ts)) : ∃ A c, v = .slice A xs.length c ∧ xs.length ≤ c ∧ d.C w A xs.length xs := by
  obtain ⟨f, h1, h2⟩ := h.at_
  exact Kd.R_reads h2.2
end Go.Proofs.Ytpkgpcolngoicaa.Sep
