/- What the law of erasing meets, state by state: plain. -/
import Derived.Test.YtpkgpcolngoicaaFErases
set_option linter.unusedVariables false
set_option linter.unusedSimpArgs false
namespace Go.Proofs.Ytpkgpcolngoicaa.Given
open Go.RowKit Go.Proofs.Ytpkgpcolngoicaa.All Go.Proofs.Ytpkgpcolngoicaa.Sep Go.Proofs.YtpkgpcolngoicaaW.PrintWords Go.Proofs.YtpkgpcolngoicaaW.PrintLast Go.Proofs.YtpkgpcolngoicaaW.PrintMore

theorem ticks_split (b : FS) (m : Nat) (hl : b.left = ((m + 1 : Nat) : Int)) (hg : Good b) :
    (ticksS b m).left = 1 ∧ (ticksS b m).data = b.data ∧ Good (ticksS b m) ∧ ticksS (ticksS b m) 1 = doneS b := by
  have h1 := ticks_less b (m + 1) hl m (by omega)
  have h2 := ticks_good b (m + 1) hl hg (by omega) m (by omega)
  have h3 := ticks_all b (m + 1) hl (by omega)
  have h4 : ticksS (ticksS b m) 1 = ticksS b (m + 1) := rfl
  refine ⟨?_, ?_, h2, h4.trans h3⟩
  · rw [h1]; show ((m + 1 : Nat) : Int) - m = 1; omega
  · rw [h1]
theorem erase_plan {n : Int} {xs : List Int} (hi : Idle (newS n xs)) (hl : (xs.length : Int) = 256 * n) (p : Nat) (hp : (p : Int) < xs.length) :
    ∃ (b s99 d b2 d2 : FS) (ys zs : List Int), (∀ {w0 w : World} {ts : List Thing} {g : Nat}, Held w0 w (fl g (newS n xs) :: ts) → ∃ l : List S47, (Calls Try.prog 20 #[.int .i64 (p : Int)] w fun e w' => ∃ A c, e = .returned (.slice A l.length c) ∧ Held w0 w' (fl g (newS n xs) :: row k47 47 (.slice A l.length c) l :: ts)) ∧
        l.length ≤ 100000 ∧ putsS (newS n xs) l = b) ∧
      (∀ {w0 w : World} {ts : List Thing} {g : Nat}, Held w0 w (fl g d :: ts) → ∃ l : List S47, (Calls Try.prog 21 #[] w fun e w' => ∃ A c, e = .returned (.slice A l.length c) ∧ Held w0 w' (fl g d :: row k47 47 (.slice A l.length c) l :: ts)) ∧
        l.length ≤ 100000 ∧ putsS d l = b2) ∧
      (b.left = 100 ∧ Good b ∧ ticksS b 99 = s99) ∧ (s99.left = 1 ∧ s99.data = xs ∧ Good s99 ∧ ticksS s99 1 = d) ∧ d.data = ys ∧ ys.length = xs.length ∧
      (∀ i : Nat, i < xs.length → rd ys i = if i / 256 = p / 256 then 255 else rd xs i) ∧ (b2.left = 200 ∧ Good b2 ∧ ticksS b2 200 = d2) ∧ d2.data = zs ∧ zs = List.replicate xs.length 255 := by
  have hpl : place xs (p : Int) = p := place_small _ _ (by omega) hp
  obtain ⟨f, hf⟩ : ∃ f, place (newS n xs).data (p : Int) / 256 * 256 = f := ⟨_, rfl⟩
  have hg := sector_good hi (n := n) hl (p : Int)
  have hd := sector_done (s := newS n xs) p hpl 100
  have hdl := era_len (newS n xs) 100 f 256
  have hdi := era_idle hi 100 f 256
  have hr := fun {w0 w : World} {ts : List Thing} {g : Nat} (h : Held w0 w (fl g (newS n xs) :: ts)) => erase_rows h hi rfl (p : Int)
  rw [hf] at hg hd
  simp only [hf] at hr
  have hbl : (eraS (newS n xs) f 256 100).left = ((99 + 1 : Nat) : Int) := rfl
  have hbd : (eraS (newS n xs) f 256 100).data = xs := rfl
  have hds : (doneS (eraS (newS n xs) f 256 100)).step = .first .cmd := rfl
  have hdx : (newS n xs).data = xs := rfl
  rw [hdx] at hdl hd
  generalize newS n xs = s0 at hr hbl hbd hds hg hd hdl hdi ⊢
  generalize eraS s0 f 256 100 = b at hr hbl hbd hds hg hd hdl hdi
  obtain ⟨k1, k2, k3, k4⟩ := ticks_split b 99 hbl hg
  have hr2 := fun {w0 w : World} {ts : List Thing} {g : Nat} (h : Held w0 w (fl g (doneS b) :: ts)) => whole_rows h hdi hds
  have hg2 := whole_good hdi
  have hw := whole_done (doneS b) 200
  generalize doneS b = d at hr2 hg2 hw k4 hdl hd hds hdi
  have hb2l : (eraS d 0 d.data.length 200).left = ((199 + 1 : Nat) : Int) := rfl
  generalize eraS d 0 d.data.length 200 = b2 at hr2 hg2 hw hb2l
  have hta := ticks_all b2 (199 + 1) hb2l (by omega)
  refine ⟨b, ticksS b 99, d, b2, doneS b2, d.data, List.replicate xs.length 255, hr, hr2, ⟨hbl, hg, rfl⟩, ⟨k1, k2.trans hbd, k3, k4⟩, rfl, hdl, hd, ⟨hb2l, hg2, hta⟩, ?_, rfl⟩
  rw [hw, hdl]
end Go.Proofs.Ytpkgpcolngoicaa.Given
