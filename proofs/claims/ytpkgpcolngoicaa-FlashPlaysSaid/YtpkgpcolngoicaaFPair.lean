/- The program's flash chip and the document's, step by step; one operation done with both: contracts in pairs. -/
import Derived.Test.YtpkgpcolngoicaaAx1
import Derived.Test.YtpkgpcolngoicaaFRWrite
import Derived.Test.YtpkgpcolngoicaaFBusy
import Derived.Test.YtpkgpcolngoicaaFErase
set_option linter.unusedVariables false
set_option linter.unusedSimpArgs false
namespace Go.Proofs.Ytpkgpcolngoicaa.Given
open Go.RowKit Go.Proofs.Ytpkgpcolngoicaa.All Go.Proofs.Ytpkgpcolngoicaa.Sep Go.Proofs.YtpkgpcolngoicaaW.PrintWords Go.Proofs.YtpkgpcolngoicaaW.PrintLast Go.Proofs.YtpkgpcolngoicaaW.PrintMore

def isB (q : PutS) (low v : Int) : Bool := decide (q.f0 % 256 = low ∧ q.f1 = v)
theorem is_f (q : PutS) (h : 0 ≤ q.f0) (low v : Int) : keepsakeref11_Put_is.f q.f0 q.f1 low v = some (isB q low v) := by
  unfold keepsakeref11_Put_is.f isB
  rw [Int.tmod_eq_emod_of_nonneg h]
  by_cases h1 : q.f0 % 256 = low
  · rw [if_pos h1]
    by_cases h2 : q.f1 = v
    · rw [decide_eq_true ⟨h1, h2⟩, h2]; simp
    · rw [decide_eq_false (fun h => h2 h.2), beq_eq_false_iff_ne.2 h2]
  · rw [if_neg h1, decide_eq_false (fun h => h1 h.1)]
theorem w01 : wrap64 (0 + 1) = 1 := w64 _ (by omega) (by omega)
theorem w34 : wrap64 (3 + 1) = 4 := w64 _ (by omega) (by omega)
section
variable {a b c d e p : PutS}
theorem goes1 (hp : 0 ≤ p.f0) : keepsakeref11_goes.f [p] = some (isB p 85 170) := by
  have e0 : rd_T47 [p] 0 = p := rfl
  unfold keepsakeref11_goes.f keepsakeref11_key.f
  rw [e0, is_f p hp, w01]
  cases isB p 85 170 <;> simp
theorem goes2 (ha : 0 ≤ a.f0) (hp : 0 ≤ p.f0) (h1 : isB a 85 170 = true) : keepsakeref11_goes.f [a, p] = some (isB p 170 85) := by
  have e0 : rd_T47 [a, p] 0 = a := rfl
  have e1 : rd_T47 [a, p] 1 = p := rfl
  unfold keepsakeref11_goes.f keepsakeref11_key.f
  rw [w01, e0, e1, is_f a ha, is_f p hp, h1]
  cases isB p 170 85 <;> simp
theorem goes3 (ha : 0 ≤ a.f0) (hb : 0 ≤ b.f0) (hp : 0 ≤ p.f0) (h1 : isB a 85 170 = true) (h2 : isB b 170 85 = true) : keepsakeref11_goes.f [a, b, p] = some (isB p 85 160 || isB p 85 144 || isB p 85 128) := by
  have e0 : rd_T47 [a, b, p] 0 = a := rfl
  have e1 : rd_T47 [a, b, p] 1 = b := rfl
  have e2 : rd_T47 [a, b, p] 2 = p := rfl
  unfold keepsakeref11_goes.f keepsakeref11_key.f
  rw [w01, w34, e0, e1, e2, is_f a ha, is_f b hb, is_f p hp, is_f p hp, is_f p hp, h1, h2]
  cases isB p 85 160 <;> cases isB p 85 144 <;> cases isB p 85 128 <;> simp
theorem goes4p (ha : 0 ≤ a.f0) (hb : 0 ≤ b.f0) (hc : 0 ≤ c.f0) (h1 : isB a 85 170 = true) (h2 : isB b 170 85 = true) (h3 : isB c 85 160 = true) : keepsakeref11_goes.f [a, b, c, p] = some true := by
  have e0 : rd_T47 [a, b, c, p] 0 = a := rfl
  have e1 : rd_T47 [a, b, c, p] 1 = b := rfl
  have e2 : rd_T47 [a, b, c, p] 2 = c := rfl
  unfold keepsakeref11_goes.f keepsakeref11_key.f
  rw [w01, e0, e1, e2, is_f a ha, is_f b hb, is_f c hc, is_f c hc, is_f c hc, h1, h2, h3]
  simp
theorem not_is {v u : Int} (hc : isB c 85 v = true) (hvu : v ≠ u) : isB c 85 u = false := by
  unfold isB at hc ⊢
  have := of_decide_eq_true hc
  exact decide_eq_false (fun h => hvu (this.2.symm.trans h.2))
theorem goes4 (ha : 0 ≤ a.f0) (hb : 0 ≤ b.f0) (hc : 0 ≤ c.f0) (hp : 0 ≤ p.f0) (h1 : isB a 85 170 = true) (h2 : isB b 170 85 = true) (h3 : isB c 85 128 = true) : keepsakeref11_goes.f [a, b, c, p] = some (isB p 85 170) := by
  have e0 : rd_T47 [a, b, c, p] 0 = a := rfl
  have e1 : rd_T47 [a, b, c, p] 1 = b := rfl
  have e2 : rd_T47 [a, b, c, p] 2 = c := rfl
  have e3 : rd_T47 [a, b, c, p] 3 = p := rfl
  unfold keepsakeref11_goes.f keepsakeref11_key.f
  rw [w01, w34, e0, e1, e2, e3, is_f a ha, is_f b hb, is_f c hc, is_f c hc, is_f c hc, is_f p hp, h1, h2, h3, not_is h3 (by decide), not_is h3 (by decide)]
  cases isB p 85 170 <;> simp
theorem goes5 (ha : 0 ≤ a.f0) (hb : 0 ≤ b.f0) (hc : 0 ≤ c.f0) (hd : 0 ≤ d.f0) (hp : 0 ≤ p.f0) (h1 : isB a 85 170 = true) (h2 : isB b 170 85 = true) (h3 : isB c 85 128 = true) (h4 : isB d 85 170 = true) : keepsakeref11_goes.f [a, b, c, d, p] = some (isB p 170 85) := by
  have e0 : rd_T47 [a, b, c, d, p] 0 = a := rfl
  have e1 : rd_T47 [a, b, c, d, p] 1 = b := rfl
  have e2 : rd_T47 [a, b, c, d, p] 2 = c := rfl
  have e3 : rd_T47 [a, b, c, d, p] 3 = d := rfl
  have e4 : rd_T47 [a, b, c, d, p] 4 = p := rfl
  unfold keepsakeref11_goes.f keepsakeref11_key.f
  rw [w01, w34, e0, e1, e2, e3, e4, is_f a ha, is_f b hb, is_f c hc, is_f c hc, is_f c hc, is_f d hd, is_f p hp, h1, h2, h3, h4, not_is h3 (by decide), not_is h3 (by decide)]
  cases isB p 170 85 <;> simp
theorem goes6 (ha : 0 ≤ a.f0) (hb : 0 ≤ b.f0) (hc : 0 ≤ c.f0) (hd : 0 ≤ d.f0) (he : 0 ≤ e.f0) (hp : 0 ≤ p.f0) (h1 : isB a 85 170 = true) (h2 : isB b 170 85 = true) (h3 : isB c 85 128 = true) (h4 : isB d 85 170 = true) (h5 : isB e 170 85 = true) :
    keepsakeref11_goes.f [a, b, c, d, e, p] = some (decide (p.f1 = 48) || isB p 85 16) := by
  have e0 : rd_T47 [a, b, c, d, e, p] 0 = a := rfl
  have e1 : rd_T47 [a, b, c, d, e, p] 1 = b := rfl
  have e2 : rd_T47 [a, b, c, d, e, p] 2 = c := rfl
  have e3 : rd_T47 [a, b, c, d, e, p] 3 = d := rfl
  have e4 : rd_T47 [a, b, c, d, e, p] 4 = e := rfl
  have e5 : rd_T47 [a, b, c, d, e, p] 5 = p := rfl
  unfold keepsakeref11_goes.f keepsakeref11_key.f
  rw [w01, w34, e0, e1, e2, e3, e4, e5, is_f a ha, is_f b hb, is_f c hc, is_f c hc, is_f c hc, is_f d hd, is_f e he, is_f p hp, h1, h2, h3, h4, h5, not_is h3 (by decide), not_is h3 (by decide)]
  by_cases h6 : p.f1 = 48
  · simp [h6]
  · cases isB p 85 16 <;> simp [h6]
end
end Go.Proofs.Ytpkgpcolngoicaa.Given
namespace Go.Proofs.Ytpkgpcolngoicaa.Given
open Go.RowKit Go.Proofs.Ytpkgpcolngoicaa.All Go.Proofs.Ytpkgpcolngoicaa.Sep Go.Proofs.YtpkgpcolngoicaaW.PrintWords Go.Proofs.YtpkgpcolngoicaaW.PrintLast Go.Proofs.YtpkgpcolngoicaaW.PrintMore

def K1 (q : PutS) : Prop := 0 ≤ q.f0 ∧ isB q 85 170 = true
def K2 (q : PutS) : Prop := 0 ≤ q.f0 ∧ isB q 170 85 = true
def KC (v : Int) (q : PutS) : Prop := 0 ≤ q.f0 ∧ isB q 85 v = true
/-- The writes that were begun, by what the next one is taken by. -/
def SeqOf : Stp → Bool → List PutS → Prop
  | .first .cmd, raw, l => raw = false ∧ l = []
  | .second .cmd, raw, l => raw = false ∧ ∃ a, l = [a] ∧ K1 a
  | .on_ .cmd, raw, l => raw = false ∧ ∃ a b, l = [a, b] ∧ K1 a ∧ K2 b
  | .prog, raw, l => raw = true ∧ ∃ a b c, l = [a, b, c] ∧ K1 a ∧ K2 b ∧ KC 160 c
  | .first .erase, raw, l => raw = false ∧ ∃ a b c, l = [a, b, c] ∧ K1 a ∧ K2 b ∧ KC 128 c
  | .second .erase, raw, l => raw = false ∧ ∃ a b c d, l = [a, b, c, d] ∧ K1 a ∧ K2 b ∧ KC 128 c ∧ K1 d
  | .on_ .erase, raw, l => raw = false ∧ ∃ a b c d e, l = [a, b, c, d, e] ∧ K1 a ∧ K2 b ∧ KC 128 c ∧ K1 d ∧ K2 e
structure Rel (s : FS) (c : RS) : Prop where
  sec : c.sectors = s.sectors
  data : c.data = s.data
  seq : SeqOf s.step s.raw c.seq
  named : c.named = s.named
  r0 : 0 ≤ c.reads
  turn : 0 < s.left → s.turn = if c.reads % 2 = 1 then 64 else 0
  wk : c.wk = s.wk
  wf : c.wf = s.wf
  wm : c.wm = s.wm
  wv : c.wv = s.wv
  left : c.left = s.left
theorem rel_new (n : Int) (xs : List Int) : Rel (newS n xs) (rnewS n xs) := ⟨rfl, rfl, ⟨rfl, rfl⟩, rfl, Int.le_refl _, fun h => absurd h (by show ¬ (0 : Int) < 0; omega), rfl, rfl, rfl, rfl, rfl⟩
theorem isB_at {x v low u : Int} : isB ⟨x, v⟩ low u = decide (x % 256 = low ∧ v = u) := rfl
/-- A write that is dropped. -/
theorem rel_rest {s : FS} {c : RS} (h : Rel s c) (hl : ¬ 0 < s.left) (s' : FS) (c' : RS) (hs : s'.step = .first .cmd) (hr : s'.raw = false) (hq : c'.seq = []) (hn : c'.named = s'.named) (h1 : s'.sectors = s.sectors ∧ s'.data = s.data ∧ s'.wk = s.wk ∧ s'.wf = s.wf ∧ s'.wm = s.wm ∧ s'.wv = s.wv ∧ s'.left = s.left)
    (h2 : c'.sectors = c.sectors ∧ c'.data = c.data ∧ c'.wk = c.wk ∧ c'.wf = c.wf ∧ c'.wm = c.wm ∧ c'.wv = c.wv ∧ c'.left = c.left ∧ c'.reads = c.reads) : Rel s' c' := by
  obtain ⟨a1, a2, a3, a4, a5, a6, a7⟩ := h1
  obtain ⟨b1, b2, b3, b4, b5, b6, b7, b8⟩ := h2
  refine ⟨b1.trans (h.sec.trans a1.symm), b2.trans (h.data.trans a2.symm), ?_, hn, by rw [b8]; exact h.r0, fun hb => absurd (a7 ▸ hb) hl, b3.trans (h.wk.trans a3.symm), b4.trans (h.wf.trans a4.symm), b5.trans (h.wm.trans a5.symm), b6.trans (h.wv.trans a6.symm), b7.trans (h.left.trans a7.symm)⟩
  rw [hs, hr, hq]
  exact ⟨rfl, rfl⟩
theorem rel_on {s : FS} {c : RS} (h : Rel s c) (hl : ¬ 0 < s.left) (s' : FS) (c' : RS) (hq : SeqOf s'.step s'.raw c'.seq) (hn : c'.named = s'.named) (h1 : s'.sectors = s.sectors ∧ s'.data = s.data ∧ s'.wk = s.wk ∧ s'.wf = s.wf ∧ s'.wm = s.wm ∧ s'.wv = s.wv ∧ s'.left = s.left)
    (h2 : c'.sectors = c.sectors ∧ c'.data = c.data ∧ c'.wk = c.wk ∧ c'.wf = c.wf ∧ c'.wm = c.wm ∧ c'.wv = c.wv ∧ c'.left = c.left ∧ c'.reads = c.reads) : Rel s' c' := by
  obtain ⟨a1, a2, a3, a4, a5, a6, a7⟩ := h1
  obtain ⟨b1, b2, b3, b4, b5, b6, b7, b8⟩ := h2
  exact ⟨b1.trans (h.sec.trans a1.symm), b2.trans (h.data.trans a2.symm), hq, hn, by rw [b8]; exact h.r0, fun hb => absurd (a7 ▸ hb) hl, b3.trans (h.wk.trans a3.symm), b4.trans (h.wf.trans a4.symm), b5.trans (h.wm.trans a5.symm), b6.trans (h.wv.trans a6.symm), b7.trans (h.left.trans a7.symm)⟩
theorem rel_begin {s : FS} {c : RS} (h : Rel s c) (k f m v n : Int) : Rel (beginS (restS s) k f m v n) (beginR c k f m v n) :=
  ⟨h.sec, h.data, ⟨rfl, rfl⟩, rfl, Int.le_refl _, fun _ => rfl, rfl, rfl, rfl, rfl, rfl⟩
/-- What a write wants, and leaves. -/
def WriteOk (s : FS) (c : RS) (a v : Int) : Prop := ∃ bn gs : Bool, (c.seq.length = 3 → keepsakeref11_Put_is.f (rd_T47 c.seq 2).f0 (rd_T47 c.seq 2).f1 85 160 = some bn) ∧ (c.seq.length ≠ 3 → bn = false) ∧ keepsakeref11_goes.f (c.seq ++ [⟨place c.data a, v⟩]) = some gs ∧ c.seq.length ≤ 5 ∧
  Rel (writeS s a v) (writeR c (place c.data a) v bn gs)
/-- The document's chip, idle: the write's ways. -/
theorem wr_end {c : RS} {p v : Int} {bn gs : Bool} (hl : ¬ 0 < c.left) (hv : v = 240) (hb : bn = false) : writeR c p v bn gs = { c with seq := [], named := false } := by unfold writeR; rw [if_neg hl, if_pos ⟨hv, hb⟩]
theorem wr_bad {c : RS} {p v : Int} {bn : Bool} (hl : ¬ 0 < c.left) (hv : ¬ (v = 240 ∧ bn = false)) : writeR c p v bn false = { c with seq := [] } := by unfold writeR; rw [if_neg hl, if_neg hv, if_pos rfl]
theorem wr_app {c : RS} {p v : Int} {bn : Bool} (hl : ¬ 0 < c.left) (hv : ¬ (v = 240 ∧ bn = false)) (h2 : ¬ (c.seq.length = 2 ∧ v = 144)) (h3 : ¬ (c.seq.length = 3 ∧ bn = true)) (h5 : c.seq.length ≠ 5) : writeR c p v bn true = { c with seq := c.seq ++ [⟨p, v⟩] } := by
  unfold writeR; rw [if_neg hl, if_neg hv, if_neg (by decide), if_neg h2, if_neg h3, if_neg (fun h => h5 h.1), if_neg (fun h => h5 h.1)]
theorem tk_end {s : FS} {p v : Int} (hv : v = 240) (hr : s.raw = false) : takeS s p v = { restS s with named := false } := if_pos ⟨hv, hr⟩
theorem tk_run {s : FS} {p v : Int} (hv : ¬ (v = 240 ∧ s.raw = false)) : takeS s p v = runS (restS s) s.step p v := if_neg hv
theorem rel_write {s : FS} {c : RS} (h : Rel s c) (hd : 0 < s.data.length) (a v : Int) : WriteOk s c a v := by
  have hs := h.seq
  obtain ⟨hp0, hp1⟩ := place_bd s.data a hd
  unfold WriteOk
  have hcl := h.left
  rw [h.data]
  have hw : writeS s a v = if 0 < s.left then s else takeS s (place s.data a) v := rfl
  rw [hw]
  generalize place s.data a = p at *
  clear hw
  have hp : (0 : Int) ≤ (⟨p, v⟩ : PutS).f0 := hp0
  have busy : ∀ bn gs, 0 < s.left → Rel (if 0 < s.left then s else takeS s p v) (writeR c p v bn gs) := fun bn gs hb => by
    rw [if_pos hb]
    have : writeR c p v bn gs = c := if_pos (by rw [hcl]; exact hb)
    rw [this]
    exact h
  have idle : ∀ bn gs, (¬ 0 < s.left → Rel (takeS s p v) (writeR c p v bn gs)) → Rel (if 0 < s.left then s else takeS s p v) (writeR c p v bn gs) := fun bn gs hh => by
    by_cases hb : 0 < s.left
    · exact busy bn gs hb
    · rw [if_neg hb]; exact hh hb
  have same : (restS s).sectors = s.sectors ∧ (restS s).data = s.data ∧ (restS s).wk = s.wk ∧ (restS s).wf = s.wf ∧ (restS s).wm = s.wm ∧ (restS s).wv = s.wv ∧ (restS s).left = s.left := ⟨rfl, rfl, rfl, rfl, rfl, rfl, rfl⟩
  -- a write that ends what was begun
  have ended : s.raw = false → ∀ gs, ¬ 0 < s.left → v = 240 → Rel (takeS s p v) (writeR c p v false gs) := fun hr gs hb hv => by
    rw [tk_end hv hr, wr_end (by rw [hcl]; exact hb) hv rfl]
    exact rel_rest h hb _ _ rfl rfl rfl rfl ⟨rfl, rfl, rfl, rfl, rfl, rfl, rfl⟩ ⟨rfl, rfl, rfl, rfl, rfl, rfl, rfl, rfl⟩
  -- one that does not fit
  have bad : ∀ bn, ¬ 0 < s.left → ¬ (v = 240 ∧ bn = false) → Rel (restS s) (writeR c p v bn false) := fun bn hb hv => by
    rw [wr_bad (by rw [hcl]; exact hb) hv]
    exact rel_rest h hb _ _ rfl rfl rfl h.named ⟨rfl, rfl, rfl, rfl, rfl, rfl, rfl⟩ ⟨rfl, rfl, rfl, rfl, rfl, rfl, rfl, rfl⟩
  -- one that goes on
  have on_ : ∀ bn (st : Stp) (rw_ : Bool) (l : List PutS), ¬ 0 < s.left → ¬ (v = 240 ∧ bn = false) → ¬ (c.seq.length = 2 ∧ v = 144) → ¬ (c.seq.length = 3 ∧ bn = true) → c.seq.length ≠ 5 → SeqOf st rw_ (c.seq ++ [⟨p, v⟩]) → Rel { restS s with step := st, raw := rw_ } (writeR c p v bn true) := fun bn st rw_ l hb hv h2 h3 h5 hq => by
    rw [wr_app (by rw [hcl]; exact hb) hv h2 h3 h5]
    exact rel_on h hb _ _ hq h.named ⟨rfl, rfl, rfl, rfl, rfl, rfl, rfl⟩ ⟨rfl, rfl, rfl, rfl, rfl, rfl, rfl, rfl⟩
  cases hst : s.step with
  | first t =>
    cases t with
    | cmd =>
      rw [hst] at hs
      obtain ⟨hr, hq⟩ := hs
      refine ⟨false, isB ⟨p, v⟩ 85 170, (fun h3 => by rw [hq] at h3; exact absurd h3 (by simp)), fun _ => rfl, by rw [hq]; exact goes1 hp, by rw [hq]; simp, idle _ _ fun hb => ?_⟩
      by_cases hv : v = 240
      · exact ended hr _ hb hv
      · rw [tk_run (fun h => hv h.1), hst]
        show Rel (if p % 256 = 85 ∧ v = 170 then _ else _) _
        by_cases hm : p % 256 = 85 ∧ v = 170
        · rw [if_pos hm, isB_at, decide_eq_true hm]
          exact on_ false (.second .cmd) false [] hb (fun h => hv h.1) (by rw [hq]; simp) (by rw [hq]; simp) (by rw [hq]; simp) ⟨rfl, ⟨p, v⟩, by rw [hq]; rfl, hp, by rw [isB_at]; exact decide_eq_true hm⟩
        · rw [if_neg hm, isB_at, decide_eq_false hm]
          exact bad false hb (fun h => hv h.1)
    | erase =>
      rw [hst] at hs
      obtain ⟨hr, x, y, z, hq, ⟨k1, m1⟩, ⟨k2, m2⟩, k3, m3⟩ := hs
      refine ⟨false, isB ⟨p, v⟩ 85 170, fun _ => ?_, fun _ => rfl, by rw [hq]; exact goes4 k1 k2 k3 hp m1 m2 m3, by rw [hq]; simp, idle _ _ fun hb => ?_⟩
      · rw [hq]
        show keepsakeref11_Put_is.f z.f0 z.f1 85 160 = _
        rw [is_f z k3, not_is m3 (by decide)]
      · by_cases hv : v = 240
        · exact ended hr _ hb hv
        · rw [tk_run (fun h => hv h.1), hst]
          show Rel (if p % 256 = 85 ∧ v = 170 then _ else _) _
          by_cases hm : p % 256 = 85 ∧ v = 170
          · rw [if_pos hm, isB_at, decide_eq_true hm]
            exact on_ false (.second .erase) false [] hb (fun h => hv h.1) (by rw [hq]; simp) (by rw [hq]; simp) (by rw [hq]; simp) ⟨rfl, x, y, z, ⟨p, v⟩, by rw [hq]; rfl, ⟨k1, m1⟩, ⟨k2, m2⟩, ⟨k3, m3⟩, hp, by rw [isB_at]; exact decide_eq_true hm⟩
          · rw [if_neg hm, isB_at, decide_eq_false hm]
            exact bad false hb (fun h => hv h.1)
  | second t =>
    cases t with
    | cmd =>
      rw [hst] at hs
      obtain ⟨hr, x, hq, k1, m1⟩ := hs
      refine ⟨false, isB ⟨p, v⟩ 170 85, (fun h3 => by rw [hq] at h3; exact absurd h3 (by simp)), fun _ => rfl, by rw [hq]; exact goes2 k1 hp m1, by rw [hq]; simp, idle _ _ fun hb => ?_⟩
      by_cases hv : v = 240
      · exact ended hr _ hb hv
      · rw [tk_run (fun h => hv h.1), hst]
        show Rel (if p % 256 = 170 ∧ v = 85 then _ else _) _
        by_cases hm : p % 256 = 170 ∧ v = 85
        · rw [if_pos hm, isB_at, decide_eq_true hm]
          exact on_ false (.on_ .cmd) false [] hb (fun h => hv h.1) (by rw [hq]; simp) (by rw [hq]; simp) (by rw [hq]; simp) ⟨rfl, x, ⟨p, v⟩, by rw [hq]; rfl, ⟨k1, m1⟩, hp, by rw [isB_at]; exact decide_eq_true hm⟩
        · rw [if_neg hm, isB_at, decide_eq_false hm]
          exact bad false hb (fun h => hv h.1)
    | erase =>
      rw [hst] at hs
      obtain ⟨hr, x, y, z, d, hq, ⟨k1, m1⟩, ⟨k2, m2⟩, ⟨k3, m3⟩, k4, m4⟩ := hs
      refine ⟨false, isB ⟨p, v⟩ 170 85, (fun h3 => by rw [hq] at h3; exact absurd h3 (by simp)), fun _ => rfl, by rw [hq]; exact goes5 k1 k2 k3 k4 hp m1 m2 m3 m4, by rw [hq]; simp, idle _ _ fun hb => ?_⟩
      by_cases hv : v = 240
      · exact ended hr _ hb hv
      · rw [tk_run (fun h => hv h.1), hst]
        show Rel (if p % 256 = 170 ∧ v = 85 then _ else _) _
        by_cases hm : p % 256 = 170 ∧ v = 85
        · rw [if_pos hm, isB_at, decide_eq_true hm]
          exact on_ false (.on_ .erase) false [] hb (fun h => hv h.1) (by rw [hq]; simp) (by rw [hq]; simp) (by rw [hq]; simp) ⟨rfl, x, y, z, d, ⟨p, v⟩, by rw [hq]; rfl, ⟨k1, m1⟩, ⟨k2, m2⟩, ⟨k3, m3⟩, ⟨k4, m4⟩, hp, by rw [isB_at]; exact decide_eq_true hm⟩
        · rw [if_neg hm, isB_at, decide_eq_false hm]
          exact bad false hb (fun h => hv h.1)
  | on_ t =>
    cases t with
    | cmd =>
      rw [hst] at hs
      obtain ⟨hr, x, y, hq, ⟨k1, m1⟩, k2, m2⟩ := hs
      refine ⟨false, isB ⟨p, v⟩ 85 160 || isB ⟨p, v⟩ 85 144 || isB ⟨p, v⟩ 85 128, (fun h3 => by rw [hq] at h3; exact absurd h3 (by simp)), fun _ => rfl, by rw [hq]; exact goes3 k1 k2 hp m1 m2, by rw [hq]; simp, idle _ _ fun hb => ?_⟩
      by_cases hv : v = 240
      · exact ended hr _ hb hv
      · rw [tk_run (fun h => hv h.1), hst]
        show Rel (cmdS (restS s) p v) _
        unfold cmdS
        rw [isB_at, isB_at, isB_at]
        by_cases hm : p % 256 = 85
        · rw [if_pos hm]
          by_cases h1 : v = 160
          · rw [if_pos h1, decide_eq_true ⟨hm, h1⟩, Bool.true_or, Bool.true_or]
            exact on_ false .prog true [] hb (fun h => hv h.1) (fun h => by omega) (by rw [hq]; simp) (by rw [hq]; simp) ⟨rfl, x, y, ⟨p, v⟩, by rw [hq]; rfl, ⟨k1, m1⟩, ⟨k2, m2⟩, hp, by rw [isB_at]; exact decide_eq_true ⟨hm, h1⟩⟩
          · rw [if_neg h1]
            by_cases h2 : v = 128
            · rw [if_pos h2, decide_eq_true (p := p % 256 = 85 ∧ v = 128) ⟨hm, h2⟩, Bool.or_true]
              exact on_ false (.first .erase) false [] hb (fun h => hv h.1) (fun h => by omega) (by rw [hq]; simp) (by rw [hq]; simp) ⟨rfl, x, y, ⟨p, v⟩, by rw [hq]; rfl, ⟨k1, m1⟩, ⟨k2, m2⟩, hp, by rw [isB_at]; exact decide_eq_true ⟨hm, h2⟩⟩
            · rw [if_neg h2]
              by_cases h3 : v = 144
              · rw [if_pos h3, decide_eq_true (p := p % 256 = 85 ∧ v = 144) ⟨hm, h3⟩, Bool.or_true, Bool.true_or]
                have e : writeR c p v false true = { c with seq := [], named := true } := by
                  unfold writeR; rw [if_neg (by rw [hcl]; exact hb), if_neg (fun h => hv h.1), if_neg (by decide), if_pos ⟨by rw [hq]; rfl, h3⟩]
                rw [e]
                exact rel_rest h hb _ _ rfl rfl rfl rfl ⟨rfl, rfl, rfl, rfl, rfl, rfl, rfl⟩ ⟨rfl, rfl, rfl, rfl, rfl, rfl, rfl, rfl⟩
              · rw [if_neg h3, decide_eq_false (fun h => h1 h.2), decide_eq_false (fun h => h3 h.2), decide_eq_false (fun h => h2 h.2), Bool.or_false, Bool.or_false]
                exact bad false hb (fun h => hv h.1)
        · rw [if_neg hm, decide_eq_false (fun h => hm h.1), decide_eq_false (fun h => hm h.1), decide_eq_false (fun h => hm h.1), Bool.or_false, Bool.or_false]
          exact bad false hb (fun h => hv h.1)
    | erase =>
      rw [hst] at hs
      obtain ⟨hr, x, y, z, d, e, hq, ⟨k1, m1⟩, ⟨k2, m2⟩, ⟨k3, m3⟩, ⟨k4, m4⟩, k5, m5⟩ := hs
      have hq5 : c.seq.length = 5 := by rw [hq]; rfl
      refine ⟨false, decide (v = 48) || isB ⟨p, v⟩ 85 16, (fun h3 => by rw [hq] at h3; exact absurd h3 (by simp)), fun _ => rfl, by rw [hq]; exact goes6 k1 k2 k3 k4 k5 hp m1 m2 m3 m4 m5, by rw [hq]; simp, idle _ _ fun hb => ?_⟩
      by_cases hv : v = 240
      · exact ended hr _ hb hv
      · rw [tk_run (fun h => hv h.1), hst]
        show Rel (eraseS (restS s) p v) _
        unfold eraseS
        rw [isB_at]
        by_cases h1 : v = 48
        · rw [if_pos h1, decide_eq_true h1, Bool.true_or]
          have e2 : writeR c p v false true = beginR c 2 (p - p % 256) 256 0 100 := by
            unfold writeR; rw [if_neg (by rw [hcl]; exact hb), if_neg (fun h => hv h.1), if_neg (by decide), if_neg (by omega), if_neg (by omega), if_pos ⟨hq5, h1⟩]
          rw [e2, show p - p % 256 = p / 256 * 256 by omega]
          exact rel_begin h _ _ _ _ _
        · rw [if_neg h1, decide_eq_false h1, Bool.false_or]
          by_cases h2 : v = 16 ∧ p % 256 = 85
          · rw [if_pos h2, decide_eq_true ⟨h2.2, h2.1⟩]
            have e2 : writeR c p v false true = beginR c 2 0 c.data.length 0 200 := by
              unfold writeR; rw [if_neg (by rw [hcl]; exact hb), if_neg (fun h => hv h.1), if_neg (by decide), if_neg (by omega), if_neg (by omega), if_neg (fun h => h1 h.2), if_pos ⟨hq5, h2.1⟩]
            rw [e2, h.data]
            exact rel_begin h _ _ _ _ _
          · rw [if_neg h2, decide_eq_false (fun h => h2 ⟨h.2, h.1⟩)]
            exact bad false hb (fun h => hv h.1)
  | prog =>
    rw [hst] at hs
    obtain ⟨hr, x, y, z, hq, ⟨k1, m1⟩, ⟨k2, m2⟩, k3, m3⟩ := hs
    have hq3 : c.seq.length = 3 := by rw [hq]; rfl
    refine ⟨true, true, fun _ => ?_, fun h3 => absurd hq3 h3, by rw [hq]; exact goes4p k1 k2 k3 m1 m2 m3, by rw [hq]; simp, idle _ _ fun hb => ?_⟩
    · rw [hq]
      show keepsakeref11_Put_is.f z.f0 z.f1 85 160 = _
      rw [is_f z k3, m3]
    · rw [tk_run (fun h => by rw [hr] at h; exact absurd h.2 (by decide)), hst]
      have e2 : writeR c p v true true = beginR c 1 p 1 v 10 := by
        unfold writeR; rw [if_neg (by rw [hcl]; exact hb), if_neg (fun h => absurd h.2 (by decide)), if_neg (by decide), if_neg (by omega), if_pos ⟨hq3, rfl⟩]
      rw [e2]
      exact rel_begin h _ _ _ _ _
end Go.Proofs.Ytpkgpcolngoicaa.Given
namespace Go.Proofs.Ytpkgpcolngoicaa.Given
open Go.RowKit Go.Proofs.Ytpkgpcolngoicaa.All Go.Proofs.Ytpkgpcolngoicaa.Sep Go.Proofs.YtpkgpcolngoicaaW.PrintWords Go.Proofs.YtpkgpcolngoicaaW.PrintLast Go.Proofs.YtpkgpcolngoicaaW.PrintMore

theorem look_row (f : Nat) (k i : Nat) (x : Int) (hf : f + k ≤ 100000) : Cut.look i x ((rowAt (f : Int) k).zip (List.replicate k 255)) = if f ≤ i ∧ i < f + k then 255 else x := by
  induction k with
  | zero => rw [if_neg (by omega)]; rfl
  | succ k ih =>
    have e1 : rowAt (f : Int) (k + 1) = rowAt (f : Int) k ++ [wrap64 ((f : Int) + k)] := upto_succ _ k
    have hl : (rowAt (f : Int) k).length = k := upto_length _ _
    rw [e1, List.replicate_succ', List.zip_append (by rw [hl, List.length_replicate])]
    unfold Cut.look at ih ⊢
    rw [List.foldl_append, ih (by omega), Cut.w64 _ (by omega) (by omega)]
    show (if (f : Int) + k = i then 255 else _) = _
    by_cases h : (f : Int) + k = i
    · rw [if_pos h, if_pos (by omega)]
    · rw [if_neg h]
      by_cases h2 : f ≤ i ∧ i < f + k
      · rw [if_pos h2, if_pos (by omega)]
      · rw [if_neg h2, if_neg (by omega)]
theorem wrote_prog {s : FS} (hk : s.wk = 1) (hm : s.wm = 1) (h0 : 0 ≤ s.wf) (h1 : s.wf < s.data.length) : wrote s s.wm.toNat = Cut.prog s.data s.wf s.wv := by
  rw [hm]
  show s.data.set (s.wf + ((0 : Nat) : Int)).toNat (wroteV s (rd s.data (s.wf + ((0 : Nat) : Int)))) = _
  rw [show s.wf + ((0 : Nat) : Int) = s.wf by omega]
  unfold wroteV Cut.prog
  rw [if_pos hk, if_pos ⟨h0, h1⟩]
theorem wrote_range {s : FS} (hk : s.wk ≠ 1) (h0 : 0 ≤ s.wf) (hm : 0 ≤ s.wm) (h1 : s.wf + s.wm ≤ s.data.length) (hd : s.data.length ≤ 100000) : wrote s s.wm.toNat = cells s.data (rowAt s.wf s.wm.toNat) (List.replicate s.wm.toNat 255) := by
  obtain ⟨f, hf⟩ : ∃ f : Nat, s.wf = f := ⟨s.wf.toNat, by omega⟩
  obtain ⟨m, hmm⟩ : ∃ m : Nat, s.wm = m := ⟨s.wm.toNat, by omega⟩
  refine Cut.list_eq (by rw [wrote_len, cells_len]) fun i hi => ?_
  rw [wrote_len] at hi
  rw [rd_at (wrote_at s hk f hf _ i hi), Cut.cells_at _ _ _ i hi, hf, hmm, Int.toNat_natCast, look_row f m i _ (by omega)]
theorem tick_data {n : Int} {s : FS} {c : RS} (hi : FInv n s) (h : Rel s c) (hd : s.data.length ≤ 100000) (hl : 0 < s.left) : wrote s s.wm.toNat = rtickD c := by
  have hg := hi.good
  unfold rtickD
  rw [h.wk, h.data, h.wf, h.wv, h.wm]
  by_cases hk : s.wk = 1
  · rw [if_pos hk]
    have hm : s.wm = 1 := by have := hi.kind; omega
    exact wrote_prog hk hm hg.f0 (by have := hg.fm; omega)
  · rw [if_neg hk]
    exact wrote_range hk hg.f0 hg.m0 hg.fm hd
theorem rel_tick {n : Int} {s : FS} {c : RS} (hi : FInv n s) (h : Rel s c) (hd : s.data.length ≤ 100000) : Rel (tickS s) (rtickS c) := by
  have hl := h.left
  have hg := hi.good.l0
  unfold tickS rtickS
  rw [hl]
  by_cases h0 : s.left = 0
  · rw [if_pos h0, if_pos h0]; exact h
  · rw [if_neg h0, if_neg h0]
    by_cases h1 : 1 < s.left
    · rw [if_pos h1, if_pos h1]
      exact ⟨h.sec, h.data, h.seq, h.named, h.r0, fun _ => h.turn (by omega), h.wk, h.wf, h.wm, h.wv, rfl⟩
    · rw [if_neg h1, if_neg h1]
      exact ⟨h.sec, (tick_data hi h hd (by omega)).symm, h.seq, h.named, h.r0, fun hb => absurd hb (by show ¬ (0 : Int) < 0; omega), rfl, rfl, rfl, rfl, rfl⟩
theorem status_bits : ∀ (v : Fin 256), topBit v.val = if (v.val : Int) < 128 then 128 else 0 := by decide +kernel
theorem or_bits : Go.bits .or .u8 0 128 = 128 ∧ Go.bits .or .u8 64 128 = 192 ∧ Go.bits .or .u8 0 0 = 0 ∧ Go.bits .or .u8 64 0 = 64 ∧ Go.bits .xor .u8 0 64 = 64 ∧ Go.bits .xor .u8 64 64 = 0 := by decide +kernel
theorem rel_status {n : Int} {s : FS} {c : RS} (hi : FInv n s) (h : Rel s c) (hb : 0 < s.left) : statusV s = rstatus c := by
  obtain ⟨b1, b2, b3, b4, _, _⟩ := or_bits
  unfold statusV rstatus
  rw [h.turn hb, h.wk, h.wv]
  obtain ⟨h0, h1⟩ := hi.val
  have ho : ∀ x : Int, x = 0 ∨ x = 128 → Go.bits .or .u8 (if c.reads % 2 = 1 then 64 else 0) x = (if c.reads % 2 = 1 then 64 else 0) + x := by
    intro x hx
    by_cases h3 : c.reads % 2 = 1
    · rw [if_pos h3]
      rcases hx with rfl | rfl
      · rw [b4]; rfl
      · rw [b2]; rfl
    · rw [if_neg h3]
      rcases hx with rfl | rfl
      · rw [b3]; rfl
      · rw [b1]; rfl
  by_cases hk : s.wk = 1
  · obtain ⟨m, hm⟩ : ∃ m : Nat, s.wv = m := ⟨s.wv.toNat, by omega⟩
    have ht : topBit s.wv = if s.wv < 128 then 128 else 0 := by rw [hm]; exact status_bits ⟨m, by omega⟩
    have e : (if s.wk = 1 ∧ s.wv < 128 then (128 : Int) else 0) = if s.wv < 128 then 128 else 0 := by
      by_cases h2 : s.wv < 128
      · rw [if_pos ⟨hk, h2⟩, if_pos h2]
      · rw [if_neg (fun h => h2 h.2), if_neg h2]
    rw [e, ht]
    have e2 : (if s.wk = 1 then Go.bits .or .u8 (if c.reads % 2 = 1 then 64 else 0) (if s.wv < 128 then 128 else 0) else (if c.reads % 2 = 1 then 64 else 0)) = Go.bits .or .u8 (if c.reads % 2 = 1 then 64 else 0) (if s.wv < 128 then 128 else 0) := if_pos hk
    rw [e2]
    exact ho _ (by by_cases h2 : s.wv < 128 <;> simp [h2])
  · have e : (if s.wk = 1 ∧ s.wv < 128 then (128 : Int) else 0) = 0 := if_neg (fun h => hk h.1)
    have e2 : (if s.wk = 1 then Go.bits .or .u8 (if c.reads % 2 = 1 then 64 else 0) (topBit s.wv) else (if c.reads % 2 = 1 then 64 else 0)) = (if c.reads % 2 = 1 then (64 : Int) else 0) := if_neg hk
    rw [e, e2]
    omega
theorem rel_togS {s : FS} {c : RS} (h : Rel s c) (hb : 0 < s.left) : Rel (togS s) { c with reads := c.reads + 1 } := by
  obtain ⟨_, _, _, _, b5, b6⟩ := or_bits
  have hr := h.r0
  refine ⟨h.sec, h.data, h.seq, h.named, by show 0 ≤ c.reads + 1; omega, fun _ => ?_, h.wk, h.wf, h.wm, h.wv, h.left⟩
  show Go.bits .xor .u8 s.turn 64 = if (c.reads + 1) % 2 = 1 then 64 else 0
  rw [h.turn hb]
  by_cases h3 : c.reads % 2 = 1
  · rw [if_pos h3, if_neg (by omega), b6]
  · rw [if_neg h3, if_pos (by omega), b5]
theorem inv_tog {n : Int} {s : FS} (h : FInv n s) : FInv n (togS s) := h.of _ rfl rfl rfl rfl rfl rfl
theorem rel_read {s : FS} {c : RS} (h : Rel s c) (a : Int) : readV s a = rreadV c a := by
  unfold readV rreadV
  rw [h.named, h.data, h.sec]
theorem rel_cut {n : Int} {s : FS} {c : RS} (hi : FInv n s) (h : Rel s c) (pick : List Int) : cutS s pick = cutR c pick := by
  unfold cutS cutR
  rw [h.wk, h.data, h.wf, h.wm]
  by_cases h1 : s.wk = 1
  · rw [if_pos h1]
    by_cases h2 : 0 < (pick.length : Int)
    · rw [if_pos h2, if_pos ⟨h1, h2⟩]
    · rw [if_neg h2, if_neg (fun h => h2 h.2), if_neg (by omega)]
  · rw [if_neg h1, if_neg (fun h => h1 h.1)]
    by_cases h2 : s.wk = 2
    · rw [if_pos h2]
    · rw [if_neg h2]
      have hm : s.wm = 0 := by have := hi.kind; omega
      rw [hm]
      exact cells_nil _ _
/-! ### held together -/
section
variable {w0 w : World} {ts : List Thing} {r g : Nat} {s : FS} {c : RS}
theorem rh_open {t : Thing} (h : RHeld w0 w r c (t :: ts)) : ∃ dv sv, Held w0 w (t :: box r (rcells c dv sv) rT :: dRow dv c.data :: qRow sv c.seq :: ts) := by
  obtain ⟨dv, sv, h⟩ := h
  exact ⟨dv, sv, h.fourth⟩
theorem rh_back {t : Thing} {dv sv : Value} (h : Held w0 w (t :: box r (rcells c dv sv) rT :: dRow dv c.data :: qRow sv c.seq :: ts)) : RHeld w0 w r c (t :: ts) :=
  ⟨dv, sv, (h.swap.perm (List.Perm.cons _ ((List.Perm.swap _ _ _).trans (List.Perm.cons _ (.swap _ _ _)))))⟩
theorem rh_write (h : RHeld w0 w r c (fl g s :: ts)) (a v : Int) : Calls Try.prog 23 #[ptr g, .int .i64 a, .int .u8 v] w fun e w' => e = .returned (.tuple #[]) ∧ RHeld w0 w' r c (fl g (writeS s a v) :: ts) := by
  obtain ⟨dv, sv, h⟩ := rh_open h
  exact (write_walk h a v).mono fun e w' ⟨he, hh⟩ => ⟨he, rh_back hh⟩
theorem rh_tick (h : RHeld w0 w r c (fl g s :: ts)) (hg : Good s) : Calls Try.prog 24 #[ptr g] w fun e w' => e = .returned (.tuple #[]) ∧ RHeld w0 w' r c (fl g (tickS s) :: ts) := by
  obtain ⟨dv, sv, h⟩ := rh_open h
  exact (tick_walk h hg).mono fun e w' ⟨he, hh⟩ => ⟨he, rh_back hh⟩
theorem rh_busy (h : RHeld w0 w r c (fl g s :: ts)) (a : Int) (hb : 0 < s.left) {x : Int} (hx : statusV s = x) : Calls Try.prog 19 #[ptr g, .int .i64 a] w fun e w' => e = .returned (.int .u8 x) ∧ RHeld w0 w' r c (fl g (togS s) :: ts) := by
  subst hx
  obtain ⟨dv, sv, h⟩ := rh_open h
  exact (read_busy h a hb).mono fun e w' ⟨he, hh⟩ => ⟨he, rh_back hh⟩
theorem rh_idle (h : RHeld w0 w r c (fl g s :: ts)) (a : Int) (hid : s.left = 0) (hsec : 0 ≤ s.sectors ∧ s.sectors ≤ 255) {x : Int} (hx : readV s a = x) : Calls Try.prog 19 #[ptr g, .int .i64 a] w fun e w' => e = .returned (.int .u8 x) ∧ w = w' := by
  subst hx
  obtain ⟨dv, sv, h⟩ := rh_open h
  exact read_walk h a hid hsec
theorem rh_left (h : RHeld w0 w r c (fl g s :: ts)) {x : Int} (hx : s.left = x) : Calls Try.prog 18 #[ptr g] w fun e w' => e = .returned (.int .i64 x) ∧ w = w' := by
  subst hx
  obtain ⟨dv, sv, h⟩ := rh_open h
  exact left_walk h
theorem rh_waits (h : RHeld w0 w r c (fl g s :: ts)) {x : Value} (hx : waitV s = x) : Calls Try.prog 27 #[ptr g] w fun e w' => e = .returned x ∧ RHeld w0 w' r c (fl g s :: ts) := by
  subst hx
  obtain ⟨dv, sv, h⟩ := rh_open h
  exact (waits_walk h).mono fun e w' ⟨he, hh⟩ => ⟨he, rh_back hh⟩
theorem rh_bytes (h : RHeld w0 w r c (fl g s :: ts)) {xs : List Int} (hx : s.data = xs) : Calls Try.prog 13 #[ptr g] w fun e w' => ∃ A n, e = .returned (.slice A xs.length n) ∧ xs.length ≤ n ∧ RHeld w0 w' r c (dRow (.slice A xs.length n) xs :: fl g s :: ts) := by
  subst hx
  obtain ⟨dv, sv, h⟩ := rh_open h
  refine (bytes_walk h).mono fun e w' ⟨v, he, hh⟩ => ?_
  obtain ⟨A, n, rfl, hn, _⟩ := hh.row_at
  exact ⟨A, n, he, hn, ⟨dv, sv, hh.swap.perm ((List.Perm.cons _ ((List.Perm.swap _ _ _).trans (List.Perm.cons _ ((List.Perm.swap _ _ _).trans (List.Perm.cons _ (.swap _ _ _)))))).trans ((List.Perm.swap _ _ _).trans (List.Perm.cons _ ((List.Perm.swap _ _ _).trans (List.Perm.cons _ ((List.Perm.swap _ _ _).trans (List.Perm.cons _ (.swap _ _ _))))))))⟩⟩
theorem rh_cut {n : Int} (h : RHeld w0 w r c (fl g s :: ts)) (hi : FInv n s) (hn : n ≤ 4) {A : Option Addr} {cp : Nat} {pick : List Int} (hp : (Kd.int .u8).C w A pick.length pick) (hc : pick.length ≤ cp) {zs : List Int} (hz : cutS s pick = zs) :
    Calls Try.prog 32 #[ptr g, .slice A pick.length cp] w fun e w' => ∃ A n, e = .returned (.slice A zs.length n) ∧ zs.length ≤ n ∧ RHeld w0 w' r c (dRow (.slice A zs.length n) zs :: fl g s :: ts) := by
  subst hz
  obtain ⟨dv, sv, h⟩ := rh_open h
  refine (cut_walk h A cp pick hp hc (by have := hi.good.fm; have := hi.good.f0; have := hi.len; omega)).mono fun e w' ⟨v, he, hh⟩ => ?_
  obtain ⟨A, n, rfl, hn, _⟩ := hh.row_at
  exact ⟨A, n, he, hn, ⟨dv, sv, hh.swap.perm ((List.Perm.cons _ ((List.Perm.swap _ _ _).trans (List.Perm.cons _ ((List.Perm.swap _ _ _).trans (List.Perm.cons _ (.swap _ _ _)))))).trans ((List.Perm.swap _ _ _).trans (List.Perm.cons _ ((List.Perm.swap _ _ _).trans (List.Perm.cons _ ((List.Perm.swap _ _ _).trans (List.Perm.cons _ (.swap _ _ _))))))))⟩⟩
end
end Go.Proofs.Ytpkgpcolngoicaa.Given
namespace Go.Proofs.Ytpkgpcolngoicaa.Given
open Go.RowKit Go.Proofs.Ytpkgpcolngoicaa.All Go.Proofs.Ytpkgpcolngoicaa.Sep Go.Proofs.YtpkgpcolngoicaaW.PrintWords Go.Proofs.YtpkgpcolngoicaaW.PrintLast Go.Proofs.YtpkgpcolngoicaaW.PrintMore

structure Pair (n k : Int) (s : FS) (c : RS) : Prop where
  inv : FInv n s
  rel : Rel s c
  sec : s.sectors = n
  reads : c.reads ≤ k
theorem begin_sec (s : FS) (k f m v x : Int) : (beginS s k f m v x).sectors = s.sectors := rfl
theorem write_sec (s : FS) (a v : Int) : (writeS s a v).sectors = s.sectors := by
  unfold writeS
  split
  · rfl
  · generalize place s.data a = p
    unfold takeS
    split
    · rfl
    · unfold runS
      split
      · split <;> rfl
      · split <;> rfl
      · unfold cmdS
        repeat' split
        all_goals rfl
      · unfold eraseS
        repeat' split
        all_goals rfl
      · rfl
theorem tick_sec (s : FS) : (tickS s).sectors = s.sectors := by
  unfold tickS
  repeat' split
  all_goals rfl
theorem wr_reads (c : RS) (p v : Int) (bn gs : Bool) (h : 0 ≤ c.reads) : (writeR c p v bn gs).reads ≤ c.reads := by
  unfold writeR
  repeat' split
  all_goals first
    | exact Int.le_refl _
    | exact h
theorem rtick_reads (c : RS) : (rtickS c).reads = c.reads := by
  unfold rtickS
  repeat' split
  all_goals rfl
theorem pair_new {n : Int} {xs : List Int} (hl : (xs.length : Int) = 256 * n) (hb : Bytes xs) : Pair n 0 (newS n xs) (rnewS n xs) := ⟨inv_new hl hb, rel_new n xs, rfl, Int.le_refl _⟩
theorem Pair.more {n k k' : Int} {s : FS} {c : RS} (h : Pair n k s c) (hk : k ≤ k') : Pair n k' s c := ⟨h.inv, h.rel, h.sec, Int.le_trans h.reads hk⟩
section
variable {n k : Int} {s : FS} {c : RS} {w0 : World} {r g : Nat}
theorem pair_write (h : Pair n k s c) (hn0 : 1 ≤ n) (hn1 : n ≤ 4) (a v : Int) (hv : 0 ≤ v ∧ v ≤ 255) :
    ∃ c', Pair n k (writeS s a v) c' ∧ ∀ W ts, RHeld w0 W r c ts → Calls Try.prog 29 #[ptr r, .int .i64 a, .int .u8 v] W fun e w' => e = .returned (.tuple #[]) ∧ RHeld w0 w' r c' ts := by
  have hl := h.inv.len
  obtain ⟨bn, gs, k1, k2, k3, k4, k5⟩ := rel_write h.rel (by omega) a v
  refine ⟨_, ⟨inv_write h.inv hn0 a v hv, k5, by rw [write_sec]; exact h.sec, Int.le_trans (wr_reads _ _ _ _ _ h.rel.r0) h.reads⟩, fun W ts hh => ?_⟩
  exact rwrite_walk hh a v (by rw [h.rel.data]; omega) (by rw [h.rel.data]; omega) k4 bn gs (by rw [h.rel.left]; exact h.inv.good.l0) k1 k2 k3
theorem pair_tick (h : Pair n k s c) (hn0 : 1 ≤ n) (hn1 : n ≤ 4) :
    ∃ c', Pair n k (tickS s) c' ∧ ∀ W ts, RHeld w0 W r c ts → Calls Try.prog 31 #[ptr r] W fun e w' => e = .returned (.tuple #[]) ∧ RHeld w0 w' r c' ts := by
  have hl := h.inv.len
  have hd : c.data.length ≤ 1100 := by rw [h.rel.data]; omega
  have hg := h.inv.good
  obtain ⟨g0, g1, g2, g3, g4⟩ := hg
  refine ⟨rtickS c, ⟨inv_tick h.inv, rel_tick h.inv h.rel (by omega), by rw [tick_sec]; exact h.sec, by rw [rtick_reads]; exact h.reads⟩, fun W ts hh => ?_⟩
  have hcl := h.rel.left
  unfold rtickS
  by_cases h0 : c.left = 0
  · rw [if_pos h0]; exact rtick_idle hh h0
  · rw [if_neg h0]
    by_cases h1 : 1 < c.left
    · rw [if_pos h1]; exact rtick_more hh h1 (by omega)
    · rw [if_neg h1]
      unfold rtickD
      by_cases hk : c.wk = 1
      · rw [if_pos hk]; exact rtick_prog hh (by omega) hk hd (by rw [h.rel.data]; exact h.inv.bytes) (by rw [h.rel.wv]; exact h.inv.val)
      · rw [if_neg hk]; exact rtick_range hh (by omega) hk hd (by rw [h.rel.wm]; exact g3) (by rw [h.rel.wm]; omega)
theorem pair_read (h : Pair n k s c) (hn0 : 1 ≤ n) (hn1 : n ≤ 4) (hk : k ≤ 100000) (a : Int) :
    ∃ (x : Int) (s' : FS) (c' : RS), Pair n (k + 1) s' c' ∧ (∀ W ts, RHeld w0 W r c (fl g s :: ts) → Calls Try.prog 19 #[ptr g, .int .i64 a] W fun e w' => e = .returned (.int .u8 x) ∧ RHeld w0 w' r c (fl g s' :: ts)) ∧
      (∀ W ts, RHeld w0 W r c ts → Calls Try.prog 30 #[ptr r, .int .i64 a] W fun e w' => e = .returned (.int .u8 x) ∧ RHeld w0 w' r c' ts) := by
  have hl := h.inv.len
  have hd : 0 < c.data.length := by rw [h.rel.data]; omega
  have hd1 : c.data.length ≤ 100000 := by rw [h.rel.data]; omega
  have hcl := h.rel.left
  have hg := h.inv.good.l0
  by_cases hb : 0 < s.left
  · refine ⟨statusV s, togS s, { c with reads := c.reads + 1 }, ⟨inv_tog h.inv, rel_togS h.rel hb, h.sec, by show c.reads + 1 ≤ k + 1; have := h.reads; omega⟩, fun W ts hh => rh_busy hh a hb rfl, fun W ts hh => ?_⟩
    rw [rel_status h.inv h.rel hb]
    exact rread_busy hh a hd (by omega) h.rel.r0 (by have := h.reads; omega)
  · have h0 : s.left = 0 := by omega
    refine ⟨readV s a, s, c, h.more (by omega), fun W ts hh => (rh_idle hh a h0 (by rw [h.sec]; omega) rfl).mono fun e w' ⟨he, hw⟩ => ⟨he, hw ▸ hh⟩, fun W ts hh => ?_⟩
    rw [rel_read h.rel a]
    exact (rread_idle hh a hd hd1 (by omega) (by rw [h.rel.sec, h.sec]; omega)).mono fun e w' ⟨he, hw⟩ => ⟨he, hw ▸ hh⟩
end
section
variable {w0 w : World} {r : Nat} {c : RS} {t : Thing} {ts : List Thing}
theorem rh_box (h : RHeld w0 w r c (t :: ts)) (cs : Array Value) (e : Nat) : RHeld w0 (w.alloc (.cells cs e)) r c (t :: box w.heap.size cs e :: ts) := by
  obtain ⟨dv, sv, h⟩ := h
  exact ⟨dv, sv, (h.box_new cs e).perm ((List.Perm.swap _ _ _).trans (List.Perm.cons _ ((List.Perm.swap _ _ _).trans (List.Perm.cons _ ((List.Perm.swap _ _ _).trans (List.Perm.cons _ (.swap _ _ _)))))))⟩
theorem rh_boxat {o : Nat} {cs : Array Value} {e : Nat} (h : RHeld w0 w r c (t :: box o cs e :: ts)) : w.heap[o]? = some (.cells cs e (0, 0)) := by
  obtain ⟨dv, sv, h⟩ := h
  exact (fifth h).box_at.1
theorem rh_drop {u : Thing} (h : RHeld w0 w r c (t :: u :: ts)) : RHeld w0 w r c (t :: ts) := by
  obtain ⟨dv, sv, h⟩ := h
  exact ⟨dv, sv, (fifth h).drop⟩
theorem rh_cells {lf k f m v : Int} (h : RHeld w0 w r c ts) (e9 : c.left = lf) (e5 : c.wk = k) (e6 : c.wf = f) (e7 : c.wm = m) (e8 : c.wv = v) :
    w.cell? ⟨r, 9, none⟩ = some (.int .i64 lf) ∧ w.cell? ⟨r, 5, none⟩ = some (.int .i64 k) ∧ w.cell? ⟨r, 6, none⟩ = some (.int .i64 f) ∧ w.cell? ⟨r, 7, none⟩ = some (.int .i64 m) ∧ w.cell? ⟨r, 8, none⟩ = some (.int .u8 v) := by
  subst e9 e5 e6 e7 e8
  obtain ⟨dv, sv, h⟩ := h
  exact ⟨rcell h 9 _ rfl, rcell h 5 _ rfl, rcell h 6 _ rfl, rcell h 7 _ rfl, rcell h 8 _ rfl⟩
end
end Go.Proofs.Ytpkgpcolngoicaa.Given
