/- The document's flash chip: its box, its bytes, the writes that were begun. -/
import Derived.Test.YtpkgpcolngoicaaAx1
import Derived.Test.YtpkgpcolngoicaaLFlashCut
set_option linter.unusedVariables false
set_option linter.unusedSimpArgs false
namespace Go.Proofs.Ytpkgpcolngoicaa.Given
open Go.RowKit Go.Proofs.Ytpkgpcolngoicaa.All Go.Proofs.Ytpkgpcolngoicaa.Sep Go.Proofs.YtpkgpcolngoicaaW.PrintWords Go.Proofs.YtpkgpcolngoicaaW.PrintLast Go.Proofs.YtpkgpcolngoicaaW.PrintMore
attribute [local go_sem] max2_int min2_int max_two min_two

structure RS where
  sectors : Int
  data : List Int
  seq : List S47
  named : Bool
  reads : Int
  wk : Int
  wf : Int
  wm : Int
  wv : Int
  left : Int
def rcells (s : RS) (dv sv : Value) : Array Value := #[.int .i64 s.sectors, dv, sv, .bool s.named, .int .i64 s.reads, .int .i64 s.wk, .int .i64 s.wf, .int .i64 s.wm, .int .u8 s.wv, .int .i64 s.left]
abbrev rT : TypeId := 59
abbrev dRow (v : Value) (xs : List Int) : Thing := row (Kd.int .u8) 5 v xs
abbrev qRow (v : Value) (l : List S47) : Thing := row k47 47 v l
/-- The document's chip is held. -/
def RHeld (w0 w : World) (r : Nat) (s : RS) (ts : List Thing) : Prop := ∃ dv sv, Held w0 w (box r (rcells s dv sv) rT :: dRow dv s.data :: qRow sv s.seq :: ts)
theorem box_set {w0 w : World} {g : Nat} {cs : Array Value} {e : Nat} {ts : List Thing} (h : Held w0 w (box g cs e :: ts)) (j : Nat) (u : Value) {cs' : Array Value} (hc : cs.setIfInBounds j u = cs') : Held w0 (w.setCell ⟨g, j, none⟩ u) (box g cs' e :: ts) :=
  h.one (fun f _ hf => by
    obtain ⟨h1, h2, h3⟩ := hf
    subst hc
    exact ⟨f, ⟨h1, h2, blk_set h3 j u⟩, Frame.set h1 _⟩)
theorem row_nil {α : Type} {d : Kd α} {e : Nat} {w0 w : World} {ts : List Thing} (h : Held w0 w ts) : Held w0 w (row d e (.slice none 0 0) [] :: ts) :=
  h.new (Below.refl _ _) (fun _ => False) ⟨fun k hk => hk.elim, Kd.R_nil d e w 0 _⟩ (fun k hk => hk.elim)
section
variable {w0 w : World} {ts : List Thing} {r : Nat} {s : RS} {dv sv : Value}
theorem rcell (h : Held w0 w (box r (rcells s dv sv) rT :: ts)) (j : Nat) (v : Value) (hj : (rcells s dv sv)[j]? = some v) : w.cell? ⟨r, j, none⟩ = some v := cell_of_block h.box_at.1 j v hj
theorem rfrozen (h : Held w0 w (box r (rcells s dv sv) rT :: ts)) (j : Nat) : w.frozen? ⟨r, j, none⟩ = false := blk_frozen h.box_at.1 j
theorem rstore (h : Held w0 w (box r (rcells s dv sv) rT :: ts)) (j : Nat) (u : Value) (s' : RS) (dv' sv' : Value) (hc : (rcells s dv sv).setIfInBounds j u = rcells s' dv' sv') : Held w0 (w.setCell ⟨r, j, none⟩ u) (box r (rcells s' dv' sv') rT :: ts) := box_set h j u hc
end
def beginR (s : RS) (k f m v n : Int) : RS := { s with seq := [], named := false, reads := 0, wk := k, wf := f, wm := m, wv := v, left := n }
section
variable {w0 w : World} {ts : List Thing} {r : Nat} {s : RS}
theorem rbegin_st {dv sv : Value} (h : Held w0 w (box r (rcells s dv sv) rT :: ts)) (k f m v n : Int) :
    Held w0 ((((((((w.setCell ⟨r, 2, none⟩ (.slice none 0 0)).setCell ⟨r, 3, none⟩ (.bool false)).setCell ⟨r, 4, none⟩ (.int .i64 0)).setCell ⟨r, 5, none⟩ (.int .i64 k)).setCell ⟨r, 6, none⟩ (.int .i64 f)).setCell ⟨r, 7, none⟩ (.int .i64 m)).setCell ⟨r, 8, none⟩ (.int .u8 v)).setCell ⟨r, 9, none⟩ (.int .i64 n)) (box r (rcells (beginR s k f m v n) dv (.slice none 0 0)) rT :: ts) := by
  have h1 := rstore h 2 (.slice none 0 0) s dv (.slice none 0 0) (by simp [rcells])
  have h2 := rstore h1 3 (.bool false) { s with named := false } dv (.slice none 0 0) (by simp [rcells])
  have h3 := rstore h2 4 (.int .i64 0) { s with named := false, reads := 0 } dv (.slice none 0 0) (by simp [rcells])
  have h4 := rstore h3 5 (.int .i64 k) { s with named := false, reads := 0, wk := k } dv (.slice none 0 0) (by simp [rcells])
  have h5 := rstore h4 6 (.int .i64 f) { s with named := false, reads := 0, wk := k, wf := f } dv (.slice none 0 0) (by simp [rcells])
  have h6 := rstore h5 7 (.int .i64 m) { s with named := false, reads := 0, wk := k, wf := f, wm := m } dv (.slice none 0 0) (by simp [rcells])
  have h7 := rstore h6 8 (.int .u8 v) { s with named := false, reads := 0, wk := k, wf := f, wm := m, wv := v } dv (.slice none 0 0) (by simp [rcells])
  exact rstore h7 9 (.int .i64 n) (beginR s k f m v n) dv (.slice none 0 0) (by simp [rcells, beginR])
theorem rclose_nil {dv : Value} {s' : RS} (h : Held w0 w (box r (rcells s' dv (.slice none 0 0)) rT :: dRow dv s.data :: ts)) (hd : s'.data = s.data) (hq : s'.seq = []) : RHeld w0 w r s' ts :=
  ⟨dv, .slice none 0 0, by rw [hd, hq]; exact (row_nil h).swap.perm (List.Perm.cons _ (.swap _ _ _))⟩
set_option maxHeartbeats 800000 in
theorem rbegin_walk (h : RHeld w0 w r s ts) (k f m v n : Int) :
    Calls Try.prog 42 #[ptr r, .agg #[.int .i64 k, .int .i64 f, .int .i64 m, .int .u8 v], .int .i64 n] w fun e w' => e = .returned (.tuple #[]) ∧ RHeld w0 w' r (beginR s k f m v n) ts := by
  obtain ⟨dv, sv, h⟩ := h
  have c2 := rcell h 2 _ rfl
  have c3 := rcell h 3 _ rfl
  have c4 := rcell h 4 _ rfl
  have c5 := rcell h 5 _ rfl
  have c6 := rcell h 6 _ rfl
  have c7 := rcell h 7 _ rfl
  have c8 := rcell h 8 _ rfl
  have c9 := rcell h 9 _ rfl
  have f2 := rfrozen h 2
  have f3 := rfrozen h 3
  have f4 := rfrozen h 4
  have f5 := rfrozen h 5
  have f6 := rfrozen h 6
  have f7 := rfrozen h 7
  have f8 := rfrozen h 8
  have f9 := rfrozen h 9
  have hr := h.box_at.1
  have hg : r < w.heap.size := World.block_lt_of_cell? w ⟨r, 3, none⟩ c3
  simp only [rcells] at c2 c3 c4 c5 c6 c7 c8 c9
  have HP : Aside0 (RHeld w0 _ r (beginR s k f m v n) ts) := ⟨rclose_nil (((rbegin_st h k f m v n).third.drop).alloc (.cells #[.int .i64 k, .int .i64 f, .int .i64 m, .int .u8 v] 53)) rfl rfl⟩
  clear h hr
  go_enter Try.func42, Try.ntmps42
  go_wp2
  go_end0
  exact ⟨rfl, HP.out⟩
theorem rlen (h : RHeld w0 w r s ts) : ∃ A c, ∃ sv, Held w0 w (box r (rcells s (.slice A s.data.length c) sv) rT :: dRow (.slice A s.data.length c) s.data :: qRow sv s.seq :: ts) ∧ s.data.length ≤ c ∧ (Kd.int .u8).C w A s.data.length s.data := by
  obtain ⟨dv, sv, h⟩ := h
  obtain ⟨A, c, rfl, hc, hC⟩ := h.swap.row_at
  exact ⟨A, c, sv, h, hc, hC⟩
/-- What the document's chip tells while it is busy. -/
def rstatus (s : RS) : Int := (if s.reads % 2 = 1 then 64 else 0) + (if s.wk = 1 ∧ s.wv < 128 then 128 else 0)
set_option maxHeartbeats 1600000 in
theorem rread_busy (h : RHeld w0 w r s ts) (a : Int) (hp : 0 < s.data.length) (hb : 0 < s.left) (hr0 : 0 ≤ s.reads) (hr1 : s.reads ≤ 1000000) :
    Calls Try.prog 30 #[ptr r, .int .i64 a] w fun e w' => e = .returned (.int .u8 (rstatus s)) ∧ RHeld w0 w' r { s with reads := s.reads + 1 } ts := by
  obtain ⟨A, c, sv, h, hc, hC⟩ := rlen h
  have c1 := rcell h 1 (.slice A s.data.length c) rfl
  have c4 := rcell h 4 (.int .i64 s.reads) rfl
  have c5 := rcell h 5 (.int .i64 s.wk) rfl
  have c8 := rcell h 8 (.int .u8 s.wv) rfl
  have c9 := rcell h 9 (.int .i64 s.left) rfl
  have f4 := rfrozen h 4
  have HP : Aside0 (RHeld w0 (w.setCell ⟨r, 4, none⟩ (.int .i64 (s.reads + 1))) r { s with reads := s.reads + 1 } ts) := ⟨_, _, rstore h 4 (.int .i64 (s.reads + 1)) { s with reads := s.reads + 1 } _ _ (by simp [rcells])⟩
  have e1 : ((s.data.length : Int) == 0) = false := beq_eq_false_iff_ne.mpr (by omega)
  have e2 : ((s.data.length : Int) != 0) = true := bne_iff_ne.mpr (by omega)
  clear h hC
  unfold rstatus
  obtain ⟨s', hs'⟩ : ∃ s' : RS, { s with reads := s.reads + 1 } = s' := ⟨_, rfl⟩
  rw [hs'] at HP ⊢
  clear hs'
  generalize s.data.length = L at *
  generalize s.reads = n at *
  generalize s.wk = k at *
  generalize s.wv = v at *
  generalize s.left = m at *
  have h0 : 0 ≤ Given.mx 0 a := by unfold Given.mx; split <;> omega
  have hmx : (if 0 < a then a else 0) = Given.mx 0 a := rfl
  generalize Given.mx 0 a = y at *
  have hcase : (n % 2 = 1 ∨ n % 2 = 0) ∧ ((k = 1 ∧ v < 128) ∨ (k = 1 ∧ 128 ≤ v) ∨ ¬ k = 1) := by omega
  obtain ⟨ho | ho, ⟨hk, hv⟩ | ⟨hk, hv⟩ | hk⟩ := hcase
  · rw [if_pos ho, if_pos ⟨hk, hv⟩]
    have hkb : (k == 1) = true := beq_iff_eq.2 hk
    clear hk
    go_enter Try.func30, Try.ntmps30
    go_wp2
    go_ret
    exact ⟨rfl, HP.out⟩
  · rw [if_pos ho, if_neg (fun h => by omega)]
    have hkb : (k == 1) = true := beq_iff_eq.2 hk
    clear hk
    go_enter Try.func30, Try.ntmps30
    go_wp2
    go_ret
    exact ⟨rfl, HP.out⟩
  · rw [if_pos ho, if_neg (fun h => hk h.1)]
    have hkb : (k == 1) = false := beq_eq_false_iff_ne.2 hk
    clear hk
    go_enter Try.func30, Try.ntmps30
    go_wp2
    go_ret
    exact ⟨rfl, HP.out⟩
  · rw [if_neg (by omega), if_pos ⟨hk, hv⟩]
    have hkb : (k == 1) = true := beq_iff_eq.2 hk
    clear hk
    go_enter Try.func30, Try.ntmps30
    go_wp2
    go_ret
    exact ⟨rfl, HP.out⟩
  · rw [if_neg (by omega), if_neg (fun h => by omega)]
    have hkb : (k == 1) = true := beq_iff_eq.2 hk
    clear hk
    go_enter Try.func30, Try.ntmps30
    go_wp2
    go_ret
    exact ⟨rfl, HP.out⟩
  · rw [if_neg (by omega), if_neg (fun h => hk h.1)]
    have hkb : (k == 1) = false := beq_eq_false_iff_ne.2 hk
    clear hk
    go_enter Try.func30, Try.ntmps30
    go_wp2
    go_ret
    exact ⟨rfl, HP.out⟩
def rreadV (s : RS) (a : Int) : Int := if s.named = true then (if place s.data a % 2 = 0 then 191 else s.sectors) else rd s.data (place s.data a)
set_option maxHeartbeats 1600000 in
theorem rread_idle (h : RHeld w0 w r s ts) (a : Int) (hp : 0 < s.data.length) (hl : s.data.length ≤ 100000) (hb : s.left = 0) (hsec : 0 ≤ s.sectors ∧ s.sectors ≤ 255) :
    Calls Try.prog 30 #[ptr r, .int .i64 a] w fun e w' => e = .returned (.int .u8 (rreadV s a)) ∧ w = w' := by
  obtain ⟨A, c, sv, h, hc, hC⟩ := rlen h
  have c0 := rcell h 0 (.int .i64 s.sectors) rfl
  have c1 := rcell h 1 (.slice A s.data.length c) rfl
  have c3 := rcell h 3 (.bool s.named) rfl
  have c9 := rcell h 9 (.int .i64 s.left) rfl
  rw [hb] at c9
  have e1 : ((s.data.length : Int) == 0) = false := beq_eq_false_iff_ne.mpr (by omega)
  have e2 : ((s.data.length : Int) != 0) = true := bne_iff_ne.mpr (by omega)
  obtain ⟨hp0, hp1⟩ := place_bd s.data a hp
  obtain ⟨ad, rfl, hcs⟩ := (Kd.reads_of_C (enc := Value.int .u8) (d := (0 : Int)) (h1 := fun _ => rfl) hC).2.2 hp
  have hcell := hcs (place s.data a).toNat (by omega)
  have hx : s.data.getD (place s.data a).toNat 0 = rd s.data (place s.data a) := rfl
  rw [hx] at hcell
  clear h hC hcs hx
  unfold rreadV
  have h0 : 0 ≤ Given.mx 0 a := by unfold Given.mx; split <;> omega
  have hpl : place s.data a = Given.mx 0 a % (s.data.length : Int) := rfl
  have hmx : (if 0 < a then a else 0) = Given.mx 0 a := rfl
  generalize rd s.data (place s.data a) = z at *
  generalize place s.data a = p at *
  generalize s.data.length = L at *
  generalize s.sectors = n at *
  generalize Given.mx 0 a = y at *
  have hpl2 : y % (L : Int) = p := hpl.symm
  clear hpl
  obtain ⟨hs0, hs1⟩ := hsec
  cases hn : s.named with
  | true =>
    rw [hn] at c3
    rw [if_pos rfl]
    by_cases he : p % 2 = 0
    · rw [if_pos he]
      go_enter Try.func30, Try.ntmps30
      go_wp2
      go_ret
      exact ⟨rfl, rfl⟩
    · rw [if_neg he]
      have hb : (p % 2 == 0) = false := beq_eq_false_iff_ne.2 he
      go_enter Try.func30, Try.ntmps30
      go_wp2
      go_ret
      exact ⟨rfl, rfl⟩
  | false =>
    rw [hn] at c3
    rw [if_neg (by decide)]
    go_enter Try.func30, Try.ntmps30
    go_wp2
    go_ret
    exact ⟨rfl, rfl⟩
end
end Go.Proofs.Ytpkgpcolngoicaa.Given
