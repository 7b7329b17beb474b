/- The chip's functions, each by its walk: what is held is a chip: its latch, and its bytes. -/
import Derived.Test.YtehjfcfnnpjedaaAx1
import Derived.Test.YtehjfcfnnpjedaaSep
import Derived.Test.YtehjfcfnnpjedaaClone
import Derived.StillTailTactics
import Derived.Deep.QuietTactic
import Derived.BigQuiet
import Derived.Deep.RegionHeld3
import Derived.Deep.MidRow
set_option linter.unusedVariables false
set_option linter.unusedSimpArgs false
namespace Go.Proofs.Ytehjfcfnnpjedaa.Given
open Go.RowKit Go.Proofs.Ytehjfcfnnpjedaa.All Go.Proofs.Ytehjfcfnnpjedaa.Sep Go.Proofs.YtehjfcfnnpjedaaW.PrintWords Go.Proofs.YtehjfcfnnpjedaaW.PrintLast Go.Proofs.YtehjfcfnnpjedaaW.PrintMore
attribute [local go_sem] max2_int min2_int max_two min_two

/-- The chip at block g: whether its latch is open, its bytes. -/
structure ChipIn (g : Nat) (o : Bool) (xs : List Int) (w : World) (f : Nat → Prop) : Prop where
  at_ : f g
  lt : ∀ k, f k → k < w.heap.size
  pos : 0 < xs.length
  le : xs.length ≤ 100000
  row : ∃ q cap, w.heap[g]? = some (.cells #[.bool o, .slice (some ⟨q, 0, none⟩) xs.length cap] 32 (0, 0)) ∧ xs.length ≤ cap ∧ q ≠ g ∧ f q ∧ (Kd.int .u8).R 5 w 0 (fun k => k = q) (.slice (some ⟨q, 0, none⟩) xs.length cap) xs
def chip (g : Nat) (o : Bool) (xs : List Int) : Thing where
  P w f := ChipIn g o xs w f
  stays := fun {w w' f} h hs => by
    obtain ⟨h1, h2, h3, h4, q, cap, hb, hc, hq, hf, hr⟩ := h
    refine ⟨h1, fun k hk => ?_, h3, h4, q, cap, (hs g h1).trans hb, hc, hq, hf, Kd.R_move hr (fun k hk => by subst hk; exact hs _ hf)⟩
    have e1 := hs k hk
    have e2 := h2 k hk
    rw [Array.getElem?_eq_getElem e2] at e1
    exact (Array.getElem?_eq_some_iff.1 e1).1
  lt := fun h => h.lt

abbrev ptr (g : Nat) : Value := .pointer (some ⟨g, 0, none⟩)
theorem cell_of_block {w : World} {g : Nat} {cs : Array Value} {t : TypeId} (h : w.heap[g]? = some (.cells cs t (0, 0))) (j : Nat) (v : Value) (hj : cs[j]? = some v) : w.cell? ⟨g, j, none⟩ = some v := by
  simp [World.cell?, h, hj]
/-- What the walks read of a chip. -/
theorem chip_open {w0 w : World} {ts : List Thing} {g : Nat} {o : Bool} {xs : List Int} (h : Held w0 w (chip g o xs :: ts)) :
    ∃ q cap, w.cell? ⟨g, 0, none⟩ = some (.bool o) ∧ w.cell? ⟨g, 1, none⟩ = some (.slice (some ⟨q, 0, none⟩) xs.length cap) ∧ w.frozen? ⟨g, 0, none⟩ = false ∧ xs.length ≤ cap ∧ 0 < xs.length ∧ xs.length ≤ 100000 ∧
      (Kd.int .u8).R 5 w 0 (fun k => k = q) (.slice (some ⟨q, 0, none⟩) xs.length cap) xs ∧ g < w.heap.size := by
  obtain ⟨f, _, h1, h2, h3, h4, q, cap, hb, hc, hq, hf, hr⟩ := h.at_
  exact ⟨q, cap, cell_of_block hb 0 _ rfl, cell_of_block hb 1 _ rfl, blk_frozen hb 0, hc, h3, h4, hr, h2 g h1⟩
set_option maxHeartbeats 400000 in
theorem at_walk (g q n c : Nat) (a : Int) (w : World) (hc : w.cell? ⟨g, 1, none⟩ = some (.slice (some ⟨q, 0, none⟩) n c)) (hn : 0 < n) :
    Calls Try.prog 24 #[ptr g, .int .i64 a] w fun e w' => e = .returned (.int .i64 (mx 0 a % (n : Int))) ∧ w = w' := by
  have h0 : 0 ≤ mx 0 a := by unfold mx; split <;> omega
  have e1 : ((n : Int) == 0) = false := beq_eq_false_iff_ne.mpr (by omega)
  have e2 : ((n : Int) != 0) = true := bne_iff_ne.mpr (by omega)
  have hm : (if 0 < a then a else 0) = mx 0 a := rfl
  generalize mx 0 a = m at hm h0 ⊢
  go_enter Try.func24, Try.ntmps24
  go_wp2
  go_ret
  exact ⟨rfl, rfl⟩
theorem locked_walk {w0 w : World} {ts : List Thing} {g : Nat} {o : Bool} {xs : List Int} (h : Held w0 w (chip g o xs :: ts)) :
    Calls Try.prog 12 #[ptr g] w fun e w' => e = .returned (.bool !o) ∧ w = w' := by
  obtain ⟨q, cap, hc0, _⟩ := chip_open h
  clear h
  go_enter Try.func12, Try.ntmps12
  go_wp2
  go_ret
  exact ⟨rfl, rfl⟩
/-- The latch is written. -/
theorem chip_latch {w0 w : World} {ts : List Thing} {g : Nat} {o : Bool} {xs : List Int} (h : Held w0 w (chip g o xs :: ts)) (b : Bool) : Held w0 (w.setCell ⟨g, 0, none⟩ (.bool b)) (chip g b xs :: ts) :=
  h.one (fun f _ hf => by
    obtain ⟨h1, h2, h3, h4, q, cap, hb, hc, hq, hf, hr⟩ := hf
    refine ⟨f, ⟨h1, fun k hk => by simpa [World.setCell] using h2 k hk, h3, h4, q, cap, blk_set hb 0 (.bool b), hc, hq, hf, Kd.R_far hr (fun k hk => by subst hk; exact hq) _⟩, Frame.set h1 _⟩)
theorem latch_walk {w0 w : World} {ts : List Thing} {g : Nat} {o : Bool} {xs : List Int} (h : Held w0 w (chip g o xs :: ts)) (v : Int) :
    Calls Try.prog 14 #[ptr g, .int .u8 v] w fun e w' => e = .returned (.tuple #[]) ∧ Held w0 w' (chip g (v == 165) xs :: ts) := by
  obtain ⟨q, cap, hc0, _, hf0, _⟩ := chip_open h
  have HH := Aside0.mk h
  clear h
  go_enter Try.func14, Try.ntmps14
  go_wp2
  go_end0
  exact ⟨rfl, chip_latch HH.out _⟩
theorem chip_put {w0 w : World} {ts : List Thing} {g q cap : Nat} {o : Bool} {xs : List Int} (h : Held w0 w (chip g o xs :: ts)) (hq : w.cell? ⟨g, 1, none⟩ = some (.slice (some ⟨q, 0, none⟩) xs.length cap)) (i : Int) (x : Int) :
    Held w0 (w.setCell ⟨q, i.toNat, none⟩ (.int .u8 x)) (chip g o (xs.set i.toNat x) :: ts) :=
  h.one (fun f _ hf => by
    obtain ⟨h1, h2, h3, h4, q', cap', hb, hc, hn, hf, hr⟩ := hf
    have e := cell_of_block hb 1 _ rfl
    rw [hq] at e
    injection e with e
    injection e with e e1 e2
    injection e with e
    injection e with e
    subst e e2
    obtain ⟨hr1, hr2⟩ := Kd.R_put hr i x
    refine ⟨f, ⟨h1, fun k hk => by simpa [World.setCell] using h2 k hk, by simpa using h3, by simpa using h4, q, cap, ?_, by simpa using hc, hn, hf, by rw [List.length_set]; exact hr1⟩, Frame.set hf _⟩
    rw [Below.heap_setCell _ _ _ _ (Ne.symm hn), hb]
    simp)
def place (xs : List Int) (a : Int) : Int := mx 0 a % (xs.length : Int)
theorem place_bd (xs : List Int) (a : Int) (h : 0 < xs.length) : 0 ≤ place xs a ∧ place xs a < xs.length := by
  unfold place
  exact ⟨Int.emod_nonneg _ (by omega), Int.emod_lt_of_pos _ (by omega)⟩
set_option maxHeartbeats 400000 in
theorem read_walk {w0 w : World} {ts : List Thing} {g : Nat} {o : Bool} {xs : List Int} (h : Held w0 w (chip g o xs :: ts)) (a : Int) :
    Calls Try.prog 15 #[ptr g, .int .i64 a] w fun e w' => e = .returned (.int .u8 (rd xs (place xs a))) ∧ Held w0 w' (chip g o xs :: ts) ∧ Drawn0 w w' := by
  obtain ⟨q, cap, _, hc1, _, hcap, hpos, _, hr, _⟩ := chip_open h
  obtain ⟨hp0, hp1⟩ := place_bd xs a hpos
  obtain ⟨hcell, _⟩ := Kd.R_cell (0 : Int) hr (place xs a) hp0 hp1
  have hat := fun n => at_walk g q xs.length cap a (w.drewN n) (by go_simp) hpos
  have HH := Aside0.mk h
  clear h hr
  change w.cell? ⟨q, (place xs a).toNat, none⟩ = some (.int .u8 (rd xs (place xs a))) at hcell
  have HA : Hid (∀ n, Calls Try.prog 24 #[ptr g, .int .i64 a] (w.drewN n) fun e w' => e = .returned (.int .i64 (place xs a)) ∧ w' = w.drewN n) := Lib.hid (fun n => (hat n).mono fun e w' ⟨h1, h2⟩ => ⟨h1, h2.symm⟩)
  clear hat
  generalize rd xs (place xs a) = y at hcell ⊢
  generalize place xs a = i at hcell hp0 hp1 HA
  go_enter Try.func15, Try.ntmps15
  go_wp2
  go_quiet ((go_at_call 24; exact Calls.quiet_of_same (HA.out _)))
  go_wp2
  go_ret
  exact ⟨rfl, HH.out.below (pw_below_drewN (Below.refl _ _) _), Drawn0.step (Drawn0.refl _) _⟩
/-- What is made, and held. -/
def Made (w0 : World) (xs : List Int) (ts : List Thing) (e : Ending) (w' : World) : Prop := ∃ v, e = .returned v ∧ Held w0 w' (row (Kd.int .u8) 5 v xs :: ts)
theorem bytes_walk {w0 w : World} {ts : List Thing} {g : Nat} {o : Bool} {xs : List Int} (h : Held w0 w (chip g o xs :: ts)) :
    Calls Try.prog 18 #[ptr g] w (Made w0 xs (chip g o xs :: ts)) := by
  obtain ⟨q, cap, _, hc1, _, hcap, hpos, hle, hr, _⟩ := chip_open h
  have HH := Aside0.mk h
  have HR := Aside0.mk (Kd.R_reads' hr).2.2
  have HF : Aside0 (slices_Clone_byte_byte.f xs = some xs) := ⟨by unfold slices_Clone_byte_byte.f; rw [if_pos (by omega)]⟩
  clear h hr
  go_enter Try.func18, Try.ntmps18
  go_wp2_with (go_at_call 25; (with_reducible refine (slices_Clone_byte_byte.calls _ _ xs xs _ HR.out hcap HF.out).mono ?_); rintro e w1 ⟨v1, rfl, hR, hb⟩; have HO := Aside0.mk (HH.out.row_new hR hb); clear hR hb)
  go_ret
  exact ⟨v1, rfl, HO.out⟩
theorem write_shut {w0 w : World} {ts : List Thing} {g : Nat} {xs : List Int} (h : Held w0 w (chip g false xs :: ts)) (a v : Int) :
    Calls Try.prog 13 #[ptr g, .int .i64 a, .int .u8 v] w fun e w' => e = .returned (.bool false) ∧ w = w' := by
  obtain ⟨q, cap, hc0, _⟩ := chip_open h
  have HL := Lib.hid (locked_walk h)
  clear h
  go_enter Try.func13, Try.ntmps13
  go_wp2_with (go_at_call 12; refine HL.out.mono ?_; rintro e w1 ⟨rfl, rfl⟩)
  go_ret
  exact ⟨rfl, rfl⟩
set_option maxHeartbeats 400000 in
theorem write_open {w0 w : World} {ts : List Thing} {g : Nat} {xs : List Int} (h : Held w0 w (chip g true xs :: ts)) (a v : Int) :
    Calls Try.prog 13 #[ptr g, .int .i64 a, .int .u8 v] w fun e w' => e = .returned (.bool true) ∧ Held w0 w' (chip g true (xs.set (place xs a).toNat v) :: ts) := by
  obtain ⟨q, cap, hc0, hc1, _, hcap, hpos, _, hr, _⟩ := chip_open h
  obtain ⟨hp0, hp1⟩ := place_bd xs a hpos
  obtain ⟨hcell, hfro⟩ := Kd.R_cell (0 : Int) hr (place xs a) hp0 hp1
  change w.cell? ⟨q, (place xs a).toNat, none⟩ = some (.int .u8 (rd xs (place xs a))) at hcell
  have HL := Lib.hid (locked_walk h)
  have hat := (at_walk g q xs.length cap a w.drew (by go_simp) hpos).mono fun e w' ⟨h1, h2⟩ => (⟨h1, h2.symm⟩ : e = Ending.returned (.int .i64 (place xs a)) ∧ w' = w.drew)
  have HA := Lib.hid hat
  have HH := Aside0.mk (chip_put h.drew (q := q) (cap := cap) (by go_simp) (place xs a) v)
  clear h hr hat
  generalize rd xs (place xs a) = y at hcell
  generalize place xs a = i at hcell hfro hp0 hp1 HA HH ⊢
  go_enter Try.func13, Try.ntmps13
  go_wp2_with (go_at_call 12; refine HL.out.mono ?_; rintro e w1 ⟨rfl, rfl⟩)
  go_still_tail 9, (by kernel_rfl)
  still_call HA.out
  repeat still_step
  refine wpStill_nil ?_
  go_wp2
  go_ret
  exact ⟨rfl, HH.out⟩
theorem made_cell {w0 w' : World} {ys : List Int} {ts : List Thing} {e : Ending} {g : Nat} {o : Bool} {xs : List Int} (h : Made w0 ys (chip g o xs :: ts) e w') : w'.cell? ⟨g, 0, none⟩ = some (.bool o) := by
  obtain ⟨v, _, h⟩ := h
  obtain ⟨q, cap, h1, _⟩ := chip_open h.drop
  exact h1
/-- A row, boxed: a chip. -/
theorem chip_new {w0 w : World} {ts : List Thing} {A : Option Addr} {c : Nat} {xs : List Int} (o : Bool) (h : Held w0 w (row (Kd.int .u8) 5 (.slice A xs.length c) xs :: ts)) (hp : 0 < xs.length) (hl : xs.length ≤ 100000) :
    Held w0 (w.alloc (.cells #[.bool o, .slice A xs.length c] 32)) (chip w.heap.size o xs :: ts) :=
  h.one (fun f _ hf => by
    obtain ⟨h1, hr⟩ := hf
    obtain ⟨q, cap, e, _, hq, _⟩ := Kd.R_form hr hp
    injection e with e _ e2
    subst e e2
    have hfq := hr.1 q rfl
    obtain ⟨_, hc, _⟩ := Kd.R_reads' hr
    refine ⟨fun k => f k ∨ k = w.heap.size, ⟨.inr rfl, fun k hk => ?_, hp, hl, q, c, heap_alloc_new _ _, hc, by omega, .inl hfq, ?_⟩, rfl, rfl, rfl, by simp, fun k hk _ => Below.heap_alloc _ _ _ hk, fun k hk => hk.imp id (fun h => by omega)⟩
    · rw [World.size_alloc]
      rcases hk with hk | hk
      · have := h1 k hk; omega
      · omega
    · exact Kd.R_alloc (Kd.R_of_own (Kd.own_of_R hr) (fun k hk => by simpa [Value.ownBlock] using hk.symm)) _)
/-- A copy: a new chip. -/
def Copied (w0 : World) (g : Nat) (o : Bool) (xs : List Int) (ts : List Thing) (e : Ending) (w' : World) : Prop := ∃ d, e = .returned (ptr d) ∧ Held w0 w' (chip d o xs :: chip g o xs :: ts)
set_option maxHeartbeats 400000 in
theorem copy_walk {w0 w : World} {ts : List Thing} {g : Nat} {o : Bool} {xs : List Int} (h : Held w0 w (chip g o xs :: ts)) :
    Calls Try.prog 23 #[ptr g] w (Copied w0 g o xs ts) := by
  obtain ⟨q, cap, hc0, hc1, _, hcap, hpos, hle, hr, _⟩ := chip_open h
  have HB := Lib.hid (bytes_walk h.drew)
  clear h hr hc1 hcap
  go_enter Try.func23, Try.ntmps23
  go_wp2
  go_region_held3 (fun w' => w'.cell? ⟨g, 0, none⟩ = some (.bool o)) (first | go_keep | exact made_cell ‹_›) ((go_at_call 18; refine HB.out.mono ?_; intro e w1 hm; have hmc := made_cell hm; obtain ⟨v1, rfl, hm⟩ := hm; obtain ⟨A1, c1, rfl, _, _⟩ := hm.row_at; have HM := Aside0.mk hm; clear hm))
  go_wp2
  go_ret
  exact ⟨_, rfl, chip_new o HM.out hpos hle⟩
theorem within_walk (a b : Int) (w : World) : Calls Try.prog 27 #[.int .i64 a, .int .i64 b] w fun e w' => e = .returned (.bool (decide (0 ≤ a ∧ a ≤ b))) ∧ w = w' := by
  by_cases h0 : 0 ≤ a
  · by_cases h1 : a ≤ b
    · have e : decide (0 ≤ a ∧ a ≤ b) = true := decide_eq_true ⟨h0, h1⟩
      rw [e]
      go_enter Try.func27, Try.ntmps27
      go_wp2
      go_ret
      exact ⟨by simp [h0, h1], rfl⟩
    · have e : decide (0 ≤ a ∧ a ≤ b) = false := decide_eq_false (fun h => h1 h.2)
      rw [e]
      go_enter Try.func27, Try.ntmps27
      go_wp2
      go_ret
      exact ⟨by simp [h0, h1], rfl⟩
  · have e : decide (0 ≤ a ∧ a ≤ b) = false := decide_eq_false (fun h => h0 h.1)
    rw [e]
    go_enter Try.func27, Try.ntmps27
    go_wp2
    go_ret
    exact ⟨by simp [h0], rfl⟩
def sramOf (n : Int) : Int := if 0 ≤ n ∧ n ≤ 128 then n * 64 else 0
theorem sram_walk (n : Int) (w : World) : Calls Try.prog 26 #[.int .i64 n] w fun e w' => e = .returned (.int .i64 (sramOf n)) ∧ w = w' := by
  have HW := Lib.hid (within_walk n 128 w)
  by_cases h : 0 ≤ n ∧ n ≤ 128
  · have e : decide (0 ≤ n ∧ n ≤ 128) = true := decide_eq_true h
    rw [e] at HW
    have e2 : sramOf n = n * 64 := if_pos h
    rw [e2]
    obtain ⟨h0, h1⟩ := h
    clear e e2
    go_enter Try.func26, Try.ntmps26
    go_wp2_with (go_at_call 27; refine HW.out.mono ?_; rintro e w1 ⟨rfl, rfl⟩)
    go_ret
    exact ⟨rfl, rfl⟩
  · have e : decide (0 ≤ n ∧ n ≤ 128) = false := decide_eq_false h
    rw [e] at HW
    have e2 : sramOf n = 0 := if_neg h
    rw [e2]
    clear e e2 h
    go_enter Try.func26, Try.ntmps26
    go_wp2_with (go_at_call 27; refine HW.out.mono ?_; rintro e w1 ⟨rfl, rfl⟩)
    go_ret
    exact ⟨rfl, rfl⟩
/-- A chip is made, or refused. -/
def Born (w0 : World) (n : Int) (xs : List Int) (ts : List Thing) (e : Ending) (w' : World) : Prop :=
  if 1 ≤ n ∧ n ≤ 128 ∧ (xs.length : Int) = 64 * n then ∃ g, e = .returned (.tuple #[ptr g, .int .i64 0]) ∧ Held w0 w' (chip g false xs :: ts)
  else e = .returned (.tuple #[.pointer none, .int .i64 1]) ∧ Held w0 w' ts
set_option maxHeartbeats 400000 in
theorem new_ok {w0 w : World} {ts : List Thing} (A : Option Addr) (c : Nat) (n : Int) (xs : List Int) (h : Held w0 w ts) (hr : (Kd.int .u8).C w A xs.length xs) (hc : xs.length ≤ c) (h0 : 1 ≤ n) (h1 : n ≤ 128) (hl : (xs.length : Int) = 64 * n) :
    Calls Try.prog 20 #[.int .i64 n, .slice A xs.length c] w (Born w0 n xs ts) := by
  have HH := Aside0.mk h
  have HR := Aside0.mk hr
  have HF : Aside0 (slices_Clone_byte_byte.f xs = some xs) := ⟨by unfold slices_Clone_byte_byte.f; rw [if_pos (by omega)]⟩
  have hS := sram_walk n w
  have e : sramOf n = (xs.length : Int) := by unfold sramOf; rw [if_pos ⟨by omega, h1⟩, hl]; omega
  rw [e] at hS
  have HS := Lib.hid hS
  have HB : Aside0 (∀ g w', Held w0 w' (chip g false xs :: ts) → Born w0 n xs ts (.returned (.tuple #[ptr g, .int .i64 0])) w') := ⟨fun g w' h => by unfold Born; rw [if_pos ⟨h0, h1, hl⟩]; exact ⟨g, rfl, h⟩⟩
  have hp : 0 < xs.length := by omega
  have hle : xs.length ≤ 100000 := by omega
  have e1 : ((xs.length : Int) == 0) = false := beq_eq_false_iff_ne.mpr (by omega)
  have e2 : ((xs.length : Int) != (xs.length : Int)) = false := by simp
  clear h hr hl hS e
  go_enter Try.func20, Try.ntmps20
  go_wp2_with (first | (go_at_call 26; refine HS.out.mono ?_; rintro e w1 ⟨rfl, rfl⟩) | (go_at_call 25; (with_reducible refine (slices_Clone_byte_byte.calls _ _ xs xs _ HR.out hc HF.out).mono ?_); rintro e w1 ⟨v1, rfl, hR, hb⟩; obtain ⟨A1, c1, rfl⟩ := Kd.R_slice hR; have HO := Aside0.mk (HH.out.row_new hR hb); clear hR hb))
  go_ret2
  exact HB.out _ _ (chip_new false HO.out hp hle)
theorem new_no {w0 w : World} {ts : List Thing} (A : Option Addr) (c : Nat) (n : Int) (xs : List Int) (h : Held w0 w ts) (hc : xs.length ≤ c) (hx : xs.length ≤ 100000) (hn : ¬ (1 ≤ n ∧ n ≤ 128 ∧ (xs.length : Int) = 64 * n)) :
    Calls Try.prog 20 #[.int .i64 n, .slice A xs.length c] w (Born w0 n xs ts) := by
  have HB : Aside0 (Born w0 n xs ts (.returned (.tuple #[.pointer none, .int .i64 1])) w) := ⟨by unfold Born; rw [if_neg hn]; exact ⟨rfl, h⟩⟩
  have HS := Lib.hid (sram_walk n w)
  by_cases e : sramOf n = 0
  · rw [e] at HS
    clear hn h e
    go_enter Try.func20, Try.ntmps20
    go_wp2_with (go_at_call 26; refine HS.out.mono ?_; rintro e w1 ⟨rfl, rfl⟩)
    go_ret2
    exact HB.out
  · have hb : 0 ≤ n ∧ n ≤ 128 := by
      unfold sramOf at e
      split at e
      · assumption
      · exact absurd rfl e
    have e3 : sramOf n = n * 64 := if_pos hb
    have e1 : (sramOf n == 0) = false := beq_eq_false_iff_ne.mpr e
    have e2 : ((xs.length : Int) != sramOf n) = true := bne_iff_ne.mpr (by omega)
    clear hn h e e3 hb
    generalize sramOf n = m at *
    go_enter Try.func20, Try.ntmps20
    go_wp2_with (go_at_call 26; refine HS.out.mono ?_; rintro e w1 ⟨rfl, rfl⟩)
    go_ret2
    exact HB.out
theorem new_walk {w0 w : World} {ts : List Thing} (A : Option Addr) (c : Nat) (n : Int) (xs : List Int) (h : Held w0 w ts) (hr : (Kd.int .u8).C w A xs.length xs) (hc : xs.length ≤ c) (hx : xs.length ≤ 100000) :
    Calls Try.prog 20 #[.int .i64 n, .slice A xs.length c] w (Born w0 n xs ts) := by
  by_cases hn : 1 ≤ n ∧ n ≤ 128 ∧ (xs.length : Int) = 64 * n
  · exact new_ok A c n xs h hr hc hn.1 hn.2.1 hn.2.2
  · exact new_no A c n xs h hc hx hn
end Go.Proofs.Ytehjfcfnnpjedaa.Given
