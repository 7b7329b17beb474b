/- FlashNames: behind a key and 90 it identifies itself, till f0 is written: for every input. -/
import Derived.Test.YtpkgpcolngoicaaLFlashPrograms
set_option linter.unusedVariables false
set_option linter.unusedSimpArgs false
namespace Go.Proofs.Ytpkgpcolngoicaa.Given
open Go.RowKit Go.Proofs.Ytpkgpcolngoicaa.All Go.Proofs.Ytpkgpcolngoicaa.Sep Go.Proofs.YtpkgpcolngoicaaW.PrintWords Go.Proofs.YtpkgpcolngoicaaW.PrintLast Go.Proofs.YtpkgpcolngoicaaW.PrintMore
attribute [local go_sem] max2_int min2_int max_two min_two

def putCells (l : List S47) : List Value := l.flatMap fun p => [.int .i64 p.f0, .int .u8 p.f1]
theorem putCells_at (l : List S47) : ∀ (j : Nat) (p : S47) (hj : l[j]? = some p) (k : Nat) (u : Value) (hk : ([.int .i64 p.f0, .int .u8 p.f1] : List Value)[k]? = some u), (putCells l)[j * 2 + k]? = some u := by
  induction l with
  | nil => intro j p hj; simp at hj
  | cons a l ih =>
    intro j p hj k u hk
    have hk2 : k < 2 := (List.getElem?_eq_some_iff.1 hk).1
    have e : putCells (a :: l) = [.int .i64 a.f0, .int .u8 a.f1] ++ putCells l := rfl
    rw [e]
    cases j with
    | zero =>
      obtain rfl : a = p := by simpa using hj
      rw [List.getElem?_append_left (by show 0 * 2 + k < 2; omega), Nat.zero_mul, Nat.zero_add]
      exact hk
    | succ j =>
      rw [List.getElem?_append_right (by show 2 ≤ (j + 1) * 2 + k; omega)]
      show (putCells l)[(j + 1) * 2 + k - 2]? = some u
      rw [show (j + 1) * 2 + k - 2 = j * 2 + k by omega]
      exact ih j p (by simpa using hj) k u hk
theorem puts_C {W : World} {b : Nat} {l : List S47} (h : W.heap[b]? = some (.cells (putCells l).toArray 47 (0, 0))) (hl : l.length ≤ 1000) : Kd.C k47 W (some ⟨b, 0, none⟩) l.length l := by
  refine ⟨rfl, by omega, fun _ => ⟨_, rfl, fun j p hj => ⟨_, rfl, k47_mk W p, fun k u hk => ?_⟩⟩⟩
  have := putCells_at l j p hj k u hk
  show W.cell? ((⟨b, 0, none⟩ : Addr).add (j * 2 + k)) = some u
  have e : (⟨b, 0, none⟩ : Addr).add (j * 2 + k) = ⟨b, j * 2 + k, none⟩ := by unfold Addr.add; split <;> simp_all
  rw [e]
  simp [World.cell?, h, this]
/-- Writes that are written out. -/
theorem puts_lit {w0 w : World} {ts : List Thing} {g : Nat} {s : FS} (h : Held w0 w (fl g s :: ts)) (l : List S47) {cs : Array Value} (hcs : (putCells l).toArray = cs) {n : Nat} (hn : l.length = n) (hl : n ≤ 1000) {s' : FS} (hs : putsS s l = s') :
    Calls Try.prog 14 #[ptr g, .slice (some ⟨w.heap.size, 0, none⟩) n n] (w.alloc (.cells cs 47)) fun e w' => e = .returned (.tuple #[]) ∧ Held w0 w' (fl g s' :: ts) := by
  subst hcs hn
  have h2 := (h.box_new (putCells l).toArray 47).swap
  exact (puts_walk _ _ l h2 (fun W s1 hW => puts_C hW.swap.box_at.1 hl) (by omega)).mono fun e w' ⟨he, hh⟩ => ⟨he, by rw [hs] at hh; exact hh.swap.drop⟩
theorem flashNames_long (a0 : Int) (A : Option Addr) (c : Nat) (l : List Int) (a2 : Int) (w : World) (hw : 0 ≤ a0 ∧ a0 ≤ 255) (hle : 40 < (l.length : Int)) :
    Calls Try.prog 7 #[.int .u8 a0, .slice A l.length c, .int .u16 a2] w fun e w' => e = .returned (.bool true) ∧ Below w.heap.size w w' := by
  have HW := Lib.hid (awake_walk (Held.nil w))
  go_enter Try.func7, Try.ntmps7
  go_wp2_with (go_at_call 11; (with_reducible refine HW.out.mono ?_); rintro e w1 ⟨rfl, h⟩; have HA := Aside0.mk h; clear h)
  go_ret
  exact ⟨rfl, HA.out.bel⟩
theorem name_back {n : Int} {xs : List Int} (hi : Idle (newS n xs)) (a : Int) : putsS { newS n xs with step := .first .cmd, raw := false, named := true } [⟨a, 240⟩] = newS n xs := by
  show writeS { newS n xs with step := .first .cmd, raw := false, named := true } a 240 = _
  unfold writeS takeS
  rw [if_neg (by show ¬ (0 : Int) < 0; omega), if_pos ⟨rfl, rfl⟩]
  rfl
set_option maxHeartbeats 3200000 in
set_option maxRecDepth 20000 in
theorem flashNames_short (a0 : Int) (A : Option Addr) (c : Nat) (l : List Int) (a2 : Int) (w : World) (hr : (Kd.int .u8).C w A l.length l) (hc : l.length ≤ c) (hw : 0 ≤ a0 ∧ a0 ≤ 255) (hw2 : 0 ≤ a2 ∧ a2 ≤ 65535) (hle : (l.length : Int) ≤ 40) :
    Calls Try.prog 7 #[.int .u8 a0, .slice A l.length c, .int .u16 a2] w fun e w' => e = .returned (.bool true) ∧ Below w.heap.size w w' := by
  have HW := Lib.hid (awake_walk (Held.nil w))
  obtain ⟨hw20, hw21⟩ := hw2
  obtain ⟨n, hn⟩ : ∃ n, 1 + a0 % 4 = n := ⟨_, rfl⟩
  have hn0 : 1 ≤ n := by omega
  have hn1 : n ≤ 4 := by omega
  obtain ⟨m, hm⟩ : ∃ m, 256 * n = m := ⟨_, rfl⟩
  obtain ⟨hm0, hm1⟩ : 256 ≤ m ∧ m ≤ 1024 := by omega
  obtain ⟨_, hL⟩ := fill_f l (by omega) (256 * n) (by omega) (by omega)
  have HM : Hid (∀ W, Held w W [] → Calls Try.prog 12 #[.int .i64 n, .slice A l.length c] W (Got w (newS n (fillOf l (256 * n))) [])) := Lib.hid (fun W h => made_walk A c n l h (Kd.C_below hr h.bel) hc (by omega) hn0 hn1)
  have hi : Idle (newS n (fillOf l (256 * n))) := idle_new hn0 hn1 hL
  have hpar : place (fillOf l (256 * n)) a2 % 2 = a2 % 2 := by
    unfold place Given.mx
    rw [Int.emod_emod_of_dvd _ ⟨128 * n, by omega⟩]
    split
    · rfl
    · have : a2 = 0 := by omega
      rw [this]
  rw [hm] at hL HM hi hpar
  generalize fillOf l m = xs at hL HM hi hpar
  have hxn : 0 < xs.length := by omega
  have hxl : xs.length ≤ 100000 := by omega
  obtain ⟨p, hp⟩ : ∃ p, a2 % (xs.length : Int) = p := ⟨_, rfl⟩
  have hp0 : 0 ≤ p := by rw [← hp]; exact Int.emod_nonneg _ (by omega)
  have hp1 : p < (xs.length : Int) := by rw [← hp]; exact Int.emod_lt_of_pos _ (by omega)
  have hpl : place xs a2 = p := by
    rw [← hp]
    unfold place Given.mx
    split
    · rfl
    · have : a2 = 0 := by omega
      rw [this]
  obtain ⟨z, hz⟩ : ∃ z, rd xs p = z := ⟨_, rfl⟩
  have HX1 : Aside0 (0 ≤ (newS n xs).sectors ∧ (newS n xs).sectors ≤ 255) := ⟨by show 0 ≤ n ∧ n ≤ 255; omega⟩
  have HN1 : Aside0 (putsS (newS n xs) [⟨85, 170⟩, ⟨170, 85⟩, ⟨85, 144⟩] = { newS n xs with step := .first .cmd, raw := false, named := true }) := ⟨name_puts hi rfl⟩
  have HN2 := Aside0.mk (name_back hi a2)
  have HXD : Aside0 ((newS n xs).data = xs) := ⟨rfl⟩
  have HX0 : Aside0 ((newS n xs).left = 0) := ⟨rfl⟩
  have HXR : Aside0 (readV (newS n xs) a2 = z) := ⟨by show rd xs (place xs a2) = z; rw [hpl, hz]⟩
  have HYR : Aside0 (readV { newS n xs with step := .first .cmd, raw := false, named := true } a2 = if a2 % 2 = 0 then 191 else n) := ⟨by show (if place xs a2 % 2 = 0 then 191 else n) = _; rw [hpar]⟩
  have HY0 : Aside0 (({ newS n xs with step := .first .cmd, raw := false, named := true } : FS).left = 0) := ⟨rfl⟩
  have HY1 : Aside0 (0 ≤ ({ newS n xs with step := .first .cmd, raw := false, named := true } : FS).sectors ∧ ({ newS n xs with step := .first .cmd, raw := false, named := true } : FS).sectors ≤ 255) := ⟨HX1.out⟩
  generalize ({ newS n xs with step := .first .cmd, raw := false, named := true } : FS) = s1 at *
  generalize newS n xs = s0 at *
  have hb1 : ((xs.length : Int) != m) = false := by rw [hL]; simp
  have hb0 : ((xs.length : Int) == 0) = false := beq_eq_false_iff_ne.2 (by omega)
  have hb3 : ((xs.length : Int) != 0) = true := bne_iff_ne.2 (by omega)
  have HZ := Aside0.mk hz
  have HLX := Aside0.mk hL
  clear hr hL hpar hpl hi hz
  have hpm : a2 % m = p := by rw [← HLX.out]; exact hp
  have hpm1 : p < m := by rw [← HLX.out]; exact hp1
  have hxe : ¬ xs = [] := by intro e; rw [e] at hxn; exact absurd hxn (by decide)
  have hxe2 : ¬ xs.length = 0 := by omega
  have hwa : IntKind.i64.wrap a2 = a2 := by rw [IntKind.wrap_i64]; omega
  have hta : Int.tmod a2 (xs.length : Int) = p := by rw [Int.tmod_eq_emod_of_nonneg hw20]; exact hp
  clear hpm hpm1
  have hm00 : (m == 0) = false := beq_eq_false_iff_ne.2 (by omega)
  have hm01 : (m != 0) = true := bne_iff_ne.2 (by omega)
  have hwp : IntKind.i64.wrap p = p := by rw [IntKind.wrap_i64]; omega
  have L1 : Aside0 ((putCells [⟨85, 170⟩, ⟨170, 85⟩, ⟨85, 144⟩]).toArray = #[.int .i64 85, .int .u8 170, .int .i64 170, .int .u8 85, .int .i64 85, .int .u8 144]) := ⟨rfl⟩
  have L2 : Aside0 (([⟨85, 170⟩, ⟨170, 85⟩, ⟨85, 144⟩] : List S47).length = 3) := ⟨rfl⟩
  have L3 : Aside0 (3 ≤ 1000) := ⟨by omega⟩
  have L4 : Aside0 ((putCells [⟨a2, 240⟩]).toArray = #[.int .i64 a2, .int .u8 240]) := ⟨rfl⟩
  have L5 : Aside0 (([⟨a2, 240⟩] : List S47).length = 1) := ⟨rfl⟩
  have L6 : Aside0 (1 ≤ 1000) := ⟨by omega⟩
  by_cases h2 : a2 % 2 = 0
  · rw [if_pos h2] at HYR
    go_enter Try.func7, Try.ntmps7
    go_wp2_with (first
      | (go_at_call 11; (with_reducible refine HW.out.mono ?_); rintro e w1 ⟨rfl, h⟩; have HA := Aside0.mk h; clear h)
      | (go_at_call 12; (with_reducible refine (HM.out _ HA.out).mono ?_); intro e w2 hmd; obtain ⟨g, rfl, hmd⟩ := hmd; have HB := Aside0.mk hmd; clear hmd)
      | (go_at_call 13; (with_reducible refine (bytes_at HB.out HXD.out hxn).mono ?_); rintro e w3 ⟨q1, c1, rfl, h1, h⟩; have HC1 := Aside0.mk h1; have HC := Aside0.mk h.swap; clear h h1)
      | (go_at_call 14; (with_reducible refine (puts_lit HC.out [⟨85, 170⟩, ⟨170, 85⟩, ⟨85, 144⟩] (cs := #[.int .i64 85, .int .u8 170, .int .i64 170, .int .u8 85, .int .i64 85, .int .u8 144]) (n := 3) L1.out L2.out L3.out HN1.out).mono ?_); rintro e w4 ⟨rfl, h⟩; have HD := Aside0.mk h; clear h)
      | (go_at_call 19; (with_reducible refine (read_is HD.out HY0.out HY1.out HYR.out).mono ?_); rintro e w5 ⟨rfl, rfl⟩)
      | (go_at_call 14; (with_reducible refine (puts_lit HD.out [⟨a2, 240⟩] (cs := #[.int .i64 a2, .int .u8 240]) (n := 1) L4.out L5.out L6.out HN2.out).mono ?_); rintro e w6 ⟨rfl, h⟩; obtain ⟨hcell, _⟩ := row_cell h.swap p hp0 hp1 HZ.out; have HF := Aside0.mk h.drew; clear h))
    clear HB HC HD HW HM HYR HY0 HY1 HN1 HN2 L1 L4
    go_region_held3 (fun w' => w'.cell? ⟨q1, p.toNat, none⟩ = some (.int .u8 z)) (first | go_keep | assumption) ((first
      | (go_at_call 19; (with_reducible refine (read_is HF.out HX0.out HX1.out HXR.out).mono ?_); rintro e w7 ⟨rfl, rfl⟩)
      | (go_at_call 18; (with_reducible refine (left_is HF.out HX0.out).mono ?_); rintro e w8 ⟨rfl, rfl⟩)
      | (go_at_call 13; (with_reducible refine (bytes_at HF.out HXD.out hxn).mono ?_); rintro e w9 ⟨q2, c3, rfl, h1, h⟩; obtain ⟨hc9, _⟩ := row_cell h.third p hp0 hp1 HZ.out; have HC3 := Aside0.mk h1; have HI := Aside0.mk h; clear h h1)
      | (go_at_call 17; (with_reducible refine (same_rows (row_reads HI.out) (row_reads HI.out.third) rfl HC3.out HC1.out hxl).mono ?_); rintro e w10 ⟨rfl, hd⟩; have HJ := Aside0.mk (HI.out.below hd.below); obtain ⟨hc10, _⟩ := row_cell HJ.out.third p hp0 hp1 HZ.out; clear hd)))
    all_goals
      go_wp2
      go_ret
      exact ⟨rfl, HJ.out.bel⟩
  · rw [if_neg h2] at HYR
    have hb2 : (a2 % 2 == 0) = false := beq_eq_false_iff_ne.2 h2
    have hwn : IntKind.u8.wrap n = n := by rw [IntKind.wrap_u8]; omega
    clear h2
    go_enter Try.func7, Try.ntmps7
    go_wp2_with (first
      | (go_at_call 11; (with_reducible refine HW.out.mono ?_); rintro e w1 ⟨rfl, h⟩; have HA := Aside0.mk h; clear h)
      | (go_at_call 12; (with_reducible refine (HM.out _ HA.out).mono ?_); intro e w2 hmd; obtain ⟨g, rfl, hmd⟩ := hmd; have HB := Aside0.mk hmd; clear hmd)
      | (go_at_call 13; (with_reducible refine (bytes_at HB.out HXD.out hxn).mono ?_); rintro e w3 ⟨q1, c1, rfl, h1, h⟩; have HC1 := Aside0.mk h1; have HC := Aside0.mk h.swap; clear h h1)
      | (go_at_call 14; (with_reducible refine (puts_lit HC.out [⟨85, 170⟩, ⟨170, 85⟩, ⟨85, 144⟩] (cs := #[.int .i64 85, .int .u8 170, .int .i64 170, .int .u8 85, .int .i64 85, .int .u8 144]) (n := 3) L1.out L2.out L3.out HN1.out).mono ?_); rintro e w4 ⟨rfl, h⟩; have HD := Aside0.mk h; clear h)
      | (go_at_call 19; (with_reducible refine (read_is HD.out HY0.out HY1.out HYR.out).mono ?_); rintro e w5 ⟨rfl, rfl⟩)
      | (go_at_call 14; (with_reducible refine (puts_lit HD.out [⟨a2, 240⟩] (cs := #[.int .i64 a2, .int .u8 240]) (n := 1) L4.out L5.out L6.out HN2.out).mono ?_); rintro e w6 ⟨rfl, h⟩; obtain ⟨hcell, _⟩ := row_cell h.swap p hp0 hp1 HZ.out; have HF := Aside0.mk h.drew; clear h))
    clear HB HC HD HW HM HYR HY0 HY1 HN1 HN2 L1 L4
    go_region_held3 (fun w' => w'.cell? ⟨q1, p.toNat, none⟩ = some (.int .u8 z)) (first | go_keep | assumption) ((first
      | (go_at_call 19; (with_reducible refine (read_is HF.out HX0.out HX1.out HXR.out).mono ?_); rintro e w7 ⟨rfl, rfl⟩)
      | (go_at_call 18; (with_reducible refine (left_is HF.out HX0.out).mono ?_); rintro e w8 ⟨rfl, rfl⟩)
      | (go_at_call 13; (with_reducible refine (bytes_at HF.out HXD.out hxn).mono ?_); rintro e w9 ⟨q2, c3, rfl, h1, h⟩; obtain ⟨hc9, _⟩ := row_cell h.third p hp0 hp1 HZ.out; have HC3 := Aside0.mk h1; have HI := Aside0.mk h; clear h h1)
      | (go_at_call 17; (with_reducible refine (same_rows (row_reads HI.out) (row_reads HI.out.third) rfl HC3.out HC1.out hxl).mono ?_); rintro e w10 ⟨rfl, hd⟩; have HJ := Aside0.mk (HI.out.below hd.below); obtain ⟨hc10, _⟩ := row_cell HJ.out.third p hp0 hp1 HZ.out; clear hd)))
    all_goals
      go_wp2
      go_ret
      exact ⟨rfl, HJ.out.bel⟩
theorem flashNames_walk (a0 : Int) (A : Option Addr) (c : Nat) (l : List Int) (a2 : Int) (w : World) (w0 : (Lit.int .u8 a0).wf = true) (hr : (Kd.int .u8).C w A l.length l) (hc : l.length ≤ c) (hb : ∀ x ∈ l, (Lit.int .u8 x).wf = true) (w2 : (Lit.int .u16 a2).wf = true) :
    Calls Try.prog 7 #[.int .u8 a0, .slice A l.length c, .int .u16 a2] w fun e w' => e = .returned (.bool true) ∧ Below w.heap.size w w' := by
  simp [Lit.wf, IntKind.min, IntKind.max, IntKind.signed, IntKind.bits] at w0 w2
  by_cases hle : (l.length : Int) ≤ 40
  · exact flashNames_short a0 A c l a2 w hr hc (by omega) (by omega) hle
  · exact flashNames_long a0 A c l a2 w (by omega) (by omega)
end Go.Proofs.Ytpkgpcolngoicaa.Given
