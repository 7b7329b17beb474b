/- Each chip's bytes out of all as one: the walk of image.Unpack. -/
import Derived.Test.YtmlldfkmmmncgaaDoorAx1
import Derived.Test.YtmlldfkmmmncgaaDoorAx2
import Derived.Test.YtmlldfkmmmncgaaDoorAx9
import Derived.Test.YtmlldfkmmmncgaaDoorClone
import Derived.Test.YtmlldfkmmmncgaaDoorPieces
import Derived.Deep.QuietTactic
import Derived.BigQuiet
import Derived.Deep.Slices
set_option linter.unusedVariables false
set_option linter.unusedSimpArgs false
namespace Go.Proofs.YtmlldfkmmmncgaaDoor.Given
open Go.RowKit Go.Proofs.YtmlldfkmmmncgaaDoor.All Go.Proofs.YtmlldfkmmmncgaaDoorW.PrintWords Go.Proofs.YtmlldfkmmmncgaaDoorW.PrintLast Go.Proofs.YtmlldfkmmmncgaaDoorW.PrintMore

theorem bcell {W w1 : World} (hb : Below W.heap.size W w1) : (∀ b o, b < W.heap.size → w1.cell? ⟨b, o, none⟩ = W.cell? ⟨b, o, none⟩) ∧ (∀ b o, b < W.heap.size → w1.frozen? ⟨b, o, none⟩ = W.frozen? ⟨b, o, none⟩) :=
  ⟨fun b o h => hb.cell (p := ⟨b, o, none⟩) h, fun b o h => hb.frozen (p := ⟨b, o, none⟩) h⟩
/-- A part of a row that is read. -/
theorem part_C {W : World} {A A' : Option Addr} {xs : List Int} (x y : Nat) (h : (Kd.int .u8).C W A xs.length xs) (hxy : x + y ≤ xs.length) (hA : 0 < y → ∀ ad, A = some ad → A' = some (ad.add x)) :
    (Kd.int .u8).C W A' ((xs.drop x).take y).length ((xs.drop x).take y) := by
  obtain ⟨_, h2, h3⟩ := h
  refine ⟨rfl, by rw [List.length_take, List.length_drop]; omega, fun hp => ?_⟩
  rw [List.length_take, List.length_drop] at hp
  obtain ⟨ad, e, hc⟩ := h3 (by omega)
  refine ⟨_, hA (by omega) ad e, fun j p hj => ?_⟩
  have hjy : j < y := by have := (List.getElem?_eq_some_iff.1 hj).1; rw [List.length_take] at this; omega
  rw [List.getElem?_take, if_pos hjy, List.getElem?_drop] at hj
  obtain ⟨c, h4, h5, h6⟩ := hc _ _ hj
  refine ⟨c, h4, h5, fun i u hu => ?_⟩
  have := h6 i u hu
  rw [Go.Deep.add_add]
  simp only [show (Kd.int .u8).sz = 1 from rfl, Nat.mul_one, Nat.add_assoc] at this ⊢
  exact this
theorem elB : Tryd.prog.elem 25 = 5 := by simp [Program.elem, Tryd.underlying25]
theorem unB : Tryd.prog.underlying 25 = some (.slice (Tryd.prog.elem 25)) := by rw [elB]; exact Tryd.underlying25
def cutA (A : Option Addr) (x y : Nat) : Option Addr := if y = 0 then A else A.map (·.add x)
theorem cutA_at (A : Option Addr) (x y : Nat) : 0 < y → ∀ ad, A = some ad → cutA A x y = some (ad.add x) := fun h ad e => by unfold cutA; rw [if_neg (by omega), e]; rfl
theorem run_hm (A : Option Addr) (n c x : Nat) (h : x ≤ c) : ∀ W : World, (Instr.slice 25 (.slice A n c) none (some (.int .i64 (x : Int))) (some (.int .i64 (x : Int)))).run Tryd.prog W = .ok (.slice (cutA A 0 x) x x) W := by
  intro W
  obtain ⟨i, hi, _, hz, _⟩ := info_parts infoB'
  rw [run_slice_hm W 25 _ n c unB .i64 .i64 _ _ (by omega) (by omega) (by omega), elB]
  simp [sizeOf, typeInfo, hi, sliced, Result.andThen, hz, cutA]
theorem run_lhm (A : Option Addr) (n c x y : Nat) (h : x + y ≤ c) : ∀ W : World, (Instr.slice 25 (.slice A n c) (some (.int .i64 (x : Int))) (some (.int .i64 ((x : Int) + (y : Int)))) (some (.int .i64 ((x : Int) + (y : Int))))).run Tryd.prog W = .ok (.slice (cutA A x y) y y) W := by
  intro W
  obtain ⟨i, hi, _, hz, _⟩ := info_parts infoB'
  rw [run_slice_lhm W 25 _ n c unB .i64 .i64 .i64 _ _ _ (by omega) (by omega) (by omega) (by omega), elB]
  have e : ((x : Int) + (y : Int)).toNat = x + y := by omega
  simp [sizeOf, typeInfo, hi, sliced, Result.andThen, hz, cutA, e]
theorem run_from (A : Option Addr) (n c x y z : Nat) (h : x + y + z = n) (hc : n ≤ c) : ∀ W : World, (Instr.slice 25 (.slice A n c) (some (.int .i64 ((x : Int) + (y : Int)))) none none).run Tryd.prog W = .ok (.slice (cutA A (x + y) (c - (x + y))) z (c - (x + y))) W := by
  intro W
  obtain ⟨i, hi, hz⟩ : ∃ i, Tryd.prog.info? 5 = some i ∧ i.size = 1 := by
    obtain ⟨i, hi, _, hz, _⟩ := info_parts infoB'
    exact ⟨i, hi, hz⟩
  have := cut_from (P := Tryd.prog) 25 5 .i64 Tryd.underlying25 hi 1 hz A n c ((x : Int) + (y : Int)) (by omega) (by omega) W
  rw [this]
  have e : ((x : Int) + (y : Int)).toNat = x + y := by omega
  have e2 : n - (x + y) = z := by omega
  rw [e, e2]
  unfold cutA
  congr 2
  by_cases h : c = x + y
  · rw [if_pos h, if_pos (by omega)]
  · rw [if_neg h, if_neg (by omega), Nat.mul_one]
def image_Unpack.f (a b c : Int) (l : List Int) : Option (List Int × List Int × List Int × Int) :=
  (geo_Right.f a b c).bind fun t => if t = true then (geo_Total.f a b c).bind fun n => if (l.length : Int) = n then (image_sizes.f a b c).bind fun s =>
    if 0 ≤ s.1 ∧ 0 ≤ s.2.1 ∧ 0 ≤ s.2.2 ∧ s.1 + s.2.1 + s.2.2 = l.length ∧ l.length ≤ 140737488351232 then some (l.take s.1.toNat, (l.drop s.1.toNat).take s.2.1.toNat, l.drop (s.1.toNat + s.2.1.toNat), 0) else none
    else some ([], [], [], 1) else some ([], [], [], 9)
abbrev Geo3 (a b c : Int) : Value := .agg #[.int .i64 a, .int .i64 b, .int .i64 c]
/-- What is unpacked. -/
def Un (w : World) (r1 r2 r3 : List Int) (r4 : Int) (e : Ending) (w' : World) : Prop :=
  ∃ v0 v1 v2 : Value, e = .returned (.tuple #[v0, v1, v2, .int .i64 r4]) ∧ Kd.V (Kd.int .u8) 5 w' w.heap.size (fun k_ => w.heap.size ≤ k_) v0 r1 ∧ Kd.V (Kd.int .u8) 5 w' w.heap.size (fun k_ => w.heap.size ≤ k_) v1 r2 ∧
    Kd.V (Kd.int .u8) 5 w' w.heap.size (fun k_ => w.heap.size ≤ k_) v2 r3 ∧ Below w.heap.size w w'
theorem un_nil {w w' : World} (r4 : Int) (hb : Below w.heap.size w w') : Un w [] [] [] r4 (.returned (.tuple #[.slice none 0 0, .slice none 0 0, .slice none 0 0, .int .i64 r4])) w' :=
  ⟨_, _, _, rfl, Kd.V_nil _ _ _ _ _, Kd.V_nil _ _ _ _ _, Kd.V_nil _ _ _ _ _, hb⟩
abbrev box3 (w : World) (a b c : Int) : World := w.alloc (.cells #[.int .i64 a, .int .i64 b, .int .i64 c] 23)
theorem box_cells {w W : World} {a b c : Int} (hb : Below (w.heap.size + 1) (box3 w a b c) W) : W.cell? ⟨w.heap.size, 0, none⟩ = some (.int .i64 a) ∧ W.cell? ⟨w.heap.size, 1, none⟩ = some (.int .i64 b) ∧ W.cell? ⟨w.heap.size, 2, none⟩ = some (.int .i64 c) ∧ Below w.heap.size w W := by
  have hh : W.heap[w.heap.size]? = some (.cells #[.int .i64 a, .int .i64 b, .int .i64 c] 23 (0, 0)) := (hb.block _ (by omega)).trans (heap_alloc_new w _)
  refine ⟨?_, ?_, ?_, ((Below.refl _ _).alloc (Nat.le_refl _) _).trans (hb.mono (by omega))⟩ <;> simp [World.cell?, hh]
theorem box_step {w W W' : World} {a b c : Int} (hb : Below (w.heap.size + 1) (box3 w a b c) W) (h : Below W.heap.size W W') : Below (w.heap.size + 1) (box3 w a b c) W' := hb.trans (h.mono (by have := hb.size; simp at this; omega))
set_option maxHeartbeats 1600000 in
theorem unpack_bad (a b c : Int) (A : Option Addr) (cp : Nat) (l : List Int) (w : World) (h : geo_Right.f a b c = some false) :
    Calls Tryd.prog 23 #[Geo3 a b c, .slice A l.length cp] w (Un w [] [] [] 9) := by
  have HR := Lib.hid (fun W => geo_Right.calls a b c false W h)
  have HB0 : Aside0 (Below (w.heap.size + 1) (box3 w a b c) (box3 w a b c)) := ⟨Below.refl _ _⟩
  clear h
  go_enter Tryd.func23, Tryd.ntmps23
  go_wp2_with (go_at_call 28; (with_reducible refine (HR.out _).mono ?_); rintro e w1 ⟨rfl, hb⟩; have HB := Aside0.mk (box_step HB0.out hb); clear hb)
  refine bodyPost_ret (v := .tuple #[.slice none 0 0, .slice none 0 0, .slice none 0 0, .int .i64 9]) (by simp [results, Tryd.results23, go_sem]) rfl ?_
  exact un_nil 9 (box_cells HB.out).2.2.2
set_option maxHeartbeats 1600000 in
theorem unpack_long (a b c n : Int) (A : Option Addr) (cp : Nat) (l : List Int) (w : World) (hG : Laid w) (h : geo_Right.f a b c = some true) (ht : geo_Total.f a b c = some n) (hl : (l.length : Int) ≠ n) :
    Calls Tryd.prog 23 #[Geo3 a b c, .slice A l.length cp] w (Un w [] [] [] 1) := by
  have HR := Lib.hid (fun W => geo_Right.calls a b c true W h)
  have HT := Lib.hid (fun W hG => geo_Total.calls a b c n W hG ht)
  have HB0 : Aside0 (Below (w.heap.size + 1) (box3 w a b c) (box3 w a b c)) := ⟨Below.refl _ _⟩
  have HG := Aside0.mk hG
  have e1 : ((l.length : Int) != n) = true := bne_iff_ne.mpr hl
  clear h ht hl hG
  go_enter Tryd.func23, Tryd.ntmps23
  go_wp2_with (first
    | (go_at_call 28; (with_reducible refine (HR.out _).mono ?_); rintro e w1 ⟨rfl, hb⟩; have HB := Aside0.mk (box_step HB0.out hb); obtain ⟨c0, c1, c2, hb1⟩ := box_cells HB.out; have HBB := Aside0.mk hb1; clear hb hb1)
    | (go_at_call 35; (with_reducible refine (HT.out _ (Laid.below HG.out HBB.out)).mono ?_); rintro e w2 ⟨rfl, hb⟩; have HB2 := Aside0.mk (box_step HB.out hb); clear hb))
  refine bodyPost_ret (v := .tuple #[.slice none 0 0, .slice none 0 0, .slice none 0 0, .int .i64 1]) (by simp [results, Tryd.results23, go_sem]) rfl ?_
  exact un_nil 1 (box_cells HB2.out).2.2.2
set_option maxHeartbeats 3200000 in
theorem unpack_good (a b c : Int) (x y z : Nat) (A : Option Addr) (cp : Nat) (l : List Int) (w : World) (hG : Laid w) (h : geo_Right.f a b c = some true) (ht : geo_Total.f a b c = some (l.length : Int)) (hs : image_sizes.f a b c = some ((x : Int), (y : Int), (z : Int)))
    (hr : (Kd.int .u8).C w A l.length l) (hc : l.length ≤ cp) (hn : x + y + z = l.length) (hm : l.length ≤ 140737488351232) :
    Calls Tryd.prog 23 #[Geo3 a b c, .slice A l.length cp] w (Un w (l.take x) ((l.drop x).take y) (l.drop (x + y)) 0) := by
  have HR := Lib.hid (fun W => geo_Right.calls a b c true W h)
  have HT := Lib.hid (fun W hG => geo_Total.calls a b c _ W hG ht)
  have HS := Lib.hid (fun W hG => image_sizes.calls a b c _ _ _ W hG hs)
  have HB0 : Aside0 (Below (w.heap.size + 1) (box3 w a b c) (box3 w a b c)) := ⟨Below.refl _ _⟩
  have HG := Aside0.mk hG
  have HRd := Aside0.mk hr
  have HF : Aside0 (slices_Clone_byte_byte.f l = some l) := ⟨by unfold slices_Clone_byte_byte.f; rw [if_pos (by omega)]⟩
  have e1 : ((l.length : Int) != (l.length : Int)) = false := by simp
  clear h ht hG hs hr
  go_enter Tryd.func23, Tryd.ntmps23
  go_wp2_with (first
    | (go_at_call 28; (with_reducible refine (HR.out _).mono ?_); rintro e w1 ⟨rfl, hb⟩; have HB := Aside0.mk (box_step HB0.out hb); obtain ⟨c0, c1, c2, hb1⟩ := box_cells HB.out; have HBB := Aside0.mk hb1; clear hb hb1)
    | (go_at_call 35; (with_reducible refine (HT.out _ (Laid.below HG.out HBB.out)).mono ?_); rintro e w2 ⟨rfl, hb⟩; have HB2 := Aside0.mk (box_step HB.out hb); obtain ⟨c0, c1, c2, hb1⟩ := box_cells HB2.out; have HBC := Aside0.mk hb1; clear hb hb1)
    | (go_at_call 29; (with_reducible refine (HS.out _ (Laid.below HG.out HBC.out)).mono ?_); rintro e w3 ⟨rfl, hb⟩; have HB3 := Aside0.mk (box_step HB2.out hb); have HBD := Aside0.mk (box_cells HB3.out).2.2.2; clear hb)
    | (go_at_call 36; (with_reducible refine (slices_Clone_byte_byte.calls _ _ l l _ (Kd.C_below HRd.out HBD.out) hc HF.out).mono ?_); rintro e w4 ⟨v4, rfl, hR, hb⟩; obtain ⟨A4, c4, rfl⟩ := Kd.R_slice hR; have HB4 := Aside0.mk (HBD.out.trans (hb.mono HBD.out.size)); have HRR := Aside0.mk (Kd.R_lower (Kd.R_mono (Kd.R_bound hR) (ok' := fun k_ => w.heap.size ≤ k_) (fun k hk => Nat.le_trans HBD.out.size hk.2.1)) HBD.out.size); clear hb hR))
  have hle4 : l.length ≤ c4 := (Kd.R_reads' HRR.out).2.1
  have s1 := run_hm A4 l.length c4 x (by omega)
  have s2 := run_lhm A4 l.length c4 x y (by omega)
  have s3 := run_from A4 l.length c4 x y z hn hle4
  have hw : IntKind.i64.wrap ((x : Int) + (y : Int)) = (x : Int) + (y : Int) := by rw [IntKind.wrap_i64]; omega
  have HA1 := Aside0.mk (cutA_at A4 0 x)
  have HA2 := Aside0.mk (cutA_at A4 x y)
  have HA3 : Aside0 (0 < z → ∀ ad, A4 = some ad → cutA A4 (x + y) (c4 - (x + y)) = some (ad.add (x + y))) := ⟨fun h => cutA_at A4 (x + y) (c4 - (x + y)) (by omega)⟩
  have hz4 : z ≤ c4 - (x + y) := by omega
  generalize cutA A4 0 x = B1 at *
  generalize cutA A4 x y = B2 at *
  generalize cutA A4 (x + y) (c4 - (x + y)) = B3 at *
  generalize c4 - (x + y) = d4 at *
  go_quiet (fail)
  go_wp2
  clear s1 s2 s3 hw
  rename_i nq
  refine bodyPost_ret (v := .tuple #[.slice B1 x x, .slice B2 y y, .slice B3 z d4, .int .i64 0]) (by simp [results, Tryd.results23, go_sem]) rfl ?_
  have hF := Kd.F_drewN (Kd.R_F HRR.out) nq
  have l1 : (l.take x).length = x := by rw [List.length_take]; omega
  have l2 : ((l.drop x).take y).length = y := by rw [List.length_take, List.length_drop]; omega
  have l3 : (l.drop (x + y)).length = z := by rw [List.length_drop]; omega
  have e1 : l.take x = (l.drop 0).take x := rfl
  have e3 : l.drop (x + y) = (l.drop (x + y)).take z := by rw [List.take_of_length_le (by omega)]
  refine ⟨_, _, _, rfl, ?_, ?_, ?_, pw_below_drewN HB4.out _⟩
  · have := Kd.V_mk (d := Kd.int .u8) (e := 5) (base := w.heap.size) (A := B1) (c := x) (xs := l.take x) (by omega) (fun W' hW => by rw [e1]; exact part_C 0 x (hF W' hW) (by omega) HA1.out)
    rwa [l1] at this
  · have := Kd.V_mk (d := Kd.int .u8) (e := 5) (base := w.heap.size) (A := B2) (c := y) (xs := (l.drop x).take y) (by omega) (fun W' hW => part_C x y (hF W' hW) (by omega) HA2.out)
    rwa [l2] at this
  · have := Kd.V_mk (d := Kd.int .u8) (e := 5) (base := w.heap.size) (A := B3) (c := d4) (xs := l.drop (x + y)) (by omega) (fun W' hW => by rw [e3]; exact part_C (x + y) z (hF W' hW) (by omega) HA3.out)
    rwa [l3] at this
theorem image_Unpack.calls (a b c : Int) (A : Option Addr) (cp : Nat) (l : List Int) (r1 r2 r3 : List Int) (r4 : Int) (w : World) (hG : Laid w) (hr : (Kd.int .u8).C w A l.length l) (hc : l.length ≤ cp) (h : image_Unpack.f a b c l = some (r1, r2, r3, r4)) :
    Calls Tryd.prog 23 #[.agg #[.int .i64 a, .int .i64 b, .int .i64 c], .slice A l.length cp] w fun e w' => ∃ v0 v1 v2 : Value, e = .returned (.tuple #[v0, v1, v2, .int .i64 r4]) ∧ Kd.V (Kd.int .u8) 5 w' w.heap.size (fun k_ => w.heap.size ≤ k_) v0 r1 ∧ Kd.V (Kd.int .u8) 5 w' w.heap.size (fun k_ => w.heap.size ≤ k_) v1 r2 ∧
    Kd.V (Kd.int .u8) 5 w' w.heap.size (fun k_ => w.heap.size ≤ k_) v2 r3 ∧ Below w.heap.size w w' := by
  unfold image_Unpack.f at h
  obtain ⟨t, ht, h⟩ := Option.bind_eq_some_iff.1 h
  split at h
  · rename_i htt
    subst htt
    obtain ⟨n, hn, h⟩ := Option.bind_eq_some_iff.1 h
    split at h
    · rename_i hl
      subst hl
      obtain ⟨⟨s1, s2, s3⟩, hs, h⟩ := Option.bind_eq_some_iff.1 h
      split at h
      · rename_i hb
        simp only at hb h
        obtain ⟨h1, h2, h3, h4, h5⟩ := hb
        obtain ⟨x, rfl⟩ := Int.eq_ofNat_of_zero_le h1
        obtain ⟨y, rfl⟩ := Int.eq_ofNat_of_zero_le h2
        obtain ⟨z, rfl⟩ := Int.eq_ofNat_of_zero_le h3
        simp only [Option.some.injEq, Prod.mk.injEq, Int.toNat_natCast] at h
        obtain ⟨rfl, rfl, rfl, rfl⟩ := h
        exact unpack_good a b c x y z A cp l w hG ht hn hs hr hc (by omega) h5
      · cases h
    · rename_i hl
      simp only [Option.some.injEq, Prod.mk.injEq] at h
      obtain ⟨rfl, rfl, rfl, rfl⟩ := h
      exact unpack_long a b c n A cp l w hG ht hn hl
  · rename_i htt
    have : t = false := by simpa using htt
    subst this
    simp only [Option.some.injEq, Prod.mk.injEq] at h
    obtain ⟨rfl, rfl, rfl, rfl⟩ := h
    exact unpack_bad a b c A cp l w ht
end Go.Proofs.YtmlldfkmmmncgaaDoor.Given
