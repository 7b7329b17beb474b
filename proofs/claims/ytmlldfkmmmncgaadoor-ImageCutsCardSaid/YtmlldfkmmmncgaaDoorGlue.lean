/- Pieces as bytes: the walk of image.Glue. -/
import Derived.Test.YtmlldfkmmmncgaaDoorJoin
import Derived.Test.YtmlldfkmmmncgaaDoorUnpack
set_option linter.unusedVariables false
set_option linter.unusedSimpArgs false
namespace Go.Proofs.YtmlldfkmmmncgaaDoor.Given
open Go.RowKit Go.Proofs.YtmlldfkmmmncgaaDoor.All Go.Proofs.YtmlldfkmmmncgaaDoorW.PrintWords Go.Proofs.YtmlldfkmmmncgaaDoorW.PrintLast Go.Proofs.YtmlldfkmmmncgaaDoorW.PrintMore

def image_Glue.f (l0 : List (List Int)) (a1 : Int) : Option (List Int × Int) := (bytes_Join.f l0 []).bind fun t => if 0 ≤ a1 ∧ a1 ≤ (t.length : Int) then some (t.take a1.toNat, 0) else some ([], 1)
def Glu (w : World) (r1 : List Int) (r2 : Int) (e : Ending) (w' : World) : Prop :=
  ∃ v : Value, e = .returned (.tuple #[v, .int .i64 r2]) ∧ Kd.V (Kd.int .u8) 5 w' w.heap.size (fun k_ => w.heap.size ≤ k_) v r1 ∧ Below w.heap.size w w'
set_option maxHeartbeats 1600000 in
theorem glue_bad (A : Option Addr) (c : Nat) (ls : List (List Int)) (m : Int) (t : List Int) (w : World) (hr : (Kd.slice 5 (Kd.int .u8)).C w A ls.length ls) (hc : ls.length ≤ c) (ht : bytes_Join.f ls [] = some t) (hm : ¬ (0 ≤ m ∧ m ≤ (t.length : Int))) :
    Calls Tryd.prog 19 #[.slice A ls.length c, .int .i64 m] w (Glu w [] 1) := by
  have hJ : Calls Tryd.prog 34 #[.slice A ls.length c, .slice none 0 0] w fun e w' => ∃ v0_ : Value, e = .returned v0_ ∧ Kd.V (Kd.int .u8) 5 w' w.heap.size (fun k_ => w.heap.size ≤ k_) v0_ t ∧ Below w.heap.size w w' := bytes_Join.calls A c ls none 0 [] t w hr hc (Kd.C_nil _ _) (Nat.le_refl _) ht
  have HJ := Lib.hid hJ
  have HP : Aside0 (∀ W, Below w.heap.size w W → Glu w [] 1 (.returned (.tuple #[.slice none 0 0, .int .i64 1])) W) := ⟨fun W hb => ⟨_, rfl, Kd.V_nil _ _ _ _ _, hb⟩⟩
  clear hJ hr ht
  by_cases h0 : m < 0
  · clear hm
    go_enter Tryd.func19, Tryd.ntmps19
    go_wp2_with (go_at_call 34; (with_reducible refine HJ.out.mono ?_); rintro e w1 ⟨v, rfl, hv, hb⟩; obtain ⟨A1, c1, rfl⟩ := Kd.V_slice hv; have HB := Aside0.mk hb; clear hb hv)
    go_ret2
    exact HP.out _ HB.out
  · have h1 : (t.length : Int) < m := by omega
    clear hm
    go_enter Tryd.func19, Tryd.ntmps19
    go_wp2_with (go_at_call 34; (with_reducible refine HJ.out.mono ?_); rintro e w1 ⟨v, rfl, hv, hb⟩; obtain ⟨A1, c1, rfl⟩ := Kd.V_slice hv; have HB := Aside0.mk hb; clear hb hv)
    go_ret2
    exact HP.out _ HB.out
set_option maxHeartbeats 1600000 in
theorem glue_good (A : Option Addr) (c : Nat) (ls : List (List Int)) (m : Nat) (t : List Int) (w : World) (hr : (Kd.slice 5 (Kd.int .u8)).C w A ls.length ls) (hc : ls.length ≤ c) (ht : bytes_Join.f ls [] = some t) (hm : m ≤ t.length) :
    Calls Tryd.prog 19 #[.slice A ls.length c, .int .i64 m] w (Glu w (t.take m) 0) := by
  have hJ : Calls Tryd.prog 34 #[.slice A ls.length c, .slice none 0 0] w fun e w' => ∃ v0_ : Value, e = .returned v0_ ∧ Kd.V (Kd.int .u8) 5 w' w.heap.size (fun k_ => w.heap.size ≤ k_) v0_ t ∧ Below w.heap.size w w' := bytes_Join.calls A c ls none 0 [] t w hr hc (Kd.C_nil _ _) (Nat.le_refl _) ht
  have HJ := Lib.hid hJ
  have HP : Aside0 (∀ v W, Kd.V (Kd.int .u8) 5 W w.heap.size (fun k_ => w.heap.size ≤ k_) v (t.take m) → Below w.heap.size w W → Glu w (t.take m) 0 (.returned (.tuple #[v, .int .i64 0])) W) := ⟨fun v W hv hb => ⟨_, rfl, hv, hb⟩⟩
  obtain ⟨i, hi, hz⟩ : ∃ i, Tryd.prog.info? 5 = some i ∧ i.size = 1 := infoB2
  have hcut := Lib.hid (fun A1 c1 hc1 => cut_to (P := Tryd.prog) 25 5 .i64 Tryd.underlying25 hi A1 t.length c1 (m : Int) (by omega) (by omega) hc1)
  clear hJ hr ht hi hz
  go_enter Tryd.func19, Tryd.ntmps19
  go_wp2_with (go_at_call 34; (with_reducible refine HJ.out.mono ?_); rintro e w1 ⟨v, rfl, hv, hb⟩; obtain ⟨A1, c1, rfl⟩ := Kd.V_slice hv; obtain ⟨_, hc1, hF⟩ := Kd.V_at hv; have hs := hcut.out A1 c1 hc1; simp only [Int.toNat_natCast] at hs; have HF := Aside0.mk hF; have HB := Aside0.mk hb; clear hb hv hF)
  go_ret2
  refine HP.out _ _ ?_ HB.out
  have l1 : (t.take m).length = m := by rw [List.length_take]; omega
  have := Kd.V_mk (e := 5) (base := w.heap.size) (c := c1) (xs := t.take m) (by omega) (Kd.F_take HF.out hm)
  rwa [l1] at this
theorem image_Glue.calls (A : Option Addr) (c : Nat) (ls : List (List Int)) (m : Int) (r1 : List Int) (r2 : Int) (w : World) (hr : (Kd.slice 5 (Kd.int .u8)).C w A ls.length ls) (hc : ls.length ≤ c) (h : image_Glue.f ls m = some (r1, r2)) :
    Calls Tryd.prog 19 #[.slice A ls.length c, .int .i64 m] w fun e w' => ∃ v : Value, e = .returned (.tuple #[v, .int .i64 r2]) ∧ Kd.V (Kd.int .u8) 5 w' w.heap.size (fun k_ => w.heap.size ≤ k_) v r1 ∧ Below w.heap.size w w' := by
  unfold image_Glue.f at h
  obtain ⟨t, ht, h⟩ := Option.bind_eq_some_iff.1 h
  split at h
  · rename_i hm
    simp only [Option.some.injEq, Prod.mk.injEq] at h
    obtain ⟨rfl, rfl⟩ := h
    obtain ⟨n, rfl⟩ := Int.eq_ofNat_of_zero_le hm.1
    exact glue_good A c ls n t w hr hc ht (by omega)
  · rename_i hm
    simp only [Option.some.injEq, Prod.mk.injEq] at h
    obtain ⟨rfl, rfl⟩ := h
    exact glue_bad A c ls m t w hr hc ht hm
end Go.Proofs.YtmlldfkmmmncgaaDoor.Given
