-- written by a program of mine (xprint_patch.py over the kit's print)
import Derived.Test.YtmlldfkmmmncgaaDoorRows
import Derived.Test.YtmlldfkmmmncgaaDoorAx10
import Derived.Test.YtmlldfkmmmncgaaDoorPureImageBack
import Derived.Test.YtmlldfkmmmncgaaDoorLaid
import Derived.Test.YtmlldfkmmmncgaaDoorTie
import Derived.Test.YtmlldfkmmmncgaaDoorCards
import Derived.SevenTiedAt
import Derived.LaidMore
import Derived.Stop.Joined
import Derived.WalkKit
import Derived.ProofKit
import Derived.OpenShut
import Derived.ShutString
import Derived.ChangeOld
import Derived.Below
import Derived.SizedLaws
import Derived.Test.YtmlldfkmmmncgaaDoorWSized
namespace Go.Proofs.YtmlldfkmmmncgaaDoor.imageBack
open Go.ChangeShapes Go.WideShapes Go.ChangeAt Go.RowKit
open Go.ChangeMaps (open_string shut_string)
set_option linter.unusedSimpArgs false
set_option linter.unusedVariables false
theorem own : ownKnob Tryd.prog.godebug = none := by kernel_rfl
theorem laidOut : laidOutB Tryd.prog = true := by kernel_rfl
def IsRow (k : IntKind) (w : World) (a : Option Addr) (len cap : Nat) (zs : List Int) : Prop :=
  (a = none ∧ len = 0 ∧ cap = 0 ∧ zs = []) ∨
  ∃ x, a = some x ∧ len ≤ cap ∧ cap ≤ maxLen ∧ zs.length = cap ∧ (∀ i, i < zs.length → w.cell? (x.add i) = some (.int k (zs.getD i 0))) ∧ ∀ n ∈ zs, (Lit.int k n).wf = true
set_option maxHeartbeats 2000000 in
set_option maxRecDepth 100000 in
theorem lifted (os : Os) (started : os.Started) (H : Type) (enc : TypeId × Value → H) :
    ReturnsInHanded {} Tryd.checked os 9 .any (fun w args => (Rows.imageBackSpec.pre enc Tryd.prog Tryd.f9 [] false w args ∧ laidMetH Tryd.prog Given.laidRows w) ∧ sizedMet enc Tryd.prog Tryd.f9 (OpenSpec.ofChange Rows.imageBackSpec) false w args) (Rows.imageBackSpec.post enc Tryd.prog Tryd.f9 false true false false) := by
  refine returnsInHanded_of_change_and (C := Tryd.checked) (X := fun w _ => laidMetH Tryd.prog Given.laidRows w) (fun _ _ _ hh h => h.of_heap hh) own started (by kernel_rfl) Tryd.func9
    (ChangeSpec.witness_shaped (enc := enc) (C := Tryd.checked) (os := os) (X := fun w _ => laidMetH Tryd.prog Given.laidRows w) false (World.doorLaid Tryd.prog 25 os) #[.agg #[.int .i64 0, .int .i64 0, .int .i64 0], .slice none 0 0] 8 rfl (World.shaped_of_RefB (by kernel_rfl) (by kernel_rfl)) (by kernel_rfl) (by kernel_rfl) (by kernel_rfl) (Given.door_met os _)) ?_
  intro W base args ds gs before hval0 hW hcnd hsz0 hL _
  have hG := Given.of_laid hL
  have hsz : (DataW.weightsEach Tryd.prog (Tryd.f9.params.toList ++ Rows.imageBackSpec.plain.varTypes Tryd.prog) (ds ++ gs)).all (· ≤ reachBytes) = true := hsz0
  have hval : ∀ (j : Nat) t v, Tryd.f9.params[j]? = some t → args[j]? = some v → Value.okWide Tryd.prog W .any base t v := hval0
  have hW' := hW
  obtain ⟨p, q, hA0, hV, rfl, hfz, hnd⟩ := hW
  have hA : DataW.TrodAll enc Tryd.prog W 0 (fun _ => true) true Tryd.f9.params.toList args.toList ds p := hA0
  rw [Tryd.params9] at hA hval hsz
  obtain ⟨v0, vs0, d0, ds0, p0, q0, hargs, rfl, rfl, h0, r0⟩ := trodAll_cons hA
  obtain ⟨v1, vs1, d1, ds1, p1, q1, rfl, rfl, rfl, h1, r1⟩ := trodAll_cons r0
  obtain ⟨rfl, rfl, rfl⟩ := trodAll_nil r1
  obtain rfl : args = #[v0, v1] := by cases args; simp_all
  obtain ⟨rfl, rfl⟩ := trodVars_none hV
  have k0 := h0
  have lt0 : ∀ x ∈ p0, x.block < W.heap.size := by obtain ⟨m, hm⟩ := k0; exact DataW.trod_lt m _ _ _ hm
  obtain ⟨cs0, rfl, sz0⟩ := okWide_struct Tryd.underlying23 (hval 0 23 v0 rfl rfl)
  obtain ⟨fu0, hf0⟩ := h0
  obtain ⟨xs0, n0, rfl, _, _, ln0, el0⟩ := DataW.trod_struct Tryd.underlying23 hf0
  have e0_0 := el0 0 _ rfl
  rw [List.getElem?_eq_getElem (show 0 < xs0.length by rw [ln0]; decide)] at e0_0
  obtain ⟨a0_0, q0_0, _, w0_0⟩ := DataW.trod_int Tryd.underlying3 e0_0
  have e0_1 := el0 1 _ rfl
  rw [List.getElem?_eq_getElem (show 1 < xs0.length by rw [ln0]; decide)] at e0_1
  obtain ⟨a0_1, q0_1, _, w0_1⟩ := DataW.trod_int Tryd.underlying3 e0_1
  have e0_2 := el0 2 _ rfl
  rw [List.getElem?_eq_getElem (show 2 < xs0.length by rw [ln0]; decide)] at e0_2
  obtain ⟨a0_2, q0_2, _, w0_2⟩ := DataW.trod_int Tryd.underlying3 e0_2
  have cc0_3 : Tryd.prog.cellsOf 3 = 1 := by kernel_rfl
  have cc0_23 : Tryd.prog.cellsOf 23 = 3 := by kernel_rfl
  obtain rfl : cs0 = #[.int .i64 a0_0, .int .i64 a0_1, .int .i64 a0_2] := by
    clear el0 hf0 hval hsz hval0 hsz0 hW' hA hA0
    (try clear hL)
    (try clear hG)
    rw [cc0_23] at sz0
    obtain ⟨l⟩ := cs0
    have hl : l.length = 3 := by simpa using sz0
    clear sz0
    obtain ⟨c0, l, rfl⟩ : ∃ c t, l = c :: t := by cases l with | nil => cases hl | cons c t => exact ⟨c, t, rfl⟩
    obtain ⟨c1, l, rfl⟩ : ∃ c t, l = c :: t := by cases l with | nil => cases hl | cons c t => exact ⟨c, t, rfl⟩
    obtain ⟨c2, l, rfl⟩ : ∃ c t, l = c :: t := by cases l with | nil => cases hl | cons c t => exact ⟨c, t, rfl⟩
    obtain rfl : l = [] := by cases l with | nil => rfl | cons c t => simp at hl
    simp [cc0_3, cc0_23] at q0_0 q0_1 q0_2
    have e0 : c0 = Value.int .i64 a0_0 := (List.cons.inj (show [c0] = [Value.int .i64 a0_0] from q0_0)).1
    have e1 : c1 = Value.int .i64 a0_1 := (List.cons.inj (show [c1] = [Value.int .i64 a0_1] from q0_1)).1
    have e2 : c2 = Value.int .i64 a0_2 := (List.cons.inj (show [c2] = [Value.int .i64 a0_2] from q0_2)).1
    subst e0 e1 e2
    rfl
  obtain ⟨a1, len1, cap1, rfl⟩ := okWide_slice Tryd.underlying25 (hval 1 25 v1 rfl rfl)
  have k1 := h1
  have lt1 : ∀ x ∈ p1, x.block < W.heap.size := by obtain ⟨m, hm⟩ := k1; exact DataW.trod_lt m _ _ _ hm
  obtain ⟨z1, w1⟩ : ∃ zs, IsRow .u8 W a1 len1 cap1 zs := by
    obtain ⟨fuel, hf⟩ := h1
    rcases open_ints Tryd.underlying25 Tryd.underlying5 (by kernel_rfl) hf with ⟨hcs, _⟩ | ⟨x, l, c, zs, hcs, _, hl, hm, hz, _, hcell, hwz⟩
    · simp [Value.cells] at hcs
      obtain ⟨rfl, rfl, rfl⟩ := hcs
      exact ⟨[], .inl ⟨rfl, rfl, rfl, rfl⟩⟩
    · simp [Value.cells] at hcs
      obtain ⟨rfl, rfl, rfl⟩ := hcs
      exact ⟨zs, .inr ⟨_, rfl, hl, hm, by simpa using hz, hcell, hwz⟩⟩
  have y1 : len1 * 1 ≤ 140737488351232 := Go.Proofs.YtmlldfkmmmncgaaDoorW.PrintWords.sized_ints hsz (j := 1) (t := 25) rfl rfl Tryd.underlying25 Tryd.underlying5 (by kernel_rfl) (by kernel_rfl) h1
  clear hA0 hval0 hsz0 hsz
  refine (All.keepsakelaw05_ImageBack.walk Pure.ImageBack a0_0 a0_1 a0_2 a1 len1 cap1 z1 W hG w0_0 w0_1 w0_2 w1 y1).mono fun e W' ⟨he, bel⟩ => ?_
  subst he
  exact ⟨_, rfl, _, _, _, [], _, [], hW', trodAll_mk1 (shut_bool Tryd.underlying4 _), (trodAll_cons_mk (Below.trod laidOut (by kernel_rfl) (of_decide_eq_true (by kernel_rfl)) k0 bel lt0) (trodAll_cons_mk (Below.trod laidOut (by kernel_rfl) (of_decide_eq_true (by kernel_rfl)) k1 bel lt1) trodAll_mk0)), rfl, bel.frame _, fun h => by cases h⟩
theorem over : Rows.imageBackRow.holds Tryd.pinned (OpenSpec.ofChange Rows.imageBackSpec) :=
  OpenClaim.holds_of_wide 9 Tryd.f9 rfl rfl rfl rfl rfl rfl rfl ⟨rfl, rfl, rfl, rfl, rfl⟩ rfl rfl rfl rfl rfl (by kernel_rfl) Tryd.func9 (by kernel_rfl)
    (of_decide_eq_true (by kernel_rfl)) (by unfold Func.isWrapper; first | (rw [if_pos (by decide +kernel)]; kernel_rfl) | (rw [if_neg (by decide +kernel)]; exact ⟨rfl, rfl⟩))
    (fun os started H enc _ => lifted os started H enc)
theorem proved : Rows.ImageBackSaid := over
#print axioms proved
end Go.Proofs.YtmlldfkmmmncgaaDoor.imageBack
namespace Go.Proofs.YtmlldfkmmmncgaaDoor
/-- The row, under a short name, for the claim. -/
theorem imageBack_holds : Rows.ImageBackSaid := imageBack.proved
/-- The tied card. -/
theorem imageBack_card : Rows.ImageBackCardSaid :=
  Claim7.holds_tied_plain_at .later [] [.data] true (true, "e9c7680e5afc3774fe3f9700ac5b428cb39d1eb288a570bb0d670c77b140ea78") false
    imageBack_holds (fun _ h => by cases h) (by kernel_rfl) (fun _ h => by cases h) imageBack_row_tie rfl ⟨rfl, rfl⟩ (by kernel_rfl) rfl
    (fun f fn hf hfn => by
      obtain rfl : f = 9 := Option.some.inj ((show Tryd.prog.funcNamed Rows.imageBackRow.func = some 9 by kernel_rfl).symm.trans hf) |>.symm
      obtain rfl : fn = Tryd.f9 := (Option.some.inj (Tryd.func9.symm.trans hfn)).symm
      exact ⟨by kernel_rfl, fun j t ht => by
        rw [Tryd.params9] at ht
        have hm := Array.mem_of_getElem? ht
        simp only [List.mem_toArray, List.mem_cons, List.not_mem_nil, or_false] at hm
        rcases hm with rfl | rfl
        · exact (show Tryd.prog.wantsStandIn _ = false by kernel_rfl)
        · exact (show Tryd.prog.wantsStandIn _ = false by kernel_rfl)⟩)
    (by kernel_rfl)
#print axioms imageBack_card
end Go.Proofs.YtmlldfkmmmncgaaDoor
