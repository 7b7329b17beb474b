-- written by a program of mine (xprint_patch.py over the kit's print)
import Derived.Test.YtlinaijndlcfjaaDoorRows
import Derived.Test.YtlinaijndlcfjaaDoorAx13
import Derived.Test.YtlinaijndlcfjaaDoorPureHeadNumbers
import Derived.Test.YtlinaijndlcfjaaDoorLaid
import Derived.Test.YtlinaijndlcfjaaDoorTie
import Derived.Test.YtlinaijndlcfjaaDoorCards
import Derived.SevenTiedAt
import Derived.LaidMore
import Derived.Stop.Joined
import Derived.WalkKit
import Derived.ProofKit
import Derived.OpenShut
import Derived.ShutString
import Derived.ChangeOld
import Derived.Below
import Derived.SizedLaws
import Derived.Test.YtlinaijndlcfjaaDoorWSized
namespace Go.Proofs.YtlinaijndlcfjaaDoor.headNumbers
open Go.ChangeShapes Go.WideShapes Go.ChangeAt Go.RowKit
open Go.ChangeMaps (open_string shut_string)
set_option linter.unusedSimpArgs false
set_option linter.unusedVariables false
theorem own : ownKnob Tryd.prog.godebug = none := by kernel_rfl
theorem laidOut : laidOutB Tryd.prog = true := by kernel_rfl
def IsRow (k : IntKind) (w : World) (a : Option Addr) (len cap : Nat) (zs : List Int) : Prop :=
  (a = none ∧ len = 0 ∧ cap = 0 ∧ zs = []) ∨
  ∃ x, a = some x ∧ len ≤ cap ∧ cap ≤ maxLen ∧ zs.length = cap ∧ (∀ i, i < zs.length → w.cell? (x.add i) = some (.int k (zs.getD i 0))) ∧ ∀ n ∈ zs, (Lit.int k n).wf = true
set_option maxHeartbeats 2000000 in
set_option maxRecDepth 100000 in
theorem lifted (os : Os) (started : os.Started) (H : Type) (enc : TypeId × Value → H) :
    ReturnsInHanded {} Tryd.checked os 8 .any (fun w args => (Rows.headNumbersSpec.pre enc Tryd.prog Tryd.f8 [] false w args ∧ laidMetH Tryd.prog Given.laidRows w) ∧ sizedMet enc Tryd.prog Tryd.f8 (OpenSpec.ofChange Rows.headNumbersSpec) false w args) (Rows.headNumbersSpec.post enc Tryd.prog Tryd.f8 false true false false) := by
  refine returnsInHanded_of_change_and (C := Tryd.checked) (X := fun w _ => laidMetH Tryd.prog Given.laidRows w) (fun _ _ _ hh h => h.of_heap hh) own started (by kernel_rfl) Tryd.func8
    (ChangeSpec.witness_shaped (enc := enc) (C := Tryd.checked) (os := os) (X := fun w _ => laidMetH Tryd.prog Given.laidRows w) false (World.doorLaid Tryd.prog 25 os) #[.agg #[.int .i64 0, .int .i64 0, .int .i64 0, .int .i64 0, .int .u64 0, .int .u32 0], .agg #[.int .i64 0, .int .i64 0, .int .i64 0, .int .i64 0, .int .u64 0, .int .u32 0]] 8 rfl (World.shaped_of_RefB (by kernel_rfl) (by kernel_rfl)) (by kernel_rfl) (by kernel_rfl) (by kernel_rfl) (Given.door_met os _)) ?_
  intro W base args ds gs before hval0 hW hcnd hsz0 hL _
  have hG := Given.of_laid hL
  have hsz : (DataW.weightsEach Tryd.prog (Tryd.f8.params.toList ++ Rows.headNumbersSpec.plain.varTypes Tryd.prog) (ds ++ gs)).all (· ≤ reachBytes) = true := hsz0
  have hval : ∀ (j : Nat) t v, Tryd.f8.params[j]? = some t → args[j]? = some v → Value.okWide Tryd.prog W .any base t v := hval0
  have hW' := hW
  obtain ⟨p, q, hA0, hV, rfl, hfz, hnd⟩ := hW
  have hA : DataW.TrodAll enc Tryd.prog W 0 (fun _ => true) true Tryd.f8.params.toList args.toList ds p := hA0
  rw [Tryd.params8] at hA hval hsz
  obtain ⟨v0, vs0, d0, ds0, p0, q0, hargs, rfl, rfl, h0, r0⟩ := trodAll_cons hA
  obtain ⟨v1, vs1, d1, ds1, p1, q1, rfl, rfl, rfl, h1, r1⟩ := trodAll_cons r0
  obtain ⟨rfl, rfl, rfl⟩ := trodAll_nil r1
  obtain rfl : args = #[v0, v1] := by cases args; simp_all
  obtain ⟨rfl, rfl⟩ := trodVars_none hV
  have k0 := h0
  have lt0 : ∀ x ∈ p0, x.block < W.heap.size := by obtain ⟨m, hm⟩ := k0; exact DataW.trod_lt m _ _ _ hm
  obtain ⟨cs0, rfl, sz0⟩ := okWide_struct Tryd.underlying27 (hval 0 27 v0 rfl rfl)
  obtain ⟨fu0, hf0⟩ := h0
  obtain ⟨xs0, n0, rfl, _, _, ln0, el0⟩ := DataW.trod_struct Tryd.underlying27 hf0
  have e0_0 := el0 0 _ rfl
  rw [List.getElem?_eq_getElem (show 0 < xs0.length by rw [ln0]; decide)] at e0_0
  obtain ⟨xs0_0, n0_0, rfl, _, _, ln0_0, el0_0⟩ := DataW.trod_struct Tryd.underlying23 e0_0
  have e0_0_0 := el0_0 0 _ rfl
  rw [List.getElem?_eq_getElem (show 0 < xs0_0.length by rw [ln0_0]; decide)] at e0_0_0
  obtain ⟨a0_0, q0_0, _, w0_0⟩ := DataW.trod_int Tryd.underlying3 e0_0_0
  have e0_0_1 := el0_0 1 _ rfl
  rw [List.getElem?_eq_getElem (show 1 < xs0_0.length by rw [ln0_0]; decide)] at e0_0_1
  obtain ⟨a0_1, q0_1, _, w0_1⟩ := DataW.trod_int Tryd.underlying3 e0_0_1
  have e0_0_2 := el0_0 2 _ rfl
  rw [List.getElem?_eq_getElem (show 2 < xs0_0.length by rw [ln0_0]; decide)] at e0_0_2
  obtain ⟨a0_2, q0_2, _, w0_2⟩ := DataW.trod_int Tryd.underlying3 e0_0_2
  have e0_1 := el0 1 _ rfl
  rw [List.getElem?_eq_getElem (show 1 < xs0.length by rw [ln0]; decide)] at e0_1
  obtain ⟨a0_3, q0_3, _, w0_3⟩ := DataW.trod_int Tryd.underlying3 e0_1
  have e0_2 := el0 2 _ rfl
  rw [List.getElem?_eq_getElem (show 2 < xs0.length by rw [ln0]; decide)] at e0_2
  obtain ⟨a0_4, q0_4, _, w0_4⟩ := DataW.trod_int Tryd.underlying24 e0_2
  have e0_3 := el0 3 _ rfl
  rw [List.getElem?_eq_getElem (show 3 < xs0.length by rw [ln0]; decide)] at e0_3
  obtain ⟨a0_5, q0_5, _, w0_5⟩ := DataW.trod_int Tryd.underlying25 e0_3
  have cc0_3 : Tryd.prog.cellsOf 3 = 1 := by kernel_rfl
  have cc0_23 : Tryd.prog.cellsOf 23 = 3 := by kernel_rfl
  have cc0_24 : Tryd.prog.cellsOf 24 = 1 := by kernel_rfl
  have cc0_25 : Tryd.prog.cellsOf 25 = 1 := by kernel_rfl
  have cc0_27 : Tryd.prog.cellsOf 27 = 6 := by kernel_rfl
  obtain rfl : cs0 = #[.int .i64 a0_0, .int .i64 a0_1, .int .i64 a0_2, .int .i64 a0_3, .int .u64 a0_4, .int .u32 a0_5] := by
    clear el0 el0_0 hf0 hval hsz hval0 hsz0 hW' hA hA0
    (try clear hL)
    (try clear hG)
    rw [cc0_27] at sz0
    obtain ⟨l⟩ := cs0
    have hl : l.length = 6 := by simpa using sz0
    clear sz0
    obtain ⟨c0, l, rfl⟩ : ∃ c t, l = c :: t := by cases l with | nil => cases hl | cons c t => exact ⟨c, t, rfl⟩
    obtain ⟨c1, l, rfl⟩ : ∃ c t, l = c :: t := by cases l with | nil => cases hl | cons c t => exact ⟨c, t, rfl⟩
    obtain ⟨c2, l, rfl⟩ : ∃ c t, l = c :: t := by cases l with | nil => cases hl | cons c t => exact ⟨c, t, rfl⟩
    obtain ⟨c3, l, rfl⟩ : ∃ c t, l = c :: t := by cases l with | nil => cases hl | cons c t => exact ⟨c, t, rfl⟩
    obtain ⟨c4, l, rfl⟩ : ∃ c t, l = c :: t := by cases l with | nil => cases hl | cons c t => exact ⟨c, t, rfl⟩
    obtain ⟨c5, l, rfl⟩ : ∃ c t, l = c :: t := by cases l with | nil => cases hl | cons c t => exact ⟨c, t, rfl⟩
    obtain rfl : l = [] := by cases l with | nil => rfl | cons c t => simp at hl
    simp [cc0_3, cc0_23, cc0_24, cc0_25, cc0_27] at q0_0 q0_1 q0_2 q0_3 q0_4 q0_5
    have e0 : c0 = Value.int .i64 a0_0 := (List.cons.inj (show [c0] = [Value.int .i64 a0_0] from q0_0)).1
    have e1 : c1 = Value.int .i64 a0_1 := (List.cons.inj (show [c1] = [Value.int .i64 a0_1] from q0_1)).1
    have e2 : c2 = Value.int .i64 a0_2 := (List.cons.inj (show [c2] = [Value.int .i64 a0_2] from q0_2)).1
    have e3 : c3 = Value.int .i64 a0_3 := (List.cons.inj (show [c3] = [Value.int .i64 a0_3] from q0_3)).1
    have e4 : c4 = Value.int .u64 a0_4 := (List.cons.inj (show [c4] = [Value.int .u64 a0_4] from q0_4)).1
    have e5 : c5 = Value.int .u32 a0_5 := (List.cons.inj (show [c5] = [Value.int .u32 a0_5] from q0_5)).1
    subst e0 e1 e2 e3 e4 e5
    rfl
  have k1 := h1
  have lt1 : ∀ x ∈ p1, x.block < W.heap.size := by obtain ⟨m, hm⟩ := k1; exact DataW.trod_lt m _ _ _ hm
  obtain ⟨cs1, rfl, sz1⟩ := okWide_struct Tryd.underlying27 (hval 1 27 v1 rfl rfl)
  obtain ⟨fu1, hf1⟩ := h1
  obtain ⟨xs1, n1, rfl, _, _, ln1, el1⟩ := DataW.trod_struct Tryd.underlying27 hf1
  have e1_0 := el1 0 _ rfl
  rw [List.getElem?_eq_getElem (show 0 < xs1.length by rw [ln1]; decide)] at e1_0
  obtain ⟨xs1_0, n1_0, rfl, _, _, ln1_0, el1_0⟩ := DataW.trod_struct Tryd.underlying23 e1_0
  have e1_0_0 := el1_0 0 _ rfl
  rw [List.getElem?_eq_getElem (show 0 < xs1_0.length by rw [ln1_0]; decide)] at e1_0_0
  obtain ⟨a1_0, q1_0, _, w1_0⟩ := DataW.trod_int Tryd.underlying3 e1_0_0
  have e1_0_1 := el1_0 1 _ rfl
  rw [List.getElem?_eq_getElem (show 1 < xs1_0.length by rw [ln1_0]; decide)] at e1_0_1
  obtain ⟨a1_1, q1_1, _, w1_1⟩ := DataW.trod_int Tryd.underlying3 e1_0_1
  have e1_0_2 := el1_0 2 _ rfl
  rw [List.getElem?_eq_getElem (show 2 < xs1_0.length by rw [ln1_0]; decide)] at e1_0_2
  obtain ⟨a1_2, q1_2, _, w1_2⟩ := DataW.trod_int Tryd.underlying3 e1_0_2
  have e1_1 := el1 1 _ rfl
  rw [List.getElem?_eq_getElem (show 1 < xs1.length by rw [ln1]; decide)] at e1_1
  obtain ⟨a1_3, q1_3, _, w1_3⟩ := DataW.trod_int Tryd.underlying3 e1_1
  have e1_2 := el1 2 _ rfl
  rw [List.getElem?_eq_getElem (show 2 < xs1.length by rw [ln1]; decide)] at e1_2
  obtain ⟨a1_4, q1_4, _, w1_4⟩ := DataW.trod_int Tryd.underlying24 e1_2
  have e1_3 := el1 3 _ rfl
  rw [List.getElem?_eq_getElem (show 3 < xs1.length by rw [ln1]; decide)] at e1_3
  obtain ⟨a1_5, q1_5, _, w1_5⟩ := DataW.trod_int Tryd.underlying25 e1_3
  have cc1_3 : Tryd.prog.cellsOf 3 = 1 := by kernel_rfl
  have cc1_23 : Tryd.prog.cellsOf 23 = 3 := by kernel_rfl
  have cc1_24 : Tryd.prog.cellsOf 24 = 1 := by kernel_rfl
  have cc1_25 : Tryd.prog.cellsOf 25 = 1 := by kernel_rfl
  have cc1_27 : Tryd.prog.cellsOf 27 = 6 := by kernel_rfl
  obtain rfl : cs1 = #[.int .i64 a1_0, .int .i64 a1_1, .int .i64 a1_2, .int .i64 a1_3, .int .u64 a1_4, .int .u32 a1_5] := by
    clear el1 el1_0 hf1 hval hsz hval0 hsz0 hW' hA hA0
    (try clear hL)
    (try clear hG)
    rw [cc1_27] at sz1
    obtain ⟨l⟩ := cs1
    have hl : l.length = 6 := by simpa using sz1
    clear sz1
    obtain ⟨c0, l, rfl⟩ : ∃ c t, l = c :: t := by cases l with | nil => cases hl | cons c t => exact ⟨c, t, rfl⟩
    obtain ⟨c1, l, rfl⟩ : ∃ c t, l = c :: t := by cases l with | nil => cases hl | cons c t => exact ⟨c, t, rfl⟩
    obtain ⟨c2, l, rfl⟩ : ∃ c t, l = c :: t := by cases l with | nil => cases hl | cons c t => exact ⟨c, t, rfl⟩
    obtain ⟨c3, l, rfl⟩ : ∃ c t, l = c :: t := by cases l with | nil => cases hl | cons c t => exact ⟨c, t, rfl⟩
    obtain ⟨c4, l, rfl⟩ : ∃ c t, l = c :: t := by cases l with | nil => cases hl | cons c t => exact ⟨c, t, rfl⟩
    obtain ⟨c5, l, rfl⟩ : ∃ c t, l = c :: t := by cases l with | nil => cases hl | cons c t => exact ⟨c, t, rfl⟩
    obtain rfl : l = [] := by cases l with | nil => rfl | cons c t => simp at hl
    simp [cc1_3, cc1_23, cc1_24, cc1_25, cc1_27] at q1_0 q1_1 q1_2 q1_3 q1_4 q1_5
    have e0 : c0 = Value.int .i64 a1_0 := (List.cons.inj (show [c0] = [Value.int .i64 a1_0] from q1_0)).1
    have e1 : c1 = Value.int .i64 a1_1 := (List.cons.inj (show [c1] = [Value.int .i64 a1_1] from q1_1)).1
    have e2 : c2 = Value.int .i64 a1_2 := (List.cons.inj (show [c2] = [Value.int .i64 a1_2] from q1_2)).1
    have e3 : c3 = Value.int .i64 a1_3 := (List.cons.inj (show [c3] = [Value.int .i64 a1_3] from q1_3)).1
    have e4 : c4 = Value.int .u64 a1_4 := (List.cons.inj (show [c4] = [Value.int .u64 a1_4] from q1_4)).1
    have e5 : c5 = Value.int .u32 a1_5 := (List.cons.inj (show [c5] = [Value.int .u32 a1_5] from q1_5)).1
    subst e0 e1 e2 e3 e4 e5
    rfl
  clear hA0 hval0 hsz0 hsz
  refine (All.keepsakelaw04_HeadNumbers.walk Pure.HeadNumbers a0_0 a0_1 a0_2 a0_3 a0_4 a0_5 a1_0 a1_1 a1_2 a1_3 a1_4 a1_5 W hG w0_0 w0_1 w0_2 w0_3 w0_4 w0_5 w1_0 w1_1 w1_2 w1_3 w1_4 w1_5).mono fun e W' ⟨he, bel⟩ => ?_
  subst he
  exact ⟨_, rfl, _, _, _, [], _, [], hW', trodAll_mk1 (shut_bool Tryd.underlying4 _), (trodAll_cons_mk (Below.trod laidOut (by kernel_rfl) (of_decide_eq_true (by kernel_rfl)) k0 bel lt0) (trodAll_cons_mk (Below.trod laidOut (by kernel_rfl) (of_decide_eq_true (by kernel_rfl)) k1 bel lt1) trodAll_mk0)), rfl, bel.frame _, fun h => by cases h⟩
theorem over : Rows.headNumbersRow.holds Tryd.pinned (OpenSpec.ofChange Rows.headNumbersSpec) :=
  OpenClaim.holds_of_wide 8 Tryd.f8 rfl rfl rfl rfl rfl rfl rfl ⟨rfl, rfl, rfl, rfl, rfl⟩ rfl rfl rfl rfl rfl (by kernel_rfl) Tryd.func8 (by kernel_rfl)
    (of_decide_eq_true (by kernel_rfl)) (by unfold Func.isWrapper; first | (rw [if_pos (by decide +kernel)]; kernel_rfl) | (rw [if_neg (by decide +kernel)]; exact ⟨rfl, rfl⟩))
    (fun os started H enc _ => lifted os started H enc)
theorem proved : Rows.HeadNumbersSaid := over
#print axioms proved
end Go.Proofs.YtlinaijndlcfjaaDoor.headNumbers
namespace Go.Proofs.YtlinaijndlcfjaaDoor
/-- The row, under a short name, for the claim. -/
theorem headNumbers_holds : Rows.HeadNumbersSaid := headNumbers.proved
/-- The tied card. -/
theorem headNumbers_card : Rows.HeadNumbersCardSaid :=
  Claim7.holds_tied_plain_at .later [] [.data] true (true, "9f42d76ac9ef51c6025c58f8e64c1d01156693b83e31ca99bd731739de3d05c7") false
    headNumbers_holds (fun _ h => by cases h) (by kernel_rfl) (fun _ h => by cases h) headNumbers_row_tie rfl ⟨rfl, rfl⟩ (by kernel_rfl) rfl
    (fun f fn hf hfn => by
      obtain rfl : f = 8 := Option.some.inj ((show Tryd.prog.funcNamed Rows.headNumbersRow.func = some 8 by kernel_rfl).symm.trans hf) |>.symm
      obtain rfl : fn = Tryd.f8 := (Option.some.inj (Tryd.func8.symm.trans hfn)).symm
      exact ⟨by kernel_rfl, fun j t ht => by
        rw [Tryd.params8] at ht
        have hm := Array.mem_of_getElem? ht
        simp only [List.mem_toArray, List.mem_cons, List.not_mem_nil, or_false] at hm
        rcases hm with rfl | rfl
        · exact (show Tryd.prog.wantsStandIn _ = false by kernel_rfl)
        · exact (show Tryd.prog.wantsStandIn _ = false by kernel_rfl)⟩)
    (by kernel_rfl)
#print axioms headNumbers_card
end Go.Proofs.YtlinaijndlcfjaaDoor
