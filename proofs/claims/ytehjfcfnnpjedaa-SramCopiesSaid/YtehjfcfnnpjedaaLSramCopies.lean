/- SramCopies: a copy goes on by itself: for every input. -/
import Derived.Test.YtehjfcfnnpjedaaLSramOpen
set_option linter.unusedVariables false
set_option linter.unusedSimpArgs false
namespace Go.Proofs.Ytehjfcfnnpjedaa.Given
open Go.RowKit Go.Proofs.Ytehjfcfnnpjedaa.All Go.Proofs.Ytehjfcfnnpjedaa.Sep Go.Proofs.YtehjfcfnnpjedaaW.PrintWords Go.Proofs.YtehjfcfnnpjedaaW.PrintLast Go.Proofs.YtehjfcfnnpjedaaW.PrintMore
attribute [local go_sem] max2_int min2_int max_two min_two

set_option maxHeartbeats 1600000 in
theorem sramCopies_main (u : Int) (A1 : Option Addr) (c1 : Nat) (b : List Int) (A2 : Option Addr) (c2 : Nat) (l : List Op) (A3 : Option Addr) (c3 : Nat) (m : List Op) (w : World) (hu : 0 ≤ u ∧ u ≤ 255)
    (hr1 : (Kd.int .u8).C w A1 b.length b) (hc1 : b.length ≤ c1) (hr2 : Kd.C k34 w A2 l.length l) (hr3 : Kd.C k34 w A3 m.length m)
    (hb : b.length ≤ 40) (hl : l.length ≤ 60) (hm : m.length ≤ 60) :
    Calls Try.prog 7 #[.int .u8 u, .slice A1 b.length c1, .slice A2 l.length c2, .slice A3 m.length c3] w fun e w' => e = .returned (.bool true) ∧ Below w.heap.size w w' := by
  have HW := Lib.hid (awake_walk (Held.nil w))
  have HM : Aside0 (∀ w1, Held w w1 [] → Calls Try.prog 10 #[.int .i64 (1 + u % 4), .slice A1 b.length c1] w1 (Got w false (fillOf b (64 * (1 + u % 4))) [])) :=
    ⟨fun w1 h => made_walk A1 c1 (1 + u % 4) b h (Kd.C_below hr1 h.bel) hc1 hb (by omega) (by omega)⟩
  have HR2 := Aside0.mk hr2
  have HR3 := Aside0.mk hr3
  obtain ⟨hu0, hu1⟩ := hu
  generalize fillOf b (64 * (1 + u % 4)) = xs at *
  obtain ⟨⟨o3, x3⟩, hs⟩ : ∃ s, run (false, xs) l = s := ⟨_, rfl⟩
  obtain ⟨⟨o4, x4⟩, hs4⟩ : ∃ s, run (o3, x3) m = s := ⟨_, rfl⟩
  have HS := Aside0.mk hs
  have HS4 := Aside0.mk hs4
  clear hr1 hr2 hr3 hs hs4
  go_enter Try.func7, Try.ntmps7
  go_wp2_with (first
    | (go_at_call 8; (with_reducible refine HW.out.mono ?_); rintro e w1 ⟨rfl, h⟩; have HA := Aside0.mk h; clear h)
    | (go_at_call 10; (with_reducible refine (HM.out _ HA.out).mono ?_); rintro e w2 ⟨g, rfl, h⟩; have HB := Aside0.mk h; clear h)
    | (go_at_call 22; (with_reducible refine (do_walk (s := (false, xs)) A2 c2 l HB.out HR2.out (by omega)).mono ?_); rintro e w3 ⟨rfl, h⟩; rw [HS.out] at h; have HC := Aside0.mk (p := Held w w3 [chip g o3 x3]) h; clear h HB)
    | (go_at_call 23; (with_reducible refine (copy_walk HC.out).mono ?_); rintro e w4 ⟨d, rfl, h⟩; have HD := Aside0.mk h.swap; clear h HC)
    | (go_at_call 23; (with_reducible refine (copy_walk HD.out).mono ?_); rintro e w5 ⟨e2, rfl, h⟩; have HE := Aside0.mk h.swap; clear h HD)
    | (go_at_call 18; (with_reducible refine (bytes_walk HE.out).mono ?_); rintro e w6 ⟨v6, rfl, h⟩; obtain ⟨A6, c6, rfl, hc6, _⟩ := h.row_at; have HF := Aside0.mk h.swap; clear h HE)
    | (go_at_call 12; (with_reducible refine (locked_walk HF.out).mono ?_); rintro e w7 ⟨rfl, rfl⟩; have HG := Aside0.mk (p := Held w w6 [chip d o3 x3, chip g o3 x3, row (Kd.int .u8) 5 (.slice A6 x3.length c6) x3, chip e2 o3 x3]) HF.out.fourth; clear HF)
    | (go_at_call 22; (with_reducible refine (do_walk (s := (o3, x3)) A3 c3 m HG.out HR3.out (by omega)).mono ?_); rintro e w8 ⟨rfl, h⟩; rw [HS4.out] at h; have HH := Aside0.mk (p := Held w w8 [chip e2 o3 x3, chip d o4 x4, chip g o3 x3, row (Kd.int .u8) 5 (.slice A6 x3.length c6) x3]) (Held.fourth (a := chip d o4 x4) h); clear h HG)
    | (go_at_call 22; (with_reducible refine (do_walk (s := (o3, x3)) A3 c3 m HH.out HR3.out (by omega)).mono ?_); rintro e w9 ⟨rfl, h⟩; rw [HS4.out] at h; have HI := Aside0.mk (p := Held w w9 [chip g o3 x3, chip e2 o4 x4, chip d o4 x4, row (Kd.int .u8) 5 (.slice A6 x3.length c6) x3]) (Held.third (a := chip e2 o4 x4) h); clear h HH))
  have hx3 := chip_le HI.out
  have hx4 := chip_le HI.out.swap
  go_region_held3 (fun w' => True) (first | exact True.intro | go_keep) ((first
    | (go_at_call 18; (with_reducible refine (bytes_walk HI.out.drew).mono ?_); rintro e w10 ⟨v10, rfl, h⟩; obtain ⟨A10, c10, rfl, hc10, hr10⟩ := h.row_at; have HR10 := Aside0.mk hr10; have HR6 := Aside0.mk (row_reads (Held.drop (Held.drop (Held.drop (Held.drop h))))); have HJ := Aside0.mk h.swap; clear h HI hr10)
    | (go_at_call 17; (with_reducible refine (same_yes HR10.out hc10 HR6.out.2.2 HR6.out.2.1 hx3).mono ?_); rintro e w11 ⟨rfl, hd⟩; have HK := Aside0.mk (HJ.out.below hd.below); clear hd HR10 HR6 HJ)
    | (go_at_call 12; (with_reducible refine (locked_walk HK.out).mono ?_); rintro e w12 ⟨rfl, rfl⟩; have HL := Aside0.mk (p := Held w w11 [chip d o4 x4, chip e2 o4 x4]) (Held.dropTo (us := [chip d o4 x4, chip e2 o4 x4]) (HK.out.third).fourth); clear HK)
    | (go_at_call 18; (with_reducible refine (bytes_walk HL.out).mono ?_); rintro e w13 ⟨v13, rfl, h⟩; obtain ⟨A13, c13, rfl, hc13, _⟩ := h.row_at; have HN := Aside0.mk h.third; clear h HL)
    | (go_at_call 18; (with_reducible refine (bytes_walk HN.out).mono ?_); rintro e w14 ⟨v14, rfl, h⟩; obtain ⟨A14, c14, rfl, hc14, hr14⟩ := h.row_at; have HR14 := Aside0.mk hr14; have HR13 := Aside0.mk (row_reads h.third); have HP := Aside0.mk h; clear h hr14 HN)
    | (go_at_call 17; (with_reducible refine (same_yes HR13.out.2.2 HR13.out.2.1 HR14.out hc14 hx4).mono ?_); rintro e w15 ⟨rfl, hd⟩; have HQ := Aside0.mk ((HP.out.below hd.below).fourth); have HQe := Aside0.mk ((HP.out.below hd.below).swap); clear hd HR13 HR14 HP)
    | (go_at_call 12; (with_reducible refine (locked_walk HQ.out).mono ?_); rintro e w16 ⟨rfl, rfl⟩)
    | (go_at_call 12; (with_reducible refine (locked_walk HQe.out).mono ?_); rintro e w17 ⟨rfl, rfl⟩)))
  go_wp2
  go_ret
  exact ⟨rfl, HQ.out.bel⟩
theorem sramCopies_early (u : Int) (A1 : Option Addr) (c1 : Nat) (b : List Int) (A2 : Option Addr) (c2 : Nat) (l : List Op) (A3 : Option Addr) (c3 : Nat) (m : List Op) (w : World) (hu : 0 ≤ u ∧ u ≤ 255)
    (h : 40 < b.length ∨ 60 < l.length ∨ 60 < m.length) :
    Calls Try.prog 7 #[.int .u8 u, .slice A1 b.length c1, .slice A2 l.length c2, .slice A3 m.length c3] w fun e w' => e = .returned (.bool true) ∧ Below w.heap.size w w' := by
  have HW := Lib.hid (awake_walk (Held.nil w))
  obtain ⟨hu0, hu1⟩ := hu
  by_cases h1 : 40 < b.length
  · clear h
    go_enter Try.func7, Try.ntmps7
    go_wp2_with (go_at_call 8; (with_reducible refine HW.out.mono ?_); rintro e w1 ⟨rfl, h⟩; have HA := Aside0.mk h; clear h)
    go_ret
    exact ⟨rfl, HA.out.bel⟩
  · by_cases h2 : 60 < l.length
    · clear h
      go_enter Try.func7, Try.ntmps7
      go_wp2_with (go_at_call 8; (with_reducible refine HW.out.mono ?_); rintro e w1 ⟨rfl, h⟩; have HA := Aside0.mk h; clear h)
      go_ret
      exact ⟨rfl, HA.out.bel⟩
    · have h3 : 60 < m.length := by omega
      clear h
      go_enter Try.func7, Try.ntmps7
      go_wp2_with (go_at_call 8; (with_reducible refine HW.out.mono ?_); rintro e w1 ⟨rfl, h⟩; have HA := Aside0.mk h; clear h)
      go_ret
      exact ⟨rfl, HA.out.bel⟩
theorem sramCopies_walk (u : Int) (A1 : Option Addr) (c1 : Nat) (b : List Int) (A2 : Option Addr) (c2 : Nat) (l : List Op) (A3 : Option Addr) (c3 : Nat) (m : List Op) (w : World) (hu : (Lit.int .u8 u).wf = true)
    (hr1 : (Kd.int .u8).C w A1 b.length b) (hc1 : b.length ≤ c1) (hb1 : ∀ x ∈ b, (Lit.int .u8 x).wf = true) (hr2 : Kd.C k34 w A2 l.length l) (hc2 : l.length ≤ c2) (hw2 : ∀ p ∈ l, OpWf p)
    (hr3 : Kd.C k34 w A3 m.length m) (hc3 : m.length ≤ c3) (hw3 : ∀ p ∈ m, OpWf p) :
    Calls Try.prog 7 #[.int .u8 u, .slice A1 b.length c1, .slice A2 l.length c2, .slice A3 m.length c3] w fun e w' => e = .returned (.bool true) ∧ Below w.heap.size w w' := by
  by_cases h : 40 < b.length ∨ 60 < l.length ∨ 60 < m.length
  · exact sramCopies_early u A1 c1 b A2 c2 l A3 c3 m w (u8_bd hu) h
  · exact sramCopies_main u A1 c1 b A2 c2 l A3 c3 m w (u8_bd hu) hr1 hc1 hr2 hr3 (by omega) (by omega) (by omega)
end Go.Proofs.Ytehjfcfnnpjedaa.Given
