-- written by a program of mine (xprint_patch.py over the kit's print)
import Derived.Test.YtogmbgmepkhnaaaAx0
import Derived.Test.YtogmbgmepkhnaaaAx1
import Derived.Test.YtogmbgmepkhnaaaAx2
import Derived.Test.YtogmbgmepkhnaaaAx3
import Derived.Test.YtogmbgmepkhnaaaAx4
import Derived.Test.YtogmbgmepkhnaaaAx7
namespace Go.Proofs.Ytogmbgmepkhnaaa.All
open Go.RowKit Go.Proofs.YtogmbgmepkhnaaaW.PrintWords Go.Proofs.YtogmbgmepkhnaaaW.PrintLast Go.Proofs.YtogmbgmepkhnaaaW.PrintMore
attribute [local go_sem] max2_int min2_int max_two min_two max_three min_three max_four min_four   -- for this text's walks alone
set_option linter.unusedVariables false
set_option linter.unusedSimpArgs false

attribute [local go_sem high] eqA34
/-! ### keepsakelaw20_BankSees: function 5 -/
def keepsakelaw20_BankSees.f (k : Nat) (a0 : Int) (a1 : Int) (a2 : Int) (a3 : Int) (a4 : Int) : Option (Bool) := (keepsakelaw20_awake.f k).bind fun t179 => ((keepsakelaw20_cart.f a0 a1 a2 a3).bind fun bt180 => ((bank_Long.f bt180.1 bt180.2.1 bt180.2.2.1 bt180.2.2.2.1 bt180.2.2.2.2.1 bt180.2.2.2.2.2).bind fun t189 => (if t189 < 1 then (some false) else (if t189 = 0 then (none) else (if bt180.2.1 = 0 then (none) else (if (wrap64 (Int.tdiv t189 bt180.2.1)) = 0 then (none) else ((bank_Where.f k bt180.1 bt180.2.1 bt180.2.2.1 bt180.2.2.2.1 bt180.2.2.2.2.1 bt180.2.2.2.2.2 ((wrap64 (Int.tdiv (Int.tmod (wrap64 (a4)) t189) (wrap64 (Int.tdiv t189 bt180.2.1)))) % 256) 0 (IntKind.u16.wrap (wrap64 (32768 + (Int.tmod (Int.tmod (wrap64 (a4)) t189) (wrap64 (Int.tdiv t189 bt180.2.1))))))).bind fun bt190 => (if t179 = true then (some (bt190.1 == 5 && (bt190.2 == (Int.tmod (wrap64 (a4)) t189)))) else (some false)))))))))
theorem keepsakelaw20_BankSees.mono : ∀ a0 a1 a2 a3 a4 k, LeO (keepsakelaw20_BankSees.f k a0 a1 a2 a3 a4) (keepsakelaw20_BankSees.f (k + 1) a0 a1 a2 a3 a4) := by
  intro a0 a1 a2 a3 a4 k
  unfold keepsakelaw20_BankSees.f
  repeat' first
      | (with_reducible exact bank_Where.mono _ _ _ _ _ _ _ _ _ _)
      | (with_reducible exact keepsakelaw20_awake.mono _)
      | (with_reducible exact LeO.refl _)
      | (with_reducible exact LeO.none _)
      | (with_reducible refine LeO.ite ?_ ?_)
      | (with_reducible refine LeO.bind ?_ (fun _ => ?_))
      | exact bank_Where.mono _ _ _ _ _ _ _ _ _ _
      | exact keepsakelaw20_awake.mono _
      | exact LeO.none _
      | refine LeO.ite ?_ ?_
      | refine LeO.bind ?_ (fun _ => ?_)
def keepsakelaw20_BankSees.T8 : Bool × List (List Nat × List Nat) := (true, [([], []), ([], []), ([], []), ([1, 2], [1, 2]), ([3], [3]), ([4], [4]), ([], []), ([], []), ([6, 7], [6, 7]), ([8], [8]), ([9], [9]), ([0, 5, 10], [0, 5, 10]), ([], []), ([12, 11, 11, 0, 1, 2, 3, 4, 5, 6, 7, 8, 9, 10, 11, 12], [11, 12])])
def keepsakelaw20_BankSees.B8 : List Nat := [0, 0, 0, 6, 14, 30, 0, 0, 192, 448, 960, 2047, 0, 8191]
theorem keepsakelaw20_BankSees.tab8 : rtab .any (opsOf Try.f5 8) = keepsakelaw20_BankSees.T8 := by kernel_rfl
theorem keepsakelaw20_BankSees.bits8 : waitsOk keepsakelaw20_BankSees.T8.2 keepsakelaw20_BankSees.B8 = true := by kernel_rfl
set_option maxHeartbeats 8000000 in
set_option maxRecDepth 100000 in
theorem keepsakelaw20_BankSees.calls (k : Nat) (a0 : Int) (a1 : Int) (a2 : Int) (a3 : Int) (a4 : Int) (r : Bool) (w : World) (h : keepsakelaw20_BankSees.f k a0 a1 a2 a3 a4 = some r) :
    Calls Try.prog 5 #[.int .u8 a0, .int .u8 a1, .int .u8 a2, .int .u8 a3, .int .u32 a4] w fun e w' => e = .returned (.bool r) ∧ Below w.heap.size w w' := by
  have hu30 := Try.underlying30
  have hu25 := Try.underlying25
  have hu34 := Try.underlying34
  have HB := Aside0.mk (Below.refl w.heap.size w)
  have H : ((keepsakelaw20_awake.f k).bind fun t179 => ((keepsakelaw20_cart.f a0 a1 a2 a3).bind fun bt180 => ((bank_Long.f bt180.1 bt180.2.1 bt180.2.2.1 bt180.2.2.2.1 bt180.2.2.2.2.1 bt180.2.2.2.2.2).bind fun t189 => (if t189 < 1 then (some false) else (if t189 = 0 then (none) else (if bt180.2.1 = 0 then (none) else (if (wrap64 (Int.tdiv t189 bt180.2.1)) = 0 then (none) else ((bank_Where.f k bt180.1 bt180.2.1 bt180.2.2.1 bt180.2.2.2.1 bt180.2.2.2.2.1 bt180.2.2.2.2.2 ((wrap64 (Int.tdiv (Int.tmod (wrap64 (a4)) t189) (wrap64 (Int.tdiv t189 bt180.2.1)))) % 256) 0 (IntKind.u16.wrap (wrap64 (32768 + (Int.tmod (Int.tmod (wrap64 (a4)) t189) (wrap64 (Int.tdiv t189 bt180.2.1))))))).bind fun bt190 => (if t179 = true then (some (bt190.1 == 5 && (bt190.2 == (Int.tmod (wrap64 (a4)) t189)))) else (some false)))))))))) = some r := h
  clear h
  replace H := Option.bind_eq_some_iff.mp H
  obtain ⟨t179, A60, H⟩ := H
  replace H : ((keepsakelaw20_cart.f a0 a1 a2 a3).bind fun bt180 => ((bank_Long.f bt180.1 bt180.2.1 bt180.2.2.1 bt180.2.2.2.1 bt180.2.2.2.2.1 bt180.2.2.2.2.2).bind fun t189 => (if t189 < 1 then (some false) else (if t189 = 0 then (none) else (if bt180.2.1 = 0 then (none) else (if (wrap64 (Int.tdiv t189 bt180.2.1)) = 0 then (none) else ((bank_Where.f k bt180.1 bt180.2.1 bt180.2.2.1 bt180.2.2.2.1 bt180.2.2.2.2.1 bt180.2.2.2.2.2 ((wrap64 (Int.tdiv (Int.tmod (wrap64 (a4)) t189) (wrap64 (Int.tdiv t189 bt180.2.1)))) % 256) 0 (IntKind.u16.wrap (wrap64 (32768 + (Int.tmod (Int.tmod (wrap64 (a4)) t189) (wrap64 (Int.tdiv t189 bt180.2.1))))))).bind fun bt190 => (if t179 = true then (some (bt190.1 == 5 && (bt190.2 == (Int.tmod (wrap64 (a4)) t189)))) else (some false))))))))) = some r := H
  have A6 := Aside0.mk A60
  clear A60
  replace H := Option.bind_eq_some_iff.mp H
  obtain ⟨⟨t180, t181, t182, t183, t184, t185⟩, A70, H⟩ := H
  replace H : ((bank_Long.f t180 t181 t182 t183 t184 t185).bind fun t189 => (if t189 < 1 then (some false) else (if t189 = 0 then (none) else (if t181 = 0 then (none) else (if (wrap64 (Int.tdiv t189 t181)) = 0 then (none) else ((bank_Where.f k t180 t181 t182 t183 t184 t185 ((wrap64 (Int.tdiv (Int.tmod (wrap64 (a4)) t189) (wrap64 (Int.tdiv t189 t181)))) % 256) 0 (IntKind.u16.wrap (wrap64 (32768 + (Int.tmod (Int.tmod (wrap64 (a4)) t189) (wrap64 (Int.tdiv t189 t181))))))).bind fun bt190 => (if t179 = true then (some (bt190.1 == 5 && (bt190.2 == (Int.tmod (wrap64 (a4)) t189)))) else (some false)))))))) = some r := H
  have A7 := Aside0.mk A70
  clear A70
  replace H := Option.bind_eq_some_iff.mp H
  obtain ⟨t189, A80, H⟩ := H
  replace H : (if t189 < 1 then (some false) else (if t189 = 0 then (none) else (if t181 = 0 then (none) else (if (wrap64 (Int.tdiv t189 t181)) = 0 then (none) else ((bank_Where.f k t180 t181 t182 t183 t184 t185 ((wrap64 (Int.tdiv (Int.tmod (wrap64 (a4)) t189) (wrap64 (Int.tdiv t189 t181)))) % 256) 0 (IntKind.u16.wrap (wrap64 (32768 + (Int.tmod (Int.tmod (wrap64 (a4)) t189) (wrap64 (Int.tdiv t189 t181))))))).bind fun bt190 => (if t179 = true then (some (bt190.1 == 5 && (bt190.2 == (Int.tmod (wrap64 (a4)) t189)))) else (some false))))))) = some r := H
  have A8 := Aside0.mk A80
  clear A80
  by_cases c9 : t189 < 1
  · rw [if_pos c9] at H
    have c9b0 : decide (t189 < 1) = true := decide_eq_true c9
    clear c9
    obtain rfl := Option.some.inj H
    go_enter Try.func5, Try.ntmps5
    go_wp2_with (first | ((with_reducible refine gate_callee (f := 8) rfl ?_); refine goesL_ (some 17) rfl rfl Try.func8 (by kernel_rfl) rfl #[] rfl (by (try simp only [List.map_toArray, List.map_cons, List.map_nil]); first | done | rfl | (simp only [List.length_drop, List.length_take]; rfl)) ?_; (with_reducible refine (keepsakelaw20_awake.calls k  t179 _ A6.out).mono ?_); rintro e w10 ⟨rfl, hb⟩; refine ⟨_, rfl, ?_⟩; have n0_ := Aside0.mk (below_step (by repeat (first | (with_reducible first | exact HB.out | apply below_alloc | apply pw_below_drewN | apply below_drew1) | exact HB.out)) hb); clear HB; have HB := n0_; clear n0_; (try clear hb); (try clear hb2); (try clear hk); (try clear hi)) | ((with_reducible refine gate_callee (f := 15) rfl ?_); refine goesL_ (some 22) rfl rfl Try.func15 (by kernel_rfl) rfl #[.int .u8 a0, .int .u8 a1, .int .u8 a2, .int .u8 a3] rfl (by (try simp only [List.map_toArray, List.map_cons, List.map_nil]); first | done | rfl | (simp only [List.length_drop, List.length_take]; rfl)) ?_; (with_reducible refine (keepsakelaw20_cart.calls a0 a1 a2 a3 t180 t181 t182 t183 t184 t185 _ A7.out).mono ?_); rintro e w11 ⟨v186, rfl, ho0, hb⟩; refine ⟨_, rfl, ?_⟩; have n0_ := Aside0.mk (Kd.R_lower ho0 (below_size (by repeat (first | (with_reducible first | exact HB.out | apply below_alloc | apply pw_below_drewN | apply below_drew1) | exact HB.out)))); have n1_ := Aside0.mk (below_step (by repeat (first | (with_reducible first | exact HB.out | apply below_alloc | apply pw_below_drewN | apply below_drew1) | exact HB.out)) hb); clear HB; have HO187 := n0_; have HB := n1_; clear n0_ n1_; (try clear hb); (try clear hb2); (try clear hk); (try clear hi); (try clear ho0)) | ((with_reducible refine gate_dst (N := 12) rfl ?_); refine box_event ?hg (N := 12) ?hd (cs := #[.int .i64 0, .int .i64 0, .int .i64 0, .int .i64 0, .int .i64 0, .slice none 0 0]) (t := 30) ?hr ?_; (case hd => rfl); (case hg => rfl); (case hr => first | (go_simp; done) | (go_simp; rfl)); intro gb188 hg w12 hbox hb; have n0_ := Aside0.mk (Kd.R_below (by (with_reducible repeat (first | apply Kd.R_alloc | apply Kd.R_drewN | apply Kd.R_drew)); exact HO187.out) hb); have n1_ := Aside0.mk (below_step (by repeat (first | (with_reducible first | exact HB.out | apply below_alloc | apply pw_below_drewN | apply below_drew1) | exact HB.out)) hb); have n2_ := Aside0.mk (hbox); have n3_ := Aside0.mk ((by rw [hg]; exact (below_size (by repeat (first | (with_reducible first | exact HB.out | apply below_alloc | apply pw_below_drewN | apply below_drew1) | exact HB.out))) : w.heap.size ≤ gb188)); have n4_ := Aside0.mk ((by rw [hg]; exact (below_size (by repeat (first | (with_reducible first | exact HB.out | apply below_alloc | apply pw_below_drewN | apply below_drew1) | exact HB.out))) : w.heap.size ≤ gb188)); clear HO187; clear HB; have HO187 := n0_; have HB := n1_; have BK188 := n2_; have GW188 := n3_; have GE188 := n4_; clear n0_ n1_ n2_ n3_ n4_; clear hb hbox hg; have hcz13_0 : w12.cell? ⟨gb188, 0, none⟩ = some (.int .i64 0) := (blk_cell BK188.out 0).trans rfl; have hcz13_1 : w12.cell? ⟨gb188, 1, none⟩ = some (.int .i64 0) := (blk_cell BK188.out 1).trans rfl; have hcz13_2 : w12.cell? ⟨gb188, 2, none⟩ = some (.int .i64 0) := (blk_cell BK188.out 2).trans rfl; have hcz13_3 : w12.cell? ⟨gb188, 3, none⟩ = some (.int .i64 0) := (blk_cell BK188.out 3).trans rfl; have hcz13_4 : w12.cell? ⟨gb188, 4, none⟩ = some (.int .i64 0) := (blk_cell BK188.out 4).trans rfl; have hcz13_5 : w12.cell? ⟨gb188, 5, none⟩ = some (.slice none 0 0) := (blk_cell BK188.out 5).trans rfl; have hfz13_0 := blk_frozen BK188.out 0; have hfz13_1 := blk_frozen BK188.out 1; have hfz13_2 := blk_frozen BK188.out 2; have hfz13_3 := blk_frozen BK188.out 3; have hfz13_4 := blk_frozen BK188.out 4; have hfz13_5 := blk_frozen BK188.out 5; obtain ⟨Ao14, co14, eo14⟩ := Kd.R_slice HO187.out; subst eo14) | ((with_reducible refine gate_callee (f := 11) rfl ?_); refine goesL_ (some 24) rfl rfl Try.func11 (by kernel_rfl) rfl #[.agg #[.int .i64 t180, .int .i64 t181, .int .i64 t182, .int .i64 t183, .int .i64 t184, .slice Ao14 t185.length co14]] rfl (by (try simp only [List.map_toArray, List.map_cons, List.map_nil]); first | done | rfl | (simp only [List.length_drop, List.length_take]; rfl)) ?_; (with_reducible refine (bank_Long.calls t180 t181 t182 t183 t184 _ _ t185 t189 _ ?side1 ?side2 A8.out).mono ?_); (case side1 => refine (Kd.R_reads' (e := 5) (base := w.heap.size) (ok := fun k_ => True) (n := t185.length) (c := co14) ?_).2.2; exact (by (with_reducible repeat (first | apply Kd.R_alloc | apply Kd.R_drewN | apply Kd.R_drew)); exact (Kd.R_mono (Kd.R_far (p := ⟨gb188, 5, none⟩) (Kd.R_far (p := ⟨gb188, 4, none⟩) (Kd.R_far (p := ⟨gb188, 3, none⟩) (Kd.R_far (p := ⟨gb188, 2, none⟩) (Kd.R_far (p := ⟨gb188, 1, none⟩) (Kd.R_far (p := ⟨gb188, 0, none⟩) (Kd.R_types HO187.out BK188.out (by decide)) (fun _ hk => hk.2) (.int .i64 t180)) (fun _ hk => hk.2) (.int .i64 t181)) (fun _ hk => hk.2) (.int .i64 t182)) (fun _ hk => hk.2) (.int .i64 t183)) (fun _ hk => hk.2) (.int .i64 t184)) (fun _ hk => hk.2) (.slice Ao14 t185.length co14)) (fun _ h_ => h_.1)))); (case side2 => exact (Kd.R_reads' HO187.out).2.1); rintro e w15 ⟨rfl, hb⟩; refine ⟨_, rfl, ?_⟩; have n0_ := Aside0.mk (Kd.R_below (by (with_reducible repeat (first | apply Kd.R_alloc | apply Kd.R_drewN | apply Kd.R_drew)); exact (Kd.R_mono (Kd.R_far (p := ⟨gb188, 5, none⟩) (Kd.R_far (p := ⟨gb188, 4, none⟩) (Kd.R_far (p := ⟨gb188, 3, none⟩) (Kd.R_far (p := ⟨gb188, 2, none⟩) (Kd.R_far (p := ⟨gb188, 1, none⟩) (Kd.R_far (p := ⟨gb188, 0, none⟩) (Kd.R_types HO187.out BK188.out (by decide)) (fun _ hk => hk.2) (.int .i64 t180)) (fun _ hk => hk.2) (.int .i64 t181)) (fun _ hk => hk.2) (.int .i64 t182)) (fun _ hk => hk.2) (.int .i64 t183)) (fun _ hk => hk.2) (.int .i64 t184)) (fun _ hk => hk.2) (.slice Ao14 t185.length co14)) (fun _ h_ => h_.1))) hb); have n1_ := Aside0.mk (blk_below (g := gb188) (o := .cells #[.int .i64 t180, .int .i64 t181, .int .i64 t182, .int .i64 t183, .int .i64 t184, .slice Ao14 t185.length co14] 30 (0, 0)) (by (with_reducible repeat (first | refine blk_drewN ?_ _ | refine blk_drew ?_ | refine blk_alloc ?_ _)); refine blk_put (cs := #[.int .i64 t180, .int .i64 t181, .int .i64 t182, .int .i64 t183, .int .i64 t184, .slice none 0 0]) ?_ 5 _ rfl; (with_reducible repeat (first | refine blk_drewN ?_ _ | refine blk_drew ?_ | refine blk_alloc ?_ _)); refine blk_put (cs := #[.int .i64 t180, .int .i64 t181, .int .i64 t182, .int .i64 t183, .int .i64 0, .slice none 0 0]) ?_ 4 _ rfl; (with_reducible repeat (first | refine blk_drewN ?_ _ | refine blk_drew ?_ | refine blk_alloc ?_ _)); refine blk_put (cs := #[.int .i64 t180, .int .i64 t181, .int .i64 t182, .int .i64 0, .int .i64 0, .slice none 0 0]) ?_ 3 _ rfl; (with_reducible repeat (first | refine blk_drewN ?_ _ | refine blk_drew ?_ | refine blk_alloc ?_ _)); refine blk_put (cs := #[.int .i64 t180, .int .i64 t181, .int .i64 0, .int .i64 0, .int .i64 0, .slice none 0 0]) ?_ 2 _ rfl; (with_reducible repeat (first | refine blk_drewN ?_ _ | refine blk_drew ?_ | refine blk_alloc ?_ _)); refine blk_put (cs := #[.int .i64 t180, .int .i64 0, .int .i64 0, .int .i64 0, .int .i64 0, .slice none 0 0]) ?_ 1 _ rfl; (with_reducible repeat (first | refine blk_drewN ?_ _ | refine blk_drew ?_ | refine blk_alloc ?_ _)); refine blk_put (cs := #[.int .i64 0, .int .i64 0, .int .i64 0, .int .i64 0, .int .i64 0, .slice none 0 0]) ?_ 0 _ rfl; (with_reducible repeat (first | refine blk_drewN ?_ _ | refine blk_drew ?_ | refine blk_alloc ?_ _)); exact BK188.out) hb); have n2_ := Aside0.mk (below_step (by repeat (first | (with_reducible first | exact HB.out | apply below_alloc | apply pw_below_drewN | apply below_drew1 | refine below_set ?_ GE188.out) | exact HB.out)) hb); clear HO187; clear BK188; clear HB; have HO187 := n0_; have BK188 := n1_; have HB := n2_; clear n0_ n1_ n2_; (try clear hb); (try clear hb2); (try clear hk); (try clear hi)))
    go_ret
    exact ⟨by first | rfl | (simp [errW_none, errW_some] <;> rfl) | (simp [*, errW_none, errW_some] <;> rfl), by repeat (first | (with_reducible first | exact HB.out | apply below_alloc | apply pw_below_drewN | apply below_drew1 | refine below_set ?_ GE188.out) | exact HB.out)⟩
  · rw [if_neg c9] at H
    have c9b0 : decide (t189 < 1) = false := decide_eq_false c9
    clear c9
    by_cases c16 : t189 = 0
    · rw [if_pos c16] at H
      exact absurd H (by simp)
    · rw [if_neg c16] at H
      have c16b0 : (t189 == 0) = false := beq_eq_false_iff_ne.mpr c16
      have c16b1 : (t189 != 0) = true := bne_iff_ne.mpr c16
      by_cases c17 : t181 = 0
      · rw [if_pos c17] at H
        exact absurd H (by simp)
      · rw [if_neg c17] at H
        have c17b0 : (t181 == 0) = false := beq_eq_false_iff_ne.mpr c17
        have c17b1 : (t181 != 0) = true := bne_iff_ne.mpr c17
        by_cases c18 : (wrap64 (Int.tdiv t189 t181)) = 0
        · rw [if_pos c18] at H
          exact absurd H (by simp)
        · rw [if_neg c18] at H
          have c18b0 : ((wrap64 (Int.tdiv t189 t181)) == 0) = false := beq_eq_false_iff_ne.mpr c18
          have c18b1 : ((wrap64 (Int.tdiv t189 t181)) != 0) = true := bne_iff_ne.mpr c18
          replace H := Option.bind_eq_some_iff.mp H
          obtain ⟨⟨t190, t191⟩, A190, H⟩ := H
          replace H : (if t179 = true then (some (t190 == 5 && (t191 == (Int.tmod (wrap64 (a4)) t189)))) else (some false)) = some r := H
          have A19 := Aside0.mk A190
          clear A190
          by_cases c20 : t179 = true
          · subst c20
            have H1 : (some (t190 == 5 && (t191 == (Int.tmod (wrap64 (a4)) t189)))) = some r := by rw [if_pos rfl] at H; exact H
            clear H
            have H := H1
            clear H1
            obtain rfl := Option.some.inj H
            go_enter Try.func5, Try.ntmps5
            try go_wp2_with (first | ((with_reducible refine gate_callee (f := 8) rfl ?_); refine goesL_ (some 17) rfl rfl Try.func8 (by kernel_rfl) rfl #[] rfl (by (try simp only [List.map_toArray, List.map_cons, List.map_nil]); first | done | rfl | (simp only [List.length_drop, List.length_take]; rfl)) ?_; (with_reducible refine (keepsakelaw20_awake.calls k  true _ A6.out).mono ?_); rintro e w21 ⟨rfl, hb⟩; refine ⟨_, rfl, ?_⟩; have n0_ := Aside0.mk (below_step (by repeat (first | (with_reducible first | exact HB.out | apply below_alloc | apply pw_below_drewN | apply below_drew1) | exact HB.out)) hb); clear HB; have HB := n0_; clear n0_; (try clear hb); (try clear hb2); (try clear hk); (try clear hi)) | ((with_reducible refine gate_callee (f := 15) rfl ?_); refine goesL_ (some 22) rfl rfl Try.func15 (by kernel_rfl) rfl #[.int .u8 a0, .int .u8 a1, .int .u8 a2, .int .u8 a3] rfl (by (try simp only [List.map_toArray, List.map_cons, List.map_nil]); first | done | rfl | (simp only [List.length_drop, List.length_take]; rfl)) ?_; (with_reducible refine (keepsakelaw20_cart.calls a0 a1 a2 a3 t180 t181 t182 t183 t184 t185 _ A7.out).mono ?_); rintro e w22 ⟨v186, rfl, ho0, hb⟩; refine ⟨_, rfl, ?_⟩; have n0_ := Aside0.mk (Kd.R_lower ho0 (below_size (by repeat (first | (with_reducible first | exact HB.out | apply below_alloc | apply pw_below_drewN | apply below_drew1) | exact HB.out)))); have n1_ := Aside0.mk (below_step (by repeat (first | (with_reducible first | exact HB.out | apply below_alloc | apply pw_below_drewN | apply below_drew1) | exact HB.out)) hb); clear HB; have HO187 := n0_; have HB := n1_; clear n0_ n1_; (try clear hb); (try clear hb2); (try clear hk); (try clear hi); (try clear ho0)) | ((with_reducible refine gate_dst (N := 12) rfl ?_); refine box_event ?hg (N := 12) ?hd (cs := #[.int .i64 0, .int .i64 0, .int .i64 0, .int .i64 0, .int .i64 0, .slice none 0 0]) (t := 30) ?hr ?_; (case hd => rfl); (case hg => rfl); (case hr => first | (go_simp; done) | (go_simp; rfl)); intro gb188 hg w23 hbox hb; have n0_ := Aside0.mk (Kd.R_below (by (with_reducible repeat (first | apply Kd.R_alloc | apply Kd.R_drewN | apply Kd.R_drew)); exact HO187.out) hb); have n1_ := Aside0.mk (below_step (by repeat (first | (with_reducible first | exact HB.out | apply below_alloc | apply pw_below_drewN | apply below_drew1) | exact HB.out)) hb); have n2_ := Aside0.mk (hbox); have n3_ := Aside0.mk ((by rw [hg]; exact (below_size (by repeat (first | (with_reducible first | exact HB.out | apply below_alloc | apply pw_below_drewN | apply below_drew1) | exact HB.out))) : w.heap.size ≤ gb188)); have n4_ := Aside0.mk ((by rw [hg]; exact (below_size (by repeat (first | (with_reducible first | exact HB.out | apply below_alloc | apply pw_below_drewN | apply below_drew1) | exact HB.out))) : w.heap.size ≤ gb188)); clear HO187; clear HB; have HO187 := n0_; have HB := n1_; have BK188 := n2_; have GW188 := n3_; have GE188 := n4_; clear n0_ n1_ n2_ n3_ n4_; clear hb hbox hg; have hcz24_0 : w23.cell? ⟨gb188, 0, none⟩ = some (.int .i64 0) := (blk_cell BK188.out 0).trans rfl; have hcz24_1 : w23.cell? ⟨gb188, 1, none⟩ = some (.int .i64 0) := (blk_cell BK188.out 1).trans rfl; have hcz24_2 : w23.cell? ⟨gb188, 2, none⟩ = some (.int .i64 0) := (blk_cell BK188.out 2).trans rfl; have hcz24_3 : w23.cell? ⟨gb188, 3, none⟩ = some (.int .i64 0) := (blk_cell BK188.out 3).trans rfl; have hcz24_4 : w23.cell? ⟨gb188, 4, none⟩ = some (.int .i64 0) := (blk_cell BK188.out 4).trans rfl; have hcz24_5 : w23.cell? ⟨gb188, 5, none⟩ = some (.slice none 0 0) := (blk_cell BK188.out 5).trans rfl; have hfz24_0 := blk_frozen BK188.out 0; have hfz24_1 := blk_frozen BK188.out 1; have hfz24_2 := blk_frozen BK188.out 2; have hfz24_3 := blk_frozen BK188.out 3; have hfz24_4 := blk_frozen BK188.out 4; have hfz24_5 := blk_frozen BK188.out 5; obtain ⟨Ao25, co25, eo25⟩ := Kd.R_slice HO187.out; subst eo25) | ((with_reducible refine gate_callee (f := 11) rfl ?_); refine goesL_ (some 24) rfl rfl Try.func11 (by kernel_rfl) rfl #[.agg #[.int .i64 t180, .int .i64 t181, .int .i64 t182, .int .i64 t183, .int .i64 t184, .slice Ao25 t185.length co25]] rfl (by (try simp only [List.map_toArray, List.map_cons, List.map_nil]); first | done | rfl | (simp only [List.length_drop, List.length_take]; rfl)) ?_; (with_reducible refine (bank_Long.calls t180 t181 t182 t183 t184 _ _ t185 t189 _ ?side1 ?side2 A8.out).mono ?_); (case side1 => refine (Kd.R_reads' (e := 5) (base := w.heap.size) (ok := fun k_ => True) (n := t185.length) (c := co25) ?_).2.2; exact (by (with_reducible repeat (first | apply Kd.R_alloc | apply Kd.R_drewN | apply Kd.R_drew)); exact (Kd.R_mono (Kd.R_far (p := ⟨gb188, 5, none⟩) (Kd.R_far (p := ⟨gb188, 4, none⟩) (Kd.R_far (p := ⟨gb188, 3, none⟩) (Kd.R_far (p := ⟨gb188, 2, none⟩) (Kd.R_far (p := ⟨gb188, 1, none⟩) (Kd.R_far (p := ⟨gb188, 0, none⟩) (Kd.R_types HO187.out BK188.out (by decide)) (fun _ hk => hk.2) (.int .i64 t180)) (fun _ hk => hk.2) (.int .i64 t181)) (fun _ hk => hk.2) (.int .i64 t182)) (fun _ hk => hk.2) (.int .i64 t183)) (fun _ hk => hk.2) (.int .i64 t184)) (fun _ hk => hk.2) (.slice Ao25 t185.length co25)) (fun _ h_ => h_.1)))); (case side2 => exact (Kd.R_reads' HO187.out).2.1); rintro e w26 ⟨rfl, hb⟩; refine ⟨_, rfl, ?_⟩; have n0_ := Aside0.mk (Kd.R_below (by (with_reducible repeat (first | apply Kd.R_alloc | apply Kd.R_drewN | apply Kd.R_drew)); exact (Kd.R_mono (Kd.R_far (p := ⟨gb188, 5, none⟩) (Kd.R_far (p := ⟨gb188, 4, none⟩) (Kd.R_far (p := ⟨gb188, 3, none⟩) (Kd.R_far (p := ⟨gb188, 2, none⟩) (Kd.R_far (p := ⟨gb188, 1, none⟩) (Kd.R_far (p := ⟨gb188, 0, none⟩) (Kd.R_types HO187.out BK188.out (by decide)) (fun _ hk => hk.2) (.int .i64 t180)) (fun _ hk => hk.2) (.int .i64 t181)) (fun _ hk => hk.2) (.int .i64 t182)) (fun _ hk => hk.2) (.int .i64 t183)) (fun _ hk => hk.2) (.int .i64 t184)) (fun _ hk => hk.2) (.slice Ao25 t185.length co25)) (fun _ h_ => h_.1))) hb); have n1_ := Aside0.mk (blk_below (g := gb188) (o := .cells #[.int .i64 t180, .int .i64 t181, .int .i64 t182, .int .i64 t183, .int .i64 t184, .slice Ao25 t185.length co25] 30 (0, 0)) (by (with_reducible repeat (first | refine blk_drewN ?_ _ | refine blk_drew ?_ | refine blk_alloc ?_ _)); refine blk_put (cs := #[.int .i64 t180, .int .i64 t181, .int .i64 t182, .int .i64 t183, .int .i64 t184, .slice none 0 0]) ?_ 5 _ rfl; (with_reducible repeat (first | refine blk_drewN ?_ _ | refine blk_drew ?_ | refine blk_alloc ?_ _)); refine blk_put (cs := #[.int .i64 t180, .int .i64 t181, .int .i64 t182, .int .i64 t183, .int .i64 0, .slice none 0 0]) ?_ 4 _ rfl; (with_reducible repeat (first | refine blk_drewN ?_ _ | refine blk_drew ?_ | refine blk_alloc ?_ _)); refine blk_put (cs := #[.int .i64 t180, .int .i64 t181, .int .i64 t182, .int .i64 0, .int .i64 0, .slice none 0 0]) ?_ 3 _ rfl; (with_reducible repeat (first | refine blk_drewN ?_ _ | refine blk_drew ?_ | refine blk_alloc ?_ _)); refine blk_put (cs := #[.int .i64 t180, .int .i64 t181, .int .i64 0, .int .i64 0, .int .i64 0, .slice none 0 0]) ?_ 2 _ rfl; (with_reducible repeat (first | refine blk_drewN ?_ _ | refine blk_drew ?_ | refine blk_alloc ?_ _)); refine blk_put (cs := #[.int .i64 t180, .int .i64 0, .int .i64 0, .int .i64 0, .int .i64 0, .slice none 0 0]) ?_ 1 _ rfl; (with_reducible repeat (first | refine blk_drewN ?_ _ | refine blk_drew ?_ | refine blk_alloc ?_ _)); refine blk_put (cs := #[.int .i64 0, .int .i64 0, .int .i64 0, .int .i64 0, .int .i64 0, .slice none 0 0]) ?_ 0 _ rfl; (with_reducible repeat (first | refine blk_drewN ?_ _ | refine blk_drew ?_ | refine blk_alloc ?_ _)); exact BK188.out) hb); have n2_ := Aside0.mk (below_step (by repeat (first | (with_reducible first | exact HB.out | apply below_alloc | apply pw_below_drewN | apply below_drew1 | refine below_set ?_ GE188.out) | exact HB.out)) hb); clear HO187; clear BK188; clear HB; have HO187 := n0_; have BK188 := n1_; have HB := n2_; clear n0_ n1_ n2_; (try clear hb); (try clear hb2); (try clear hk); (try clear hi); have hcz27_0 : w26.cell? ⟨gb188, 0, none⟩ = some (.int .i64 t180) := (blk_cell BK188.out 0).trans rfl; have hcz27_1 : w26.cell? ⟨gb188, 1, none⟩ = some (.int .i64 t181) := (blk_cell BK188.out 1).trans rfl; have hcz27_2 : w26.cell? ⟨gb188, 2, none⟩ = some (.int .i64 t182) := (blk_cell BK188.out 2).trans rfl; have hcz27_3 : w26.cell? ⟨gb188, 3, none⟩ = some (.int .i64 t183) := (blk_cell BK188.out 3).trans rfl; have hcz27_4 : w26.cell? ⟨gb188, 4, none⟩ = some (.int .i64 t184) := (blk_cell BK188.out 4).trans rfl; have hcz27_5 : w26.cell? ⟨gb188, 5, none⟩ = some (.slice Ao25 t185.length co25) := (blk_cell BK188.out 5).trans rfl; have hfz27_0 := blk_frozen BK188.out 0; have hfz27_1 := blk_frozen BK188.out 1; have hfz27_2 := blk_frozen BK188.out 2; have hfz27_3 := blk_frozen BK188.out 3; have hfz27_4 := blk_frozen BK188.out 4; have hfz27_5 := blk_frozen BK188.out 5))
            have n0_ := Aside0.mk (Kd.R_drew HO187.out)
            have n1_ := Aside0.mk (blk_drew BK188.out)
            have n2_ := Aside0.mk (below_drew1 HB.out)
            clear HO187
            clear BK188
            clear HB
            have HO187 := n0_
            have BK188 := n1_
            have HB := n2_
            clear n0_ n1_ n2_
            refine start_ (n := 14) (S := fun w' => w'.cell? ⟨gb188, 0, none⟩ = some (.int .i64 t180) ∧ w'.cell? ⟨gb188, 1, none⟩ = some (.int .i64 t181) ∧ w'.cell? ⟨gb188, 2, none⟩ = some (.int .i64 t182) ∧ w'.cell? ⟨gb188, 3, none⟩ = some (.int .i64 t183) ∧ w'.cell? ⟨gb188, 4, none⟩ = some (.int .i64 t184) ∧ w'.cell? ⟨gb188, 5, none⟩ = some (.slice Ao25 t185.length co25)) (ds := []) #[false, false, false, false, false, false, false, false, false, false, false, false, false, false] (by kernel_rfl) rfl rfl ⟨(blk_cell BK188.out 0).trans rfl, (blk_cell BK188.out 1).trans rfl, (blk_cell BK188.out 2).trans rfl, (blk_cell BK188.out 3).trans rfl, (blk_cell BK188.out 4).trans rfl, (blk_cell BK188.out 5).trans rfl⟩ (fun hHeld => ?_); refine with_tabW keepsakelaw20_BankSees.tab8 keepsakelaw20_BankSees.bits8 (fun HT_ HW_ => ?_)
            generalize w26.drew = w28 at HO187 BK188 HB hHeld ⊢
            refine pure_ (i := 1) (N := some 36) (v := ?_) (a' := ?_) #[false, true, false, false, false, false, false, false, false, false, false, false, false, false] rfl rfl (any_of HT_.out (by kernel_rfl)) (fun _ _ _ h => h) (Or.inl ⟨by rfl, ?_⟩) ?_ ?_
            rotate_left
            · intro w'
              go_simp
              with_reducible rfl
            rotate_left
            · simp only [Act.put, List.setIfInBounds_toArray, List.set_cons_zero, List.set_cons_succ, i64_w, i32_w]
              rfl
            refine pure_ (i := 2) (N := some 37) (v := ?_) (a' := ?_) #[false, true, true, false, false, false, false, false, false, false, false, false, false, false] rfl rfl (any_of HT_.out (by kernel_rfl)) (fun _ _ _ h => h) (Or.inl ⟨by rfl, ?_⟩) ?_ ?_
            rotate_left
            · intro w'
              go_simp
              with_reducible rfl
            rotate_left
            · simp only [Act.put, List.setIfInBounds_toArray, List.set_cons_zero, List.set_cons_succ, i64_w, i32_w]
              rfl
            refine pure_ (i := 3) (N := some 38) (v := ?_) (a' := ?_) #[false, true, true, true, false, false, false, false, false, false, false, false, false, false] rfl rfl (any_of HT_.out (by kernel_rfl)) (fun _ _ _ h => h) (Or.inl ⟨by rfl, ?_⟩) ?_ ?_
            rotate_left
            · intro w'
              go_simp
              with_reducible rfl
            rotate_left
            · simp only [Act.put, List.setIfInBounds_toArray, List.set_cons_zero, List.set_cons_succ, i64_w, i32_w]
              rfl
            refine pure_ (i := 4) (N := some 39) (v := ?_) (a' := ?_) #[false, true, true, true, true, false, false, false, false, false, false, false, false, false] rfl rfl (any_of HT_.out (by kernel_rfl)) (fun _ _ _ h => h) (Or.inl ⟨by rfl, ?_⟩) ?_ ?_
            rotate_left
            · intro w'
              go_simp
              with_reducible rfl
            rotate_left
            · simp only [Act.put, List.setIfInBounds_toArray, List.set_cons_zero, List.set_cons_succ, i64_w, i32_w]
              rfl
            refine pure_ (i := 5) (N := some 40) (v := ?_) (a' := ?_) #[false, true, true, true, true, true, false, false, false, false, false, false, false, false] rfl rfl (any_of HT_.out (by kernel_rfl)) (fun _ _ _ h => h) (Or.inl ⟨by rfl, ?_⟩) ?_ ?_
            rotate_left
            · intro w'
              go_simp
              with_reducible rfl
            rotate_left
            · simp only [Act.put, List.setIfInBounds_toArray, List.set_cons_zero, List.set_cons_succ, i64_w, i32_w]
              rfl
            refine pure_ (i := 6) (N := some 41) (v := ?_) (a' := ?_) #[false, true, true, true, true, true, true, false, false, false, false, false, false, false] rfl rfl (any_of HT_.out (by kernel_rfl)) (fun _ _ _ h => h) (Or.inl ⟨by rfl, ?_⟩) ?_ ?_
            rotate_left
            · intro w'
              go_simp
              with_reducible rfl
            rotate_left
            · simp only [Act.put, List.setIfInBounds_toArray, List.set_cons_zero, List.set_cons_succ, i64_w, i32_w]
              rfl
            refine pure_ (i := 7) (N := some 42) (v := ?_) (a' := ?_) #[false, true, true, true, true, true, true, true, false, false, false, false, false, false] rfl rfl (any_of HT_.out (by kernel_rfl)) (fun _ _ _ h => h) (Or.inl ⟨by rfl, ?_⟩) ?_ ?_
            rotate_left
            · intro w'
              go_simp
              with_reducible rfl
            rotate_left
            · simp only [Act.put, List.setIfInBounds_toArray, List.set_cons_zero, List.set_cons_succ, i64_w, i32_w]
              rfl
            refine pure_ (i := 8) (N := some 43) (v := ?_) (a' := ?_) #[false, true, true, true, true, true, true, true, true, false, false, false, false, false] rfl rfl (any_of HT_.out (by kernel_rfl)) (fun _ _ _ h => h) (Or.inl ⟨by rfl, ?_⟩) ?_ ?_
            rotate_left
            · intro w'
              go_simp
              with_reducible rfl
            rotate_left
            · simp only [Act.put, List.setIfInBounds_toArray, List.set_cons_zero, List.set_cons_succ, i64_w, i32_w]
              rfl
            refine pure_ (i := 9) (N := some 44) (v := ?_) (a' := ?_) #[false, true, true, true, true, true, true, true, true, true, false, false, false, false] rfl rfl (any_of HT_.out (by kernel_rfl)) (fun _ _ _ h => h) (Or.inl ⟨by rfl, ?_⟩) ?_ ?_
            rotate_left
            · intro w'
              go_simp
              with_reducible rfl
            rotate_left
            · simp only [Act.put, List.setIfInBounds_toArray, List.set_cons_zero, List.set_cons_succ, i64_w, i32_w]
              rfl
            refine pure_ (i := 10) (N := some 45) (v := ?_) (a' := ?_) #[false, true, true, true, true, true, true, true, true, true, true, false, false, false] rfl rfl (any_of HT_.out (by kernel_rfl)) (fun _ _ _ h => h) (Or.inl ⟨by rfl, ?_⟩) ?_ ?_
            rotate_left
            · intro w'
              go_simp
              with_reducible rfl
            rotate_left
            · simp only [Act.put, List.setIfInBounds_toArray, List.set_cons_zero, List.set_cons_succ, i64_w, i32_w]
              rfl
            refine take_ (i := 0) (N := some 35) (v := ?_) (a' := ?_) #[true, true, true, true, true, true, true, true, true, true, true, false, false, false] rfl rfl (take_ofW HT_.out HW_.out (by kernel_rfl)) (fun _ _ _ h => h) (Or.inl ⟨by rfl, ?_⟩) hHeld ?_ ?_
            rotate_left
            · rintro w' ⟨s0, s1, s2, s3, s4, s5⟩
              go_simp
              with_reducible rfl
            rotate_left
            · simp only [Act.put, List.setIfInBounds_toArray, List.set_cons_zero, List.set_cons_succ, i64_w, i32_w]
              rfl
            refine join_ (σ := Nat) 1 #[true, true, true, true, true, true, true, true, true, true, true, true, true, false] (fun s_ => [(46, .agg #[.int .i64 t190, .int .i64 t191]), (16, .pointer (some ⟨s_, 0, none⟩))]) (fun s_ w' => (w'.cell? ⟨gb188, 0, none⟩ = some (.int .i64 t180) ∧ w'.cell? ⟨gb188, 1, none⟩ = some (.int .i64 t181) ∧ w'.cell? ⟨gb188, 2, none⟩ = some (.int .i64 t182) ∧ w'.cell? ⟨gb188, 3, none⟩ = some (.int .i64 t183) ∧ w'.cell? ⟨gb188, 4, none⟩ = some (.int .i64 t184) ∧ w'.cell? ⟨gb188, 5, none⟩ = some (.slice Ao25 t185.length co25)) ∧ (Kd.R (Kd.int .u8) 5 w' w.heap.size (fun _ => True) (.slice Ao25 t185.length co25) t185) ∧ (w'.heap[gb188]? = some (.cells #[.int .i64 t180, .int .i64 t181, .int .i64 t182, .int .i64 t183, .int .i64 t184, .slice Ao25 t185.length co25] 30 (0, 0))) ∧ (w'.heap[s_]? = some (.cells #[.int .i64 0, .int .i64 0] 34 (0, 0))) ∧ (w.heap.size ≤ s_) ∧ (w.heap.size ≤ s_) ∧ (gb188 ≠ s_) ∧ (s_ ≠ gb188) ∧ (Below w.heap.size w w')) ?_ ?_
            rotate_left
            · intro hCont
              refine two_ (i := 11) (j := 12) (Ni := some 46) (Nj := some 16) #[true, true, true, true, true, true, true, true, true, true, true, true, false, false] #[true, true, true, true, true, true, true, true, true, true, true, false, true, false] rfl rfl rfl rfl (two_of HT_.out (by kernel_rfl)) (by decide) (by decide) (fun K hK => ?_) (fun K hK => ?_)
              · skip
                refine goes_ Try.func13 (by kernel_rfl) rfl #[.agg #[.int .i64 t180, .int .i64 t181, .int .i64 t182, .int .i64 t183, .int .i64 t184, .slice Ao25 t185.length co25], .agg #[.int .u8 ((wrap64 (Int.tdiv (Int.tmod (wrap64 (a4)) t189) (wrap64 (Int.tdiv t189 t181)))) % 256), .int .u8 0], .int .u16 (IntKind.u16.wrap (wrap64 (32768 + (Int.tmod (Int.tmod (wrap64 (a4)) t189) (wrap64 (Int.tdiv t189 t181))))))] (by rfl) rfl rfl (by (try simp only [List.map_toArray, List.map_cons, List.map_nil]); first | done | rfl | (simp only [List.length_drop, List.length_take]; rfl)) ?_
                with_reducible refine (bank_Where.calls k t180 t181 t182 t183 t184 _ _ t185 ((wrap64 (Int.tdiv (Int.tmod (wrap64 (a4)) t189) (wrap64 (Int.tdiv t189 t181)))) % 256) 0 (IntKind.u16.wrap (wrap64 (32768 + (Int.tmod (Int.tmod (wrap64 (a4)) t189) (wrap64 (Int.tdiv t189 t181)))))) t190 t191 _ ?side1 ?side2 A19.out).mono ?_
                (case side1 => repeat (first | exact (Kd.R_reads' HO187.out).2.2 | (with_reducible refine Kd.C_alloc ?_ _) | (with_reducible refine Kd.C_drewN ?_ _) | (with_reducible refine Kd.C_drew ?_)))
                (case side2 => exact (Kd.R_reads' HO187.out).2.1)
                rintro e w29 ⟨rfl, hb⟩
                refine ⟨_, rfl, ?_⟩
                have n0_ := Aside0.mk (Kd.R_below (by (with_reducible repeat (first | apply Kd.R_alloc | apply Kd.R_drewN | apply Kd.R_drew)); exact HO187.out) hb)
                have n1_ := Aside0.mk (blk_below (g := gb188) (o := .cells #[.int .i64 t180, .int .i64 t181, .int .i64 t182, .int .i64 t183, .int .i64 t184, .slice Ao25 t185.length co25] 30 (0, 0)) (by (with_reducible repeat (first | refine blk_drewN ?_ _ | refine blk_drew ?_ | refine blk_alloc ?_ _)); exact BK188.out) hb)
                have n2_ := Aside0.mk (below_step (by repeat (first | (with_reducible first | exact HB.out | apply below_alloc | apply pw_below_drewN | apply below_drew1 | refine below_set ?_ GE188.out) | exact HB.out)) hb)
                clear HO187
                clear BK188
                clear HB
                have HO187 := n0_
                have BK188 := n1_
                have HB := n2_
                clear n0_ n1_ n2_
                (try clear hb)
                (try clear hb2)
                (try clear hk)
                (try clear hi)
                refine hK.out _ _ ⟨(blk_cell BK188.out 0).trans rfl, (blk_cell BK188.out 1).trans rfl, (blk_cell BK188.out 2).trans rfl, (blk_cell BK188.out 3).trans rfl, (blk_cell BK188.out 4).trans rfl, (blk_cell BK188.out 5).trans rfl⟩ (fun hHeld => ?_)
                clear hK K
                refine norm_ (a' := ?_) ?_ ?_
                rotate_left
                · show Act.put _ (some 46) _ = _
                  simp only [Act.put, List.setIfInBounds_toArray, List.set_cons_zero, List.set_cons_succ, i64_w, i32_w]
                  rfl
                refine one_ (i := 12) (N := some 16) #[true, true, true, true, true, true, true, true, true, true, true, true, true, false] rfl rfl (one_of HT_.out (by kernel_rfl)) (by decide) (fun K hK => ?_)
                refine box_step ?hg (N := 16) ?hd (cs := #[.int .i64 0, .int .i64 0]) (t := 34) ?hr ?_; (case hd => rfl); (case hg => rfl); (case hr => first | (go_simp; done) | (go_simp; rfl))
                intro gb192 hg w30 hbox hb
                have n0_ := Aside0.mk (Kd.R_below (by (with_reducible repeat (first | apply Kd.R_alloc | apply Kd.R_drewN | apply Kd.R_drew)); exact HO187.out) hb)
                have n1_ := Aside0.mk (blk_below (g := gb188) (o := .cells #[.int .i64 t180, .int .i64 t181, .int .i64 t182, .int .i64 t183, .int .i64 t184, .slice Ao25 t185.length co25] 30 (0, 0)) (by (with_reducible repeat (first | refine blk_drewN ?_ _ | refine blk_drew ?_ | refine blk_alloc ?_ _)); exact BK188.out) hb)
                have n2_ := Aside0.mk (below_step (by repeat (first | (with_reducible first | exact HB.out | apply below_alloc | apply pw_below_drewN | apply below_drew1 | refine below_set ?_ GE188.out) | exact HB.out)) hb)
                have n3_ := Aside0.mk (hbox)
                have n4_ := Aside0.mk ((by rw [hg]; exact (below_size (by repeat (first | (with_reducible first | exact HB.out | apply below_alloc | apply pw_below_drewN | apply below_drew1 | refine below_set ?_ GE188.out) | exact HB.out))) : w.heap.size ≤ gb192))
                have n5_ := Aside0.mk ((by rw [hg]; exact (below_size (by repeat (first | (with_reducible first | exact HB.out | apply below_alloc | apply pw_below_drewN | apply below_drew1 | refine below_set ?_ GE188.out) | exact HB.out))) : w.heap.size ≤ gb192))
                have n6_ := Aside0.mk ((by rw [hg]; exact Nat.ne_of_lt (blk_lt (g := gb188) (o := .cells #[.int .i64 t180, .int .i64 t181, .int .i64 t182, .int .i64 t183, .int .i64 t184, .slice Ao25 t185.length co25] 30 (0, 0)) (by (with_reducible repeat (first | refine blk_drewN ?_ _ | refine blk_drew ?_ | refine blk_alloc ?_ _)); exact BK188.out)) : gb188 ≠ gb192))
                have n7_ := Aside0.mk ((by rw [hg]; exact Nat.ne_of_gt (blk_lt (g := gb188) (o := .cells #[.int .i64 t180, .int .i64 t181, .int .i64 t182, .int .i64 t183, .int .i64 t184, .slice Ao25 t185.length co25] 30 (0, 0)) (by (with_reducible repeat (first | refine blk_drewN ?_ _ | refine blk_drew ?_ | refine blk_alloc ?_ _)); exact BK188.out)) : gb192 ≠ gb188))
                clear HO187
                clear BK188
                clear HB
                have HO187 := n0_
                have BK188 := n1_
                have HB := n2_
                have BK192 := n3_
                have GW192 := n4_
                have GE192 := n5_
                have NB188_192 := n6_
                have NB192_188 := n7_
                clear n0_ n1_ n2_ n3_ n4_ n5_ n6_ n7_
                clear hb hbox hg
                refine hK.out _ _ ⟨(blk_cell BK188.out 0).trans rfl, (blk_cell BK188.out 1).trans rfl, (blk_cell BK188.out 2).trans rfl, (blk_cell BK188.out 3).trans rfl, (blk_cell BK188.out 4).trans rfl, (blk_cell BK188.out 5).trans rfl⟩ (fun hHeld => ?_)
                clear hK K
                refine norm_ (a' := ?_) ?_ ?_
                rotate_left
                · show Act.put _ (some 16) _ = _
                  simp only [Act.put, List.setIfInBounds_toArray, List.set_cons_zero, List.set_cons_succ, i64_w, i32_w]
                  rfl
                exact norm_ (by simp only [putAll, Act.put, List.setIfInBounds_toArray, List.set_cons_zero, List.set_cons_succ]) (hCont (gb192) _ ⟨hHeld, (by (with_reducible repeat (first | apply Kd.R_alloc | apply Kd.R_drewN | apply Kd.R_drew)); exact HO187.out), (by (with_reducible repeat (first | refine blk_drewN ?_ _ | refine blk_drew ?_ | refine blk_alloc ?_ _)); exact BK188.out), (by (with_reducible repeat (first | refine blk_drewN ?_ _ | refine blk_drew ?_ | refine blk_alloc ?_ _)); exact BK192.out), GW192.out, GE192.out, NB188_192.out, NB192_188.out, (by repeat (first | (with_reducible first | exact HB.out | apply below_alloc | apply pw_below_drewN | apply below_drew1 | refine below_set ?_ GE188.out | refine below_set ?_ GE192.out) | exact HB.out))⟩)
              · skip
                refine box_step ?hg (N := 16) ?hd (cs := #[.int .i64 0, .int .i64 0]) (t := 34) ?hr ?_; (case hd => rfl); (case hg => rfl); (case hr => first | (go_simp; done) | (go_simp; rfl))
                intro gb192 hg w29 hbox hb
                have n0_ := Aside0.mk (Kd.R_below (by (with_reducible repeat (first | apply Kd.R_alloc | apply Kd.R_drewN | apply Kd.R_drew)); exact HO187.out) hb)
                have n1_ := Aside0.mk (blk_below (g := gb188) (o := .cells #[.int .i64 t180, .int .i64 t181, .int .i64 t182, .int .i64 t183, .int .i64 t184, .slice Ao25 t185.length co25] 30 (0, 0)) (by (with_reducible repeat (first | refine blk_drewN ?_ _ | refine blk_drew ?_ | refine blk_alloc ?_ _)); exact BK188.out) hb)
                have n2_ := Aside0.mk (below_step (by repeat (first | (with_reducible first | exact HB.out | apply below_alloc | apply pw_below_drewN | apply below_drew1 | refine below_set ?_ GE188.out) | exact HB.out)) hb)
                have n3_ := Aside0.mk (hbox)
                have n4_ := Aside0.mk ((by rw [hg]; exact (below_size (by repeat (first | (with_reducible first | exact HB.out | apply below_alloc | apply pw_below_drewN | apply below_drew1 | refine below_set ?_ GE188.out) | exact HB.out))) : w.heap.size ≤ gb192))
                have n5_ := Aside0.mk ((by rw [hg]; exact (below_size (by repeat (first | (with_reducible first | exact HB.out | apply below_alloc | apply pw_below_drewN | apply below_drew1 | refine below_set ?_ GE188.out) | exact HB.out))) : w.heap.size ≤ gb192))
                have n6_ := Aside0.mk ((by rw [hg]; exact Nat.ne_of_lt (blk_lt (g := gb188) (o := .cells #[.int .i64 t180, .int .i64 t181, .int .i64 t182, .int .i64 t183, .int .i64 t184, .slice Ao25 t185.length co25] 30 (0, 0)) (by (with_reducible repeat (first | refine blk_drewN ?_ _ | refine blk_drew ?_ | refine blk_alloc ?_ _)); exact BK188.out)) : gb188 ≠ gb192))
                have n7_ := Aside0.mk ((by rw [hg]; exact Nat.ne_of_gt (blk_lt (g := gb188) (o := .cells #[.int .i64 t180, .int .i64 t181, .int .i64 t182, .int .i64 t183, .int .i64 t184, .slice Ao25 t185.length co25] 30 (0, 0)) (by (with_reducible repeat (first | refine blk_drewN ?_ _ | refine blk_drew ?_ | refine blk_alloc ?_ _)); exact BK188.out)) : gb192 ≠ gb188))
                clear HO187
                clear BK188
                clear HB
                have HO187 := n0_
                have BK188 := n1_
                have HB := n2_
                have BK192 := n3_
                have GW192 := n4_
                have GE192 := n5_
                have NB188_192 := n6_
                have NB192_188 := n7_
                clear n0_ n1_ n2_ n3_ n4_ n5_ n6_ n7_
                clear hb hbox hg
                refine hK.out _ _ ⟨(blk_cell BK188.out 0).trans rfl, (blk_cell BK188.out 1).trans rfl, (blk_cell BK188.out 2).trans rfl, (blk_cell BK188.out 3).trans rfl, (blk_cell BK188.out 4).trans rfl, (blk_cell BK188.out 5).trans rfl⟩ (fun hHeld => ?_)
                clear hK K
                refine norm_ (a' := ?_) ?_ ?_
                rotate_left
                · show Act.put _ (some 16) _ = _
                  simp only [Act.put, List.setIfInBounds_toArray, List.set_cons_zero, List.set_cons_succ, i64_w, i32_w]
                  rfl
                refine one_ (i := 11) (N := some 46) #[true, true, true, true, true, true, true, true, true, true, true, true, true, false] rfl rfl (one_of HT_.out (by kernel_rfl)) (by decide) (fun K hK => ?_)
                refine goes_ Try.func13 (by kernel_rfl) rfl #[.agg #[.int .i64 t180, .int .i64 t181, .int .i64 t182, .int .i64 t183, .int .i64 t184, .slice Ao25 t185.length co25], .agg #[.int .u8 ((wrap64 (Int.tdiv (Int.tmod (wrap64 (a4)) t189) (wrap64 (Int.tdiv t189 t181)))) % 256), .int .u8 0], .int .u16 (IntKind.u16.wrap (wrap64 (32768 + (Int.tmod (Int.tmod (wrap64 (a4)) t189) (wrap64 (Int.tdiv t189 t181))))))] (by rfl) rfl rfl (by (try simp only [List.map_toArray, List.map_cons, List.map_nil]); first | done | rfl | (simp only [List.length_drop, List.length_take]; rfl)) ?_
                with_reducible refine (bank_Where.calls k t180 t181 t182 t183 t184 _ _ t185 ((wrap64 (Int.tdiv (Int.tmod (wrap64 (a4)) t189) (wrap64 (Int.tdiv t189 t181)))) % 256) 0 (IntKind.u16.wrap (wrap64 (32768 + (Int.tmod (Int.tmod (wrap64 (a4)) t189) (wrap64 (Int.tdiv t189 t181)))))) t190 t191 _ ?side1 ?side2 A19.out).mono ?_
                (case side1 => repeat (first | exact (Kd.R_reads' HO187.out).2.2 | (with_reducible refine Kd.C_alloc ?_ _) | (with_reducible refine Kd.C_drewN ?_ _) | (with_reducible refine Kd.C_drew ?_)))
                (case side2 => exact (Kd.R_reads' HO187.out).2.1)
                rintro e w30 ⟨rfl, hb⟩
                refine ⟨_, rfl, ?_⟩
                have n0_ := Aside0.mk (Kd.R_below (by (with_reducible repeat (first | apply Kd.R_alloc | apply Kd.R_drewN | apply Kd.R_drew)); exact HO187.out) hb)
                have n1_ := Aside0.mk (blk_below (g := gb188) (o := .cells #[.int .i64 t180, .int .i64 t181, .int .i64 t182, .int .i64 t183, .int .i64 t184, .slice Ao25 t185.length co25] 30 (0, 0)) (by (with_reducible repeat (first | refine blk_drewN ?_ _ | refine blk_drew ?_ | refine blk_alloc ?_ _)); exact BK188.out) hb)
                have n2_ := Aside0.mk (blk_below (g := gb192) (o := .cells #[.int .i64 0, .int .i64 0] 34 (0, 0)) (by (with_reducible repeat (first | refine blk_drewN ?_ _ | refine blk_drew ?_ | refine blk_alloc ?_ _)); exact BK192.out) hb)
                have n3_ := Aside0.mk (below_step (by repeat (first | (with_reducible first | exact HB.out | apply below_alloc | apply pw_below_drewN | apply below_drew1 | refine below_set ?_ GE188.out | refine below_set ?_ GE192.out) | exact HB.out)) hb)
                clear HO187
                clear BK188
                clear BK192
                clear HB
                have HO187 := n0_
                have BK188 := n1_
                have BK192 := n2_
                have HB := n3_
                clear n0_ n1_ n2_ n3_
                (try clear hb)
                (try clear hb2)
                (try clear hk)
                (try clear hi)
                refine hK.out _ _ ⟨(blk_cell BK188.out 0).trans rfl, (blk_cell BK188.out 1).trans rfl, (blk_cell BK188.out 2).trans rfl, (blk_cell BK188.out 3).trans rfl, (blk_cell BK188.out 4).trans rfl, (blk_cell BK188.out 5).trans rfl⟩ (fun hHeld => ?_)
                clear hK K
                refine norm_ (a' := ?_) ?_ ?_
                rotate_left
                · show Act.put _ (some 46) _ = _
                  simp only [Act.put, List.setIfInBounds_toArray, List.set_cons_zero, List.set_cons_succ, i64_w, i32_w]
                  rfl
                exact norm_ (by simp only [putAll, Act.put, List.setIfInBounds_toArray, List.set_cons_zero, List.set_cons_succ]) (hCont (gb192) _ ⟨hHeld, (by (with_reducible repeat (first | apply Kd.R_alloc | apply Kd.R_drewN | apply Kd.R_drew)); exact HO187.out), (by (with_reducible repeat (first | refine blk_drewN ?_ _ | refine blk_drew ?_ | refine blk_alloc ?_ _)); exact BK188.out), (by (with_reducible repeat (first | refine blk_drewN ?_ _ | refine blk_drew ?_ | refine blk_alloc ?_ _)); exact BK192.out), GW192.out, GE192.out, NB188_192.out, NB192_188.out, (by repeat (first | (with_reducible first | exact HB.out | apply below_alloc | apply pw_below_drewN | apply below_drew1 | refine below_set ?_ GE188.out | refine below_set ?_ GE192.out) | exact HB.out))⟩)
            rintro gb192 w31 ⟨hS_, h0_, h1_, h2_, h3_, h4_, h5_, h6_, h7_⟩
            have n0_ : Aside0 (Kd.R (Kd.int .u8) 5 w31 w.heap.size (fun _ => True) (.slice Ao25 t185.length co25) t185) := ⟨h0_⟩
            have n1_ : Aside0 (w31.heap[gb188]? = some (.cells #[.int .i64 t180, .int .i64 t181, .int .i64 t182, .int .i64 t183, .int .i64 t184, .slice Ao25 t185.length co25] 30 (0, 0))) := ⟨h1_⟩
            have n2_ : Aside0 (w31.heap[gb192]? = some (.cells #[.int .i64 0, .int .i64 0] 34 (0, 0))) := ⟨h2_⟩
            have n3_ : Aside0 (w.heap.size ≤ gb192) := ⟨h3_⟩
            have n4_ : Aside0 (w.heap.size ≤ gb192) := ⟨h4_⟩
            have n5_ : Aside0 (gb188 ≠ gb192) := ⟨h5_⟩
            have n6_ : Aside0 (gb192 ≠ gb188) := ⟨h6_⟩
            have n7_ : Aside0 (Below w.heap.size w w31) := ⟨h7_⟩
            clear HO187
            clear BK188
            clear HB
            clear h0_ h1_ h2_ h3_ h4_ h5_ h6_ h7_
            have HO187 := n0_
            have BK188 := n1_
            have BK192 := n2_
            have GW192 := n3_
            have GE192 := n4_
            have NB188_192 := n5_
            have NB192_188 := n6_
            have HB := n7_
            clear n0_ n1_ n2_ n3_ n4_ n5_ n6_ n7_
            have hHeld : w31.cell? ⟨gb188, 0, none⟩ = some (.int .i64 t180) ∧ w31.cell? ⟨gb188, 1, none⟩ = some (.int .i64 t181) ∧ w31.cell? ⟨gb188, 2, none⟩ = some (.int .i64 t182) ∧ w31.cell? ⟨gb188, 3, none⟩ = some (.int .i64 t183) ∧ w31.cell? ⟨gb188, 4, none⟩ = some (.int .i64 t184) ∧ w31.cell? ⟨gb188, 5, none⟩ = some (.slice Ao25 t185.length co25) := hS_
            refine norm_ (a' := ?_) ?_ ?_
            rotate_left
            · simp only [putAll, Act.put, List.setIfInBounds_toArray, List.set_cons_zero, List.set_cons_succ]
              rfl
            refine one_ (i := 13) (N := none) #[true, true, true, true, true, true, true, true, true, true, true, true, true, true] rfl rfl (one_of HT_.out (by kernel_rfl)) (by decide) (fun K hK => ?_)
            have hs32 : w31.cell? ⟨gb192, 0, none⟩ = some (.int .i64 0) := (blk_cell BK192.out 0).trans rfl
            have hfs32 := blk_frozen BK192.out 0
            have hns32_0 := NB188_192.out
            have hms32_0 := NB192_188.out
            have hs33 : w31.cell? ⟨gb192, 1, none⟩ = some (.int .i64 0) := (blk_cell BK192.out 1).trans rfl
            have hfs33 := blk_frozen BK192.out 1
            have hns33_0 := NB188_192.out
            have hms33_0 := NB192_188.out
            refine skip_ (w1 := ?_) (by rfl) rfl ?_ ?_
            rotate_left
            · go_simp
              rfl
            refine hK.out _ _ ⟨((cell_far (p := ⟨gb192, _, none⟩) NB188_192.out _).trans (((cell_far (p := ⟨gb192, _, none⟩) NB188_192.out _).trans (hHeld.1)))), ((cell_far (p := ⟨gb192, _, none⟩) NB188_192.out _).trans (((cell_far (p := ⟨gb192, _, none⟩) NB188_192.out _).trans (hHeld.2.1)))), ((cell_far (p := ⟨gb192, _, none⟩) NB188_192.out _).trans (((cell_far (p := ⟨gb192, _, none⟩) NB188_192.out _).trans (hHeld.2.2.1)))), ((cell_far (p := ⟨gb192, _, none⟩) NB188_192.out _).trans (((cell_far (p := ⟨gb192, _, none⟩) NB188_192.out _).trans (hHeld.2.2.2.1)))), ((cell_far (p := ⟨gb192, _, none⟩) NB188_192.out _).trans (((cell_far (p := ⟨gb192, _, none⟩) NB188_192.out _).trans (hHeld.2.2.2.2.1)))), ((cell_far (p := ⟨gb192, _, none⟩) NB188_192.out _).trans (((cell_far (p := ⟨gb192, _, none⟩) NB188_192.out _).trans (hHeld.2.2.2.2.2))))⟩ (fun hHeld => ?_)
            clear hK K
            refine done_ (done_of HT_.out (by kernel_rfl)) ?_
            have hnb34 := NB192_188.out
            have hnc34 := NB188_192.out
            have hcz35_0 : w31.cell? ⟨gb192, 0, none⟩ = some (.int .i64 0) := (blk_cell BK192.out 0).trans rfl
            have hcz35_1 : w31.cell? ⟨gb192, 1, none⟩ = some (.int .i64 0) := (blk_cell BK192.out 1).trans rfl
            have hfz35_0 := blk_frozen BK192.out 0
            have hfz35_1 := blk_frozen BK192.out 1
            try go_wp2
            go_ret
            exact ⟨by first | rfl | (simp [errW_none, errW_some] <;> rfl) | (simp [*, errW_none, errW_some] <;> rfl), by repeat (first | (with_reducible first | exact HB.out | apply below_alloc | apply pw_below_drewN | apply below_drew1 | refine below_set ?_ GE188.out | refine below_set ?_ GE192.out) | exact HB.out)⟩
          · replace c20 := Bool.eq_false_iff.mpr c20
            subst c20
            have H1 : (some false) = some r := by rw [if_neg (show ¬ (false = true) by decide)] at H; exact H
            clear H
            have H := H1
            clear H1
            obtain rfl := Option.some.inj H
            go_enter Try.func5, Try.ntmps5
            try go_wp2_with (first | ((with_reducible refine gate_callee (f := 8) rfl ?_); refine goesL_ (some 17) rfl rfl Try.func8 (by kernel_rfl) rfl #[] rfl (by (try simp only [List.map_toArray, List.map_cons, List.map_nil]); first | done | rfl | (simp only [List.length_drop, List.length_take]; rfl)) ?_; (with_reducible refine (keepsakelaw20_awake.calls k  false _ A6.out).mono ?_); rintro e w36 ⟨rfl, hb⟩; refine ⟨_, rfl, ?_⟩; have n0_ := Aside0.mk (below_step (by repeat (first | (with_reducible first | exact HB.out | apply below_alloc | apply pw_below_drewN | apply below_drew1) | exact HB.out)) hb); clear HB; have HB := n0_; clear n0_; (try clear hb); (try clear hb2); (try clear hk); (try clear hi)) | ((with_reducible refine gate_callee (f := 15) rfl ?_); refine goesL_ (some 22) rfl rfl Try.func15 (by kernel_rfl) rfl #[.int .u8 a0, .int .u8 a1, .int .u8 a2, .int .u8 a3] rfl (by (try simp only [List.map_toArray, List.map_cons, List.map_nil]); first | done | rfl | (simp only [List.length_drop, List.length_take]; rfl)) ?_; (with_reducible refine (keepsakelaw20_cart.calls a0 a1 a2 a3 t180 t181 t182 t183 t184 t185 _ A7.out).mono ?_); rintro e w37 ⟨v186, rfl, ho0, hb⟩; refine ⟨_, rfl, ?_⟩; have n0_ := Aside0.mk (Kd.R_lower ho0 (below_size (by repeat (first | (with_reducible first | exact HB.out | apply below_alloc | apply pw_below_drewN | apply below_drew1) | exact HB.out)))); have n1_ := Aside0.mk (below_step (by repeat (first | (with_reducible first | exact HB.out | apply below_alloc | apply pw_below_drewN | apply below_drew1) | exact HB.out)) hb); clear HB; have HO187 := n0_; have HB := n1_; clear n0_ n1_; (try clear hb); (try clear hb2); (try clear hk); (try clear hi); (try clear ho0)) | ((with_reducible refine gate_dst (N := 12) rfl ?_); refine box_event ?hg (N := 12) ?hd (cs := #[.int .i64 0, .int .i64 0, .int .i64 0, .int .i64 0, .int .i64 0, .slice none 0 0]) (t := 30) ?hr ?_; (case hd => rfl); (case hg => rfl); (case hr => first | (go_simp; done) | (go_simp; rfl)); intro gb188 hg w38 hbox hb; have n0_ := Aside0.mk (Kd.R_below (by (with_reducible repeat (first | apply Kd.R_alloc | apply Kd.R_drewN | apply Kd.R_drew)); exact HO187.out) hb); have n1_ := Aside0.mk (below_step (by repeat (first | (with_reducible first | exact HB.out | apply below_alloc | apply pw_below_drewN | apply below_drew1) | exact HB.out)) hb); have n2_ := Aside0.mk (hbox); have n3_ := Aside0.mk ((by rw [hg]; exact (below_size (by repeat (first | (with_reducible first | exact HB.out | apply below_alloc | apply pw_below_drewN | apply below_drew1) | exact HB.out))) : w.heap.size ≤ gb188)); have n4_ := Aside0.mk ((by rw [hg]; exact (below_size (by repeat (first | (with_reducible first | exact HB.out | apply below_alloc | apply pw_below_drewN | apply below_drew1) | exact HB.out))) : w.heap.size ≤ gb188)); clear HO187; clear HB; have HO187 := n0_; have HB := n1_; have BK188 := n2_; have GW188 := n3_; have GE188 := n4_; clear n0_ n1_ n2_ n3_ n4_; clear hb hbox hg; have hcz39_0 : w38.cell? ⟨gb188, 0, none⟩ = some (.int .i64 0) := (blk_cell BK188.out 0).trans rfl; have hcz39_1 : w38.cell? ⟨gb188, 1, none⟩ = some (.int .i64 0) := (blk_cell BK188.out 1).trans rfl; have hcz39_2 : w38.cell? ⟨gb188, 2, none⟩ = some (.int .i64 0) := (blk_cell BK188.out 2).trans rfl; have hcz39_3 : w38.cell? ⟨gb188, 3, none⟩ = some (.int .i64 0) := (blk_cell BK188.out 3).trans rfl; have hcz39_4 : w38.cell? ⟨gb188, 4, none⟩ = some (.int .i64 0) := (blk_cell BK188.out 4).trans rfl; have hcz39_5 : w38.cell? ⟨gb188, 5, none⟩ = some (.slice none 0 0) := (blk_cell BK188.out 5).trans rfl; have hfz39_0 := blk_frozen BK188.out 0; have hfz39_1 := blk_frozen BK188.out 1; have hfz39_2 := blk_frozen BK188.out 2; have hfz39_3 := blk_frozen BK188.out 3; have hfz39_4 := blk_frozen BK188.out 4; have hfz39_5 := blk_frozen BK188.out 5; obtain ⟨Ao40, co40, eo40⟩ := Kd.R_slice HO187.out; subst eo40) | ((with_reducible refine gate_callee (f := 11) rfl ?_); refine goesL_ (some 24) rfl rfl Try.func11 (by kernel_rfl) rfl #[.agg #[.int .i64 t180, .int .i64 t181, .int .i64 t182, .int .i64 t183, .int .i64 t184, .slice Ao40 t185.length co40]] rfl (by (try simp only [List.map_toArray, List.map_cons, List.map_nil]); first | done | rfl | (simp only [List.length_drop, List.length_take]; rfl)) ?_; (with_reducible refine (bank_Long.calls t180 t181 t182 t183 t184 _ _ t185 t189 _ ?side1 ?side2 A8.out).mono ?_); (case side1 => refine (Kd.R_reads' (e := 5) (base := w.heap.size) (ok := fun k_ => True) (n := t185.length) (c := co40) ?_).2.2; exact (by (with_reducible repeat (first | apply Kd.R_alloc | apply Kd.R_drewN | apply Kd.R_drew)); exact (Kd.R_mono (Kd.R_far (p := ⟨gb188, 5, none⟩) (Kd.R_far (p := ⟨gb188, 4, none⟩) (Kd.R_far (p := ⟨gb188, 3, none⟩) (Kd.R_far (p := ⟨gb188, 2, none⟩) (Kd.R_far (p := ⟨gb188, 1, none⟩) (Kd.R_far (p := ⟨gb188, 0, none⟩) (Kd.R_types HO187.out BK188.out (by decide)) (fun _ hk => hk.2) (.int .i64 t180)) (fun _ hk => hk.2) (.int .i64 t181)) (fun _ hk => hk.2) (.int .i64 t182)) (fun _ hk => hk.2) (.int .i64 t183)) (fun _ hk => hk.2) (.int .i64 t184)) (fun _ hk => hk.2) (.slice Ao40 t185.length co40)) (fun _ h_ => h_.1)))); (case side2 => exact (Kd.R_reads' HO187.out).2.1); rintro e w41 ⟨rfl, hb⟩; refine ⟨_, rfl, ?_⟩; have n0_ := Aside0.mk (Kd.R_below (by (with_reducible repeat (first | apply Kd.R_alloc | apply Kd.R_drewN | apply Kd.R_drew)); exact (Kd.R_mono (Kd.R_far (p := ⟨gb188, 5, none⟩) (Kd.R_far (p := ⟨gb188, 4, none⟩) (Kd.R_far (p := ⟨gb188, 3, none⟩) (Kd.R_far (p := ⟨gb188, 2, none⟩) (Kd.R_far (p := ⟨gb188, 1, none⟩) (Kd.R_far (p := ⟨gb188, 0, none⟩) (Kd.R_types HO187.out BK188.out (by decide)) (fun _ hk => hk.2) (.int .i64 t180)) (fun _ hk => hk.2) (.int .i64 t181)) (fun _ hk => hk.2) (.int .i64 t182)) (fun _ hk => hk.2) (.int .i64 t183)) (fun _ hk => hk.2) (.int .i64 t184)) (fun _ hk => hk.2) (.slice Ao40 t185.length co40)) (fun _ h_ => h_.1))) hb); have n1_ := Aside0.mk (blk_below (g := gb188) (o := .cells #[.int .i64 t180, .int .i64 t181, .int .i64 t182, .int .i64 t183, .int .i64 t184, .slice Ao40 t185.length co40] 30 (0, 0)) (by (with_reducible repeat (first | refine blk_drewN ?_ _ | refine blk_drew ?_ | refine blk_alloc ?_ _)); refine blk_put (cs := #[.int .i64 t180, .int .i64 t181, .int .i64 t182, .int .i64 t183, .int .i64 t184, .slice none 0 0]) ?_ 5 _ rfl; (with_reducible repeat (first | refine blk_drewN ?_ _ | refine blk_drew ?_ | refine blk_alloc ?_ _)); refine blk_put (cs := #[.int .i64 t180, .int .i64 t181, .int .i64 t182, .int .i64 t183, .int .i64 0, .slice none 0 0]) ?_ 4 _ rfl; (with_reducible repeat (first | refine blk_drewN ?_ _ | refine blk_drew ?_ | refine blk_alloc ?_ _)); refine blk_put (cs := #[.int .i64 t180, .int .i64 t181, .int .i64 t182, .int .i64 0, .int .i64 0, .slice none 0 0]) ?_ 3 _ rfl; (with_reducible repeat (first | refine blk_drewN ?_ _ | refine blk_drew ?_ | refine blk_alloc ?_ _)); refine blk_put (cs := #[.int .i64 t180, .int .i64 t181, .int .i64 0, .int .i64 0, .int .i64 0, .slice none 0 0]) ?_ 2 _ rfl; (with_reducible repeat (first | refine blk_drewN ?_ _ | refine blk_drew ?_ | refine blk_alloc ?_ _)); refine blk_put (cs := #[.int .i64 t180, .int .i64 0, .int .i64 0, .int .i64 0, .int .i64 0, .slice none 0 0]) ?_ 1 _ rfl; (with_reducible repeat (first | refine blk_drewN ?_ _ | refine blk_drew ?_ | refine blk_alloc ?_ _)); refine blk_put (cs := #[.int .i64 0, .int .i64 0, .int .i64 0, .int .i64 0, .int .i64 0, .slice none 0 0]) ?_ 0 _ rfl; (with_reducible repeat (first | refine blk_drewN ?_ _ | refine blk_drew ?_ | refine blk_alloc ?_ _)); exact BK188.out) hb); have n2_ := Aside0.mk (below_step (by repeat (first | (with_reducible first | exact HB.out | apply below_alloc | apply pw_below_drewN | apply below_drew1 | refine below_set ?_ GE188.out) | exact HB.out)) hb); clear HO187; clear BK188; clear HB; have HO187 := n0_; have BK188 := n1_; have HB := n2_; clear n0_ n1_ n2_; (try clear hb); (try clear hb2); (try clear hk); (try clear hi); have hcz42_0 : w41.cell? ⟨gb188, 0, none⟩ = some (.int .i64 t180) := (blk_cell BK188.out 0).trans rfl; have hcz42_1 : w41.cell? ⟨gb188, 1, none⟩ = some (.int .i64 t181) := (blk_cell BK188.out 1).trans rfl; have hcz42_2 : w41.cell? ⟨gb188, 2, none⟩ = some (.int .i64 t182) := (blk_cell BK188.out 2).trans rfl; have hcz42_3 : w41.cell? ⟨gb188, 3, none⟩ = some (.int .i64 t183) := (blk_cell BK188.out 3).trans rfl; have hcz42_4 : w41.cell? ⟨gb188, 4, none⟩ = some (.int .i64 t184) := (blk_cell BK188.out 4).trans rfl; have hcz42_5 : w41.cell? ⟨gb188, 5, none⟩ = some (.slice Ao40 t185.length co40) := (blk_cell BK188.out 5).trans rfl; have hfz42_0 := blk_frozen BK188.out 0; have hfz42_1 := blk_frozen BK188.out 1; have hfz42_2 := blk_frozen BK188.out 2; have hfz42_3 := blk_frozen BK188.out 3; have hfz42_4 := blk_frozen BK188.out 4; have hfz42_5 := blk_frozen BK188.out 5))
            have n0_ := Aside0.mk (Kd.R_drew HO187.out)
            have n1_ := Aside0.mk (blk_drew BK188.out)
            have n2_ := Aside0.mk (below_drew1 HB.out)
            clear HO187
            clear BK188
            clear HB
            have HO187 := n0_
            have BK188 := n1_
            have HB := n2_
            clear n0_ n1_ n2_
            refine start_ (n := 14) (S := fun w' => w'.cell? ⟨gb188, 0, none⟩ = some (.int .i64 t180) ∧ w'.cell? ⟨gb188, 1, none⟩ = some (.int .i64 t181) ∧ w'.cell? ⟨gb188, 2, none⟩ = some (.int .i64 t182) ∧ w'.cell? ⟨gb188, 3, none⟩ = some (.int .i64 t183) ∧ w'.cell? ⟨gb188, 4, none⟩ = some (.int .i64 t184) ∧ w'.cell? ⟨gb188, 5, none⟩ = some (.slice Ao40 t185.length co40)) (ds := []) #[false, false, false, false, false, false, false, false, false, false, false, false, false, false] (by kernel_rfl) rfl rfl ⟨(blk_cell BK188.out 0).trans rfl, (blk_cell BK188.out 1).trans rfl, (blk_cell BK188.out 2).trans rfl, (blk_cell BK188.out 3).trans rfl, (blk_cell BK188.out 4).trans rfl, (blk_cell BK188.out 5).trans rfl⟩ (fun hHeld => ?_); refine with_tabW keepsakelaw20_BankSees.tab8 keepsakelaw20_BankSees.bits8 (fun HT_ HW_ => ?_)
            generalize w41.drew = w43 at HO187 BK188 HB hHeld ⊢
            refine pure_ (i := 1) (N := some 36) (v := ?_) (a' := ?_) #[false, true, false, false, false, false, false, false, false, false, false, false, false, false] rfl rfl (any_of HT_.out (by kernel_rfl)) (fun _ _ _ h => h) (Or.inl ⟨by rfl, ?_⟩) ?_ ?_
            rotate_left
            · intro w'
              go_simp
              with_reducible rfl
            rotate_left
            · simp only [Act.put, List.setIfInBounds_toArray, List.set_cons_zero, List.set_cons_succ, i64_w, i32_w]
              rfl
            refine pure_ (i := 2) (N := some 37) (v := ?_) (a' := ?_) #[false, true, true, false, false, false, false, false, false, false, false, false, false, false] rfl rfl (any_of HT_.out (by kernel_rfl)) (fun _ _ _ h => h) (Or.inl ⟨by rfl, ?_⟩) ?_ ?_
            rotate_left
            · intro w'
              go_simp
              with_reducible rfl
            rotate_left
            · simp only [Act.put, List.setIfInBounds_toArray, List.set_cons_zero, List.set_cons_succ, i64_w, i32_w]
              rfl
            refine pure_ (i := 3) (N := some 38) (v := ?_) (a' := ?_) #[false, true, true, true, false, false, false, false, false, false, false, false, false, false] rfl rfl (any_of HT_.out (by kernel_rfl)) (fun _ _ _ h => h) (Or.inl ⟨by rfl, ?_⟩) ?_ ?_
            rotate_left
            · intro w'
              go_simp
              with_reducible rfl
            rotate_left
            · simp only [Act.put, List.setIfInBounds_toArray, List.set_cons_zero, List.set_cons_succ, i64_w, i32_w]
              rfl
            refine pure_ (i := 4) (N := some 39) (v := ?_) (a' := ?_) #[false, true, true, true, true, false, false, false, false, false, false, false, false, false] rfl rfl (any_of HT_.out (by kernel_rfl)) (fun _ _ _ h => h) (Or.inl ⟨by rfl, ?_⟩) ?_ ?_
            rotate_left
            · intro w'
              go_simp
              with_reducible rfl
            rotate_left
            · simp only [Act.put, List.setIfInBounds_toArray, List.set_cons_zero, List.set_cons_succ, i64_w, i32_w]
              rfl
            refine pure_ (i := 5) (N := some 40) (v := ?_) (a' := ?_) #[false, true, true, true, true, true, false, false, false, false, false, false, false, false] rfl rfl (any_of HT_.out (by kernel_rfl)) (fun _ _ _ h => h) (Or.inl ⟨by rfl, ?_⟩) ?_ ?_
            rotate_left
            · intro w'
              go_simp
              with_reducible rfl
            rotate_left
            · simp only [Act.put, List.setIfInBounds_toArray, List.set_cons_zero, List.set_cons_succ, i64_w, i32_w]
              rfl
            refine pure_ (i := 6) (N := some 41) (v := ?_) (a' := ?_) #[false, true, true, true, true, true, true, false, false, false, false, false, false, false] rfl rfl (any_of HT_.out (by kernel_rfl)) (fun _ _ _ h => h) (Or.inl ⟨by rfl, ?_⟩) ?_ ?_
            rotate_left
            · intro w'
              go_simp
              with_reducible rfl
            rotate_left
            · simp only [Act.put, List.setIfInBounds_toArray, List.set_cons_zero, List.set_cons_succ, i64_w, i32_w]
              rfl
            refine pure_ (i := 7) (N := some 42) (v := ?_) (a' := ?_) #[false, true, true, true, true, true, true, true, false, false, false, false, false, false] rfl rfl (any_of HT_.out (by kernel_rfl)) (fun _ _ _ h => h) (Or.inl ⟨by rfl, ?_⟩) ?_ ?_
            rotate_left
            · intro w'
              go_simp
              with_reducible rfl
            rotate_left
            · simp only [Act.put, List.setIfInBounds_toArray, List.set_cons_zero, List.set_cons_succ, i64_w, i32_w]
              rfl
            refine pure_ (i := 8) (N := some 43) (v := ?_) (a' := ?_) #[false, true, true, true, true, true, true, true, true, false, false, false, false, false] rfl rfl (any_of HT_.out (by kernel_rfl)) (fun _ _ _ h => h) (Or.inl ⟨by rfl, ?_⟩) ?_ ?_
            rotate_left
            · intro w'
              go_simp
              with_reducible rfl
            rotate_left
            · simp only [Act.put, List.setIfInBounds_toArray, List.set_cons_zero, List.set_cons_succ, i64_w, i32_w]
              rfl
            refine pure_ (i := 9) (N := some 44) (v := ?_) (a' := ?_) #[false, true, true, true, true, true, true, true, true, true, false, false, false, false] rfl rfl (any_of HT_.out (by kernel_rfl)) (fun _ _ _ h => h) (Or.inl ⟨by rfl, ?_⟩) ?_ ?_
            rotate_left
            · intro w'
              go_simp
              with_reducible rfl
            rotate_left
            · simp only [Act.put, List.setIfInBounds_toArray, List.set_cons_zero, List.set_cons_succ, i64_w, i32_w]
              rfl
            refine pure_ (i := 10) (N := some 45) (v := ?_) (a' := ?_) #[false, true, true, true, true, true, true, true, true, true, true, false, false, false] rfl rfl (any_of HT_.out (by kernel_rfl)) (fun _ _ _ h => h) (Or.inl ⟨by rfl, ?_⟩) ?_ ?_
            rotate_left
            · intro w'
              go_simp
              with_reducible rfl
            rotate_left
            · simp only [Act.put, List.setIfInBounds_toArray, List.set_cons_zero, List.set_cons_succ, i64_w, i32_w]
              rfl
            refine take_ (i := 0) (N := some 35) (v := ?_) (a' := ?_) #[true, true, true, true, true, true, true, true, true, true, true, false, false, false] rfl rfl (take_ofW HT_.out HW_.out (by kernel_rfl)) (fun _ _ _ h => h) (Or.inl ⟨by rfl, ?_⟩) hHeld ?_ ?_
            rotate_left
            · rintro w' ⟨s0, s1, s2, s3, s4, s5⟩
              go_simp
              with_reducible rfl
            rotate_left
            · simp only [Act.put, List.setIfInBounds_toArray, List.set_cons_zero, List.set_cons_succ, i64_w, i32_w]
              rfl
            refine join_ (σ := Nat) 1 #[true, true, true, true, true, true, true, true, true, true, true, true, true, false] (fun s_ => [(46, .agg #[.int .i64 t190, .int .i64 t191]), (16, .pointer (some ⟨s_, 0, none⟩))]) (fun s_ w' => (w'.cell? ⟨gb188, 0, none⟩ = some (.int .i64 t180) ∧ w'.cell? ⟨gb188, 1, none⟩ = some (.int .i64 t181) ∧ w'.cell? ⟨gb188, 2, none⟩ = some (.int .i64 t182) ∧ w'.cell? ⟨gb188, 3, none⟩ = some (.int .i64 t183) ∧ w'.cell? ⟨gb188, 4, none⟩ = some (.int .i64 t184) ∧ w'.cell? ⟨gb188, 5, none⟩ = some (.slice Ao40 t185.length co40)) ∧ (Kd.R (Kd.int .u8) 5 w' w.heap.size (fun _ => True) (.slice Ao40 t185.length co40) t185) ∧ (w'.heap[gb188]? = some (.cells #[.int .i64 t180, .int .i64 t181, .int .i64 t182, .int .i64 t183, .int .i64 t184, .slice Ao40 t185.length co40] 30 (0, 0))) ∧ (w'.heap[s_]? = some (.cells #[.int .i64 0, .int .i64 0] 34 (0, 0))) ∧ (w.heap.size ≤ s_) ∧ (w.heap.size ≤ s_) ∧ (gb188 ≠ s_) ∧ (s_ ≠ gb188) ∧ (Below w.heap.size w w')) ?_ ?_
            rotate_left
            · intro hCont
              refine two_ (i := 11) (j := 12) (Ni := some 46) (Nj := some 16) #[true, true, true, true, true, true, true, true, true, true, true, true, false, false] #[true, true, true, true, true, true, true, true, true, true, true, false, true, false] rfl rfl rfl rfl (two_of HT_.out (by kernel_rfl)) (by decide) (by decide) (fun K hK => ?_) (fun K hK => ?_)
              · skip
                refine goes_ Try.func13 (by kernel_rfl) rfl #[.agg #[.int .i64 t180, .int .i64 t181, .int .i64 t182, .int .i64 t183, .int .i64 t184, .slice Ao40 t185.length co40], .agg #[.int .u8 ((wrap64 (Int.tdiv (Int.tmod (wrap64 (a4)) t189) (wrap64 (Int.tdiv t189 t181)))) % 256), .int .u8 0], .int .u16 (IntKind.u16.wrap (wrap64 (32768 + (Int.tmod (Int.tmod (wrap64 (a4)) t189) (wrap64 (Int.tdiv t189 t181))))))] (by rfl) rfl rfl (by (try simp only [List.map_toArray, List.map_cons, List.map_nil]); first | done | rfl | (simp only [List.length_drop, List.length_take]; rfl)) ?_
                with_reducible refine (bank_Where.calls k t180 t181 t182 t183 t184 _ _ t185 ((wrap64 (Int.tdiv (Int.tmod (wrap64 (a4)) t189) (wrap64 (Int.tdiv t189 t181)))) % 256) 0 (IntKind.u16.wrap (wrap64 (32768 + (Int.tmod (Int.tmod (wrap64 (a4)) t189) (wrap64 (Int.tdiv t189 t181)))))) t190 t191 _ ?side1 ?side2 A19.out).mono ?_
                (case side1 => repeat (first | exact (Kd.R_reads' HO187.out).2.2 | (with_reducible refine Kd.C_alloc ?_ _) | (with_reducible refine Kd.C_drewN ?_ _) | (with_reducible refine Kd.C_drew ?_)))
                (case side2 => exact (Kd.R_reads' HO187.out).2.1)
                rintro e w44 ⟨rfl, hb⟩
                refine ⟨_, rfl, ?_⟩
                have n0_ := Aside0.mk (Kd.R_below (by (with_reducible repeat (first | apply Kd.R_alloc | apply Kd.R_drewN | apply Kd.R_drew)); exact HO187.out) hb)
                have n1_ := Aside0.mk (blk_below (g := gb188) (o := .cells #[.int .i64 t180, .int .i64 t181, .int .i64 t182, .int .i64 t183, .int .i64 t184, .slice Ao40 t185.length co40] 30 (0, 0)) (by (with_reducible repeat (first | refine blk_drewN ?_ _ | refine blk_drew ?_ | refine blk_alloc ?_ _)); exact BK188.out) hb)
                have n2_ := Aside0.mk (below_step (by repeat (first | (with_reducible first | exact HB.out | apply below_alloc | apply pw_below_drewN | apply below_drew1 | refine below_set ?_ GE188.out) | exact HB.out)) hb)
                clear HO187
                clear BK188
                clear HB
                have HO187 := n0_
                have BK188 := n1_
                have HB := n2_
                clear n0_ n1_ n2_
                (try clear hb)
                (try clear hb2)
                (try clear hk)
                (try clear hi)
                refine hK.out _ _ ⟨(blk_cell BK188.out 0).trans rfl, (blk_cell BK188.out 1).trans rfl, (blk_cell BK188.out 2).trans rfl, (blk_cell BK188.out 3).trans rfl, (blk_cell BK188.out 4).trans rfl, (blk_cell BK188.out 5).trans rfl⟩ (fun hHeld => ?_)
                clear hK K
                refine norm_ (a' := ?_) ?_ ?_
                rotate_left
                · show Act.put _ (some 46) _ = _
                  simp only [Act.put, List.setIfInBounds_toArray, List.set_cons_zero, List.set_cons_succ, i64_w, i32_w]
                  rfl
                refine one_ (i := 12) (N := some 16) #[true, true, true, true, true, true, true, true, true, true, true, true, true, false] rfl rfl (one_of HT_.out (by kernel_rfl)) (by decide) (fun K hK => ?_)
                refine box_step ?hg (N := 16) ?hd (cs := #[.int .i64 0, .int .i64 0]) (t := 34) ?hr ?_; (case hd => rfl); (case hg => rfl); (case hr => first | (go_simp; done) | (go_simp; rfl))
                intro gb192 hg w45 hbox hb
                have n0_ := Aside0.mk (Kd.R_below (by (with_reducible repeat (first | apply Kd.R_alloc | apply Kd.R_drewN | apply Kd.R_drew)); exact HO187.out) hb)
                have n1_ := Aside0.mk (blk_below (g := gb188) (o := .cells #[.int .i64 t180, .int .i64 t181, .int .i64 t182, .int .i64 t183, .int .i64 t184, .slice Ao40 t185.length co40] 30 (0, 0)) (by (with_reducible repeat (first | refine blk_drewN ?_ _ | refine blk_drew ?_ | refine blk_alloc ?_ _)); exact BK188.out) hb)
                have n2_ := Aside0.mk (below_step (by repeat (first | (with_reducible first | exact HB.out | apply below_alloc | apply pw_below_drewN | apply below_drew1 | refine below_set ?_ GE188.out) | exact HB.out)) hb)
                have n3_ := Aside0.mk (hbox)
                have n4_ := Aside0.mk ((by rw [hg]; exact (below_size (by repeat (first | (with_reducible first | exact HB.out | apply below_alloc | apply pw_below_drewN | apply below_drew1 | refine below_set ?_ GE188.out) | exact HB.out))) : w.heap.size ≤ gb192))
                have n5_ := Aside0.mk ((by rw [hg]; exact (below_size (by repeat (first | (with_reducible first | exact HB.out | apply below_alloc | apply pw_below_drewN | apply below_drew1 | refine below_set ?_ GE188.out) | exact HB.out))) : w.heap.size ≤ gb192))
                have n6_ := Aside0.mk ((by rw [hg]; exact Nat.ne_of_lt (blk_lt (g := gb188) (o := .cells #[.int .i64 t180, .int .i64 t181, .int .i64 t182, .int .i64 t183, .int .i64 t184, .slice Ao40 t185.length co40] 30 (0, 0)) (by (with_reducible repeat (first | refine blk_drewN ?_ _ | refine blk_drew ?_ | refine blk_alloc ?_ _)); exact BK188.out)) : gb188 ≠ gb192))
                have n7_ := Aside0.mk ((by rw [hg]; exact Nat.ne_of_gt (blk_lt (g := gb188) (o := .cells #[.int .i64 t180, .int .i64 t181, .int .i64 t182, .int .i64 t183, .int .i64 t184, .slice Ao40 t185.length co40] 30 (0, 0)) (by (with_reducible repeat (first | refine blk_drewN ?_ _ | refine blk_drew ?_ | refine blk_alloc ?_ _)); exact BK188.out)) : gb192 ≠ gb188))
                clear HO187
                clear BK188
                clear HB
                have HO187 := n0_
                have BK188 := n1_
                have HB := n2_
                have BK192 := n3_
                have GW192 := n4_
                have GE192 := n5_
                have NB188_192 := n6_
                have NB192_188 := n7_
                clear n0_ n1_ n2_ n3_ n4_ n5_ n6_ n7_
                clear hb hbox hg
                refine hK.out _ _ ⟨(blk_cell BK188.out 0).trans rfl, (blk_cell BK188.out 1).trans rfl, (blk_cell BK188.out 2).trans rfl, (blk_cell BK188.out 3).trans rfl, (blk_cell BK188.out 4).trans rfl, (blk_cell BK188.out 5).trans rfl⟩ (fun hHeld => ?_)
                clear hK K
                refine norm_ (a' := ?_) ?_ ?_
                rotate_left
                · show Act.put _ (some 16) _ = _
                  simp only [Act.put, List.setIfInBounds_toArray, List.set_cons_zero, List.set_cons_succ, i64_w, i32_w]
                  rfl
                exact norm_ (by simp only [putAll, Act.put, List.setIfInBounds_toArray, List.set_cons_zero, List.set_cons_succ]) (hCont (gb192) _ ⟨hHeld, (by (with_reducible repeat (first | apply Kd.R_alloc | apply Kd.R_drewN | apply Kd.R_drew)); exact HO187.out), (by (with_reducible repeat (first | refine blk_drewN ?_ _ | refine blk_drew ?_ | refine blk_alloc ?_ _)); exact BK188.out), (by (with_reducible repeat (first | refine blk_drewN ?_ _ | refine blk_drew ?_ | refine blk_alloc ?_ _)); exact BK192.out), GW192.out, GE192.out, NB188_192.out, NB192_188.out, (by repeat (first | (with_reducible first | exact HB.out | apply below_alloc | apply pw_below_drewN | apply below_drew1 | refine below_set ?_ GE188.out | refine below_set ?_ GE192.out) | exact HB.out))⟩)
              · skip
                refine box_step ?hg (N := 16) ?hd (cs := #[.int .i64 0, .int .i64 0]) (t := 34) ?hr ?_; (case hd => rfl); (case hg => rfl); (case hr => first | (go_simp; done) | (go_simp; rfl))
                intro gb192 hg w44 hbox hb
                have n0_ := Aside0.mk (Kd.R_below (by (with_reducible repeat (first | apply Kd.R_alloc | apply Kd.R_drewN | apply Kd.R_drew)); exact HO187.out) hb)
                have n1_ := Aside0.mk (blk_below (g := gb188) (o := .cells #[.int .i64 t180, .int .i64 t181, .int .i64 t182, .int .i64 t183, .int .i64 t184, .slice Ao40 t185.length co40] 30 (0, 0)) (by (with_reducible repeat (first | refine blk_drewN ?_ _ | refine blk_drew ?_ | refine blk_alloc ?_ _)); exact BK188.out) hb)
                have n2_ := Aside0.mk (below_step (by repeat (first | (with_reducible first | exact HB.out | apply below_alloc | apply pw_below_drewN | apply below_drew1 | refine below_set ?_ GE188.out) | exact HB.out)) hb)
                have n3_ := Aside0.mk (hbox)
                have n4_ := Aside0.mk ((by rw [hg]; exact (below_size (by repeat (first | (with_reducible first | exact HB.out | apply below_alloc | apply pw_below_drewN | apply below_drew1 | refine below_set ?_ GE188.out) | exact HB.out))) : w.heap.size ≤ gb192))
                have n5_ := Aside0.mk ((by rw [hg]; exact (below_size (by repeat (first | (with_reducible first | exact HB.out | apply below_alloc | apply pw_below_drewN | apply below_drew1 | refine below_set ?_ GE188.out) | exact HB.out))) : w.heap.size ≤ gb192))
                have n6_ := Aside0.mk ((by rw [hg]; exact Nat.ne_of_lt (blk_lt (g := gb188) (o := .cells #[.int .i64 t180, .int .i64 t181, .int .i64 t182, .int .i64 t183, .int .i64 t184, .slice Ao40 t185.length co40] 30 (0, 0)) (by (with_reducible repeat (first | refine blk_drewN ?_ _ | refine blk_drew ?_ | refine blk_alloc ?_ _)); exact BK188.out)) : gb188 ≠ gb192))
                have n7_ := Aside0.mk ((by rw [hg]; exact Nat.ne_of_gt (blk_lt (g := gb188) (o := .cells #[.int .i64 t180, .int .i64 t181, .int .i64 t182, .int .i64 t183, .int .i64 t184, .slice Ao40 t185.length co40] 30 (0, 0)) (by (with_reducible repeat (first | refine blk_drewN ?_ _ | refine blk_drew ?_ | refine blk_alloc ?_ _)); exact BK188.out)) : gb192 ≠ gb188))
                clear HO187
                clear BK188
                clear HB
                have HO187 := n0_
                have BK188 := n1_
                have HB := n2_
                have BK192 := n3_
                have GW192 := n4_
                have GE192 := n5_
                have NB188_192 := n6_
                have NB192_188 := n7_
                clear n0_ n1_ n2_ n3_ n4_ n5_ n6_ n7_
                clear hb hbox hg
                refine hK.out _ _ ⟨(blk_cell BK188.out 0).trans rfl, (blk_cell BK188.out 1).trans rfl, (blk_cell BK188.out 2).trans rfl, (blk_cell BK188.out 3).trans rfl, (blk_cell BK188.out 4).trans rfl, (blk_cell BK188.out 5).trans rfl⟩ (fun hHeld => ?_)
                clear hK K
                refine norm_ (a' := ?_) ?_ ?_
                rotate_left
                · show Act.put _ (some 16) _ = _
                  simp only [Act.put, List.setIfInBounds_toArray, List.set_cons_zero, List.set_cons_succ, i64_w, i32_w]
                  rfl
                refine one_ (i := 11) (N := some 46) #[true, true, true, true, true, true, true, true, true, true, true, true, true, false] rfl rfl (one_of HT_.out (by kernel_rfl)) (by decide) (fun K hK => ?_)
                refine goes_ Try.func13 (by kernel_rfl) rfl #[.agg #[.int .i64 t180, .int .i64 t181, .int .i64 t182, .int .i64 t183, .int .i64 t184, .slice Ao40 t185.length co40], .agg #[.int .u8 ((wrap64 (Int.tdiv (Int.tmod (wrap64 (a4)) t189) (wrap64 (Int.tdiv t189 t181)))) % 256), .int .u8 0], .int .u16 (IntKind.u16.wrap (wrap64 (32768 + (Int.tmod (Int.tmod (wrap64 (a4)) t189) (wrap64 (Int.tdiv t189 t181))))))] (by rfl) rfl rfl (by (try simp only [List.map_toArray, List.map_cons, List.map_nil]); first | done | rfl | (simp only [List.length_drop, List.length_take]; rfl)) ?_
                with_reducible refine (bank_Where.calls k t180 t181 t182 t183 t184 _ _ t185 ((wrap64 (Int.tdiv (Int.tmod (wrap64 (a4)) t189) (wrap64 (Int.tdiv t189 t181)))) % 256) 0 (IntKind.u16.wrap (wrap64 (32768 + (Int.tmod (Int.tmod (wrap64 (a4)) t189) (wrap64 (Int.tdiv t189 t181)))))) t190 t191 _ ?side1 ?side2 A19.out).mono ?_
                (case side1 => repeat (first | exact (Kd.R_reads' HO187.out).2.2 | (with_reducible refine Kd.C_alloc ?_ _) | (with_reducible refine Kd.C_drewN ?_ _) | (with_reducible refine Kd.C_drew ?_)))
                (case side2 => exact (Kd.R_reads' HO187.out).2.1)
                rintro e w45 ⟨rfl, hb⟩
                refine ⟨_, rfl, ?_⟩
                have n0_ := Aside0.mk (Kd.R_below (by (with_reducible repeat (first | apply Kd.R_alloc | apply Kd.R_drewN | apply Kd.R_drew)); exact HO187.out) hb)
                have n1_ := Aside0.mk (blk_below (g := gb188) (o := .cells #[.int .i64 t180, .int .i64 t181, .int .i64 t182, .int .i64 t183, .int .i64 t184, .slice Ao40 t185.length co40] 30 (0, 0)) (by (with_reducible repeat (first | refine blk_drewN ?_ _ | refine blk_drew ?_ | refine blk_alloc ?_ _)); exact BK188.out) hb)
                have n2_ := Aside0.mk (blk_below (g := gb192) (o := .cells #[.int .i64 0, .int .i64 0] 34 (0, 0)) (by (with_reducible repeat (first | refine blk_drewN ?_ _ | refine blk_drew ?_ | refine blk_alloc ?_ _)); exact BK192.out) hb)
                have n3_ := Aside0.mk (below_step (by repeat (first | (with_reducible first | exact HB.out | apply below_alloc | apply pw_below_drewN | apply below_drew1 | refine below_set ?_ GE188.out | refine below_set ?_ GE192.out) | exact HB.out)) hb)
                clear HO187
                clear BK188
                clear BK192
                clear HB
                have HO187 := n0_
                have BK188 := n1_
                have BK192 := n2_
                have HB := n3_
                clear n0_ n1_ n2_ n3_
                (try clear hb)
                (try clear hb2)
                (try clear hk)
                (try clear hi)
                refine hK.out _ _ ⟨(blk_cell BK188.out 0).trans rfl, (blk_cell BK188.out 1).trans rfl, (blk_cell BK188.out 2).trans rfl, (blk_cell BK188.out 3).trans rfl, (blk_cell BK188.out 4).trans rfl, (blk_cell BK188.out 5).trans rfl⟩ (fun hHeld => ?_)
                clear hK K
                refine norm_ (a' := ?_) ?_ ?_
                rotate_left
                · show Act.put _ (some 46) _ = _
                  simp only [Act.put, List.setIfInBounds_toArray, List.set_cons_zero, List.set_cons_succ, i64_w, i32_w]
                  rfl
                exact norm_ (by simp only [putAll, Act.put, List.setIfInBounds_toArray, List.set_cons_zero, List.set_cons_succ]) (hCont (gb192) _ ⟨hHeld, (by (with_reducible repeat (first | apply Kd.R_alloc | apply Kd.R_drewN | apply Kd.R_drew)); exact HO187.out), (by (with_reducible repeat (first | refine blk_drewN ?_ _ | refine blk_drew ?_ | refine blk_alloc ?_ _)); exact BK188.out), (by (with_reducible repeat (first | refine blk_drewN ?_ _ | refine blk_drew ?_ | refine blk_alloc ?_ _)); exact BK192.out), GW192.out, GE192.out, NB188_192.out, NB192_188.out, (by repeat (first | (with_reducible first | exact HB.out | apply below_alloc | apply pw_below_drewN | apply below_drew1 | refine below_set ?_ GE188.out | refine below_set ?_ GE192.out) | exact HB.out))⟩)
            rintro gb192 w46 ⟨hS_, h0_, h1_, h2_, h3_, h4_, h5_, h6_, h7_⟩
            have n0_ : Aside0 (Kd.R (Kd.int .u8) 5 w46 w.heap.size (fun _ => True) (.slice Ao40 t185.length co40) t185) := ⟨h0_⟩
            have n1_ : Aside0 (w46.heap[gb188]? = some (.cells #[.int .i64 t180, .int .i64 t181, .int .i64 t182, .int .i64 t183, .int .i64 t184, .slice Ao40 t185.length co40] 30 (0, 0))) := ⟨h1_⟩
            have n2_ : Aside0 (w46.heap[gb192]? = some (.cells #[.int .i64 0, .int .i64 0] 34 (0, 0))) := ⟨h2_⟩
            have n3_ : Aside0 (w.heap.size ≤ gb192) := ⟨h3_⟩
            have n4_ : Aside0 (w.heap.size ≤ gb192) := ⟨h4_⟩
            have n5_ : Aside0 (gb188 ≠ gb192) := ⟨h5_⟩
            have n6_ : Aside0 (gb192 ≠ gb188) := ⟨h6_⟩
            have n7_ : Aside0 (Below w.heap.size w w46) := ⟨h7_⟩
            clear HO187
            clear BK188
            clear HB
            clear h0_ h1_ h2_ h3_ h4_ h5_ h6_ h7_
            have HO187 := n0_
            have BK188 := n1_
            have BK192 := n2_
            have GW192 := n3_
            have GE192 := n4_
            have NB188_192 := n5_
            have NB192_188 := n6_
            have HB := n7_
            clear n0_ n1_ n2_ n3_ n4_ n5_ n6_ n7_
            have hHeld : w46.cell? ⟨gb188, 0, none⟩ = some (.int .i64 t180) ∧ w46.cell? ⟨gb188, 1, none⟩ = some (.int .i64 t181) ∧ w46.cell? ⟨gb188, 2, none⟩ = some (.int .i64 t182) ∧ w46.cell? ⟨gb188, 3, none⟩ = some (.int .i64 t183) ∧ w46.cell? ⟨gb188, 4, none⟩ = some (.int .i64 t184) ∧ w46.cell? ⟨gb188, 5, none⟩ = some (.slice Ao40 t185.length co40) := hS_
            refine norm_ (a' := ?_) ?_ ?_
            rotate_left
            · simp only [putAll, Act.put, List.setIfInBounds_toArray, List.set_cons_zero, List.set_cons_succ]
              rfl
            refine one_ (i := 13) (N := none) #[true, true, true, true, true, true, true, true, true, true, true, true, true, true] rfl rfl (one_of HT_.out (by kernel_rfl)) (by decide) (fun K hK => ?_)
            have hs47 : w46.cell? ⟨gb192, 0, none⟩ = some (.int .i64 0) := (blk_cell BK192.out 0).trans rfl
            have hfs47 := blk_frozen BK192.out 0
            have hns47_0 := NB188_192.out
            have hms47_0 := NB192_188.out
            have hs48 : w46.cell? ⟨gb192, 1, none⟩ = some (.int .i64 0) := (blk_cell BK192.out 1).trans rfl
            have hfs48 := blk_frozen BK192.out 1
            have hns48_0 := NB188_192.out
            have hms48_0 := NB192_188.out
            refine skip_ (w1 := ?_) (by rfl) rfl ?_ ?_
            rotate_left
            · go_simp
              rfl
            refine hK.out _ _ ⟨((cell_far (p := ⟨gb192, _, none⟩) NB188_192.out _).trans (((cell_far (p := ⟨gb192, _, none⟩) NB188_192.out _).trans (hHeld.1)))), ((cell_far (p := ⟨gb192, _, none⟩) NB188_192.out _).trans (((cell_far (p := ⟨gb192, _, none⟩) NB188_192.out _).trans (hHeld.2.1)))), ((cell_far (p := ⟨gb192, _, none⟩) NB188_192.out _).trans (((cell_far (p := ⟨gb192, _, none⟩) NB188_192.out _).trans (hHeld.2.2.1)))), ((cell_far (p := ⟨gb192, _, none⟩) NB188_192.out _).trans (((cell_far (p := ⟨gb192, _, none⟩) NB188_192.out _).trans (hHeld.2.2.2.1)))), ((cell_far (p := ⟨gb192, _, none⟩) NB188_192.out _).trans (((cell_far (p := ⟨gb192, _, none⟩) NB188_192.out _).trans (hHeld.2.2.2.2.1)))), ((cell_far (p := ⟨gb192, _, none⟩) NB188_192.out _).trans (((cell_far (p := ⟨gb192, _, none⟩) NB188_192.out _).trans (hHeld.2.2.2.2.2))))⟩ (fun hHeld => ?_)
            clear hK K
            refine done_ (done_of HT_.out (by kernel_rfl)) ?_
            try go_wp2
            go_ret
            exact ⟨by first | rfl | (simp [errW_none, errW_some] <;> rfl) | (simp [*, errW_none, errW_some] <;> rfl), by repeat (first | (with_reducible first | exact HB.out | apply below_alloc | apply pw_below_drewN | apply below_drew1 | refine below_set ?_ GE188.out | refine below_set ?_ GE192.out) | exact HB.out)⟩

/-- THE ONE PURE STATEMENT of keepsakelaw20_BankSees: yours. -/
def keepsakelaw20_BankSees.Pure : Prop := ∀ (a0 : Int) (a1 : Int) (a2 : Int) (a3 : Int) (a4 : Int), (Lit.int .u8 a0).wf = true → (Lit.int .u8 a1).wf = true → (Lit.int .u8 a2).wf = true → (Lit.int .u8 a3).wf = true → (Lit.int .u32 a4).wf = true → ∃ k, keepsakelaw20_BankSees.f k a0 a1 a2 a3 a4 = some true
theorem keepsakelaw20_BankSees.walk (P : keepsakelaw20_BankSees.Pure) (a0 : Int) (a1 : Int) (a2 : Int) (a3 : Int) (a4 : Int) (w : World) (w0 : (Lit.int .u8 a0).wf = true) (w1 : (Lit.int .u8 a1).wf = true) (w2 : (Lit.int .u8 a2).wf = true) (w3 : (Lit.int .u8 a3).wf = true) (w4 : (Lit.int .u32 a4).wf = true) :
    Calls Try.prog 5 #[.int .u8 a0, .int .u8 a1, .int .u8 a2, .int .u8 a3, .int .u32 a4] w fun e w' => e = .returned (.bool true) ∧ Below w.heap.size w w' := by
  obtain ⟨k, h⟩ := P a0 a1 a2 a3 a4 w0 w1 w2 w3 w4
  refine (keepsakelaw20_BankSees.calls k a0 a1 a2 a3 a4 true w h).mono ?_
  rintro e w' ⟨rfl, hd⟩
  exact ⟨rfl, hd⟩

end Go.Proofs.Ytogmbgmepkhnaaa.All
