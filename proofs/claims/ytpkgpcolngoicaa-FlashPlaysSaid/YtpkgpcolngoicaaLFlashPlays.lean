/- FlashPlays: whatever is written, read and waited for is as the document says: for every input. -/
import Derived.Test.YtpkgpcolngoicaaAx1
import Derived.Test.YtpkgpcolngoicaaFPair
set_option linter.unusedVariables false
set_option linter.unusedSimpArgs false
namespace Go.Proofs.Ytpkgpcolngoicaa.Given
open Go.RowKit Go.Proofs.Ytpkgpcolngoicaa.All Go.Proofs.Ytpkgpcolngoicaa.Sep Go.Proofs.YtpkgpcolngoicaaW.PrintWords Go.Proofs.YtpkgpcolngoicaaW.PrintLast Go.Proofs.YtpkgpcolngoicaaW.PrintMore
attribute [local go_sem] max2_int min2_int max_two min_two

set_option maxRecDepth 20000 in
theorem flashPlays_long (a0 : Int) (A : Option Addr) (c : Nat) (l : List Int) (A2 : Option Addr) (c2 : Nat) (l2 : List SOP) (A3 : Option Addr) (c3 : Nat) (l3 : List Int) (w : World) (hw : 0 ≤ a0 ∧ a0 ≤ 255) (hle : 40 < (l.length : Int) ∨ 120 < (l2.length : Int) ∨ 300 < (l3.length : Int)) :
    Calls Try.prog 9 #[.int .u8 a0, .slice A l.length c, .slice A2 l2.length c2, .slice A3 l3.length c3] w fun e w' => e = .returned (.bool true) ∧ Below w.heap.size w w' := by
  have HW := Lib.hid (awake_walk (Held.nil w))
  by_cases h40 : 40 < (l.length : Int)
  · clear hle
    go_enter Try.func9, Try.ntmps9
    go_wp2_with (go_at_call 11; (with_reducible refine HW.out.mono ?_); rintro e w1 ⟨rfl, h⟩; have HA := Aside0.mk h; clear h)
    go_ret
    exact ⟨rfl, HA.out.bel⟩
  · by_cases h120 : 120 < (l2.length : Int)
    · clear hle
      go_enter Try.func9, Try.ntmps9
      go_wp2_with (go_at_call 11; (with_reducible refine HW.out.mono ?_); rintro e w1 ⟨rfl, h⟩; have HA := Aside0.mk h; clear h)
      go_ret
      exact ⟨rfl, HA.out.bel⟩
    · have h300 : 300 < (l3.length : Int) := by omega
      clear hle
      go_enter Try.func9, Try.ntmps9
      go_wp2_with (go_at_call 11; (with_reducible refine HW.out.mono ?_); rintro e w1 ⟨rfl, h⟩; have HA := Aside0.mk h; clear h)
      go_ret
      exact ⟨rfl, HA.out.bel⟩
theorem pair_waits {n k : Int} {s : FS} {c : RS} (h : Pair n k s c) : ∃ lf kk ff mm vv : Int, s.left = lf ∧ c.left = lf ∧ c.wk = kk ∧ c.wf = ff ∧ c.wm = mm ∧ c.wv = vv ∧ waitV s = .agg #[.int .i64 kk, .int .i64 ff, .int .i64 mm, .int .u8 vv] :=
  ⟨s.left, s.wk, s.wf, s.wm, s.wv, rfl, h.rel.left, h.rel.wk, h.rel.wf, h.rel.wm, h.rel.wv, rfl⟩
theorem cut_is {w0 w : World} {ts : List Thing} {g : Nat} {s : FS} (h : Held w0 w (fl g s :: ts)) {A : Option Addr} {c : Nat} {pick : List Int} (hp : (Kd.int .u8).C w A pick.length pick) (hc : pick.length ≤ c) (hm : s.wm ≤ 100000) {zs : List Int} (hz : cutS s pick = zs) :
    Calls Try.prog 32 #[ptr g, .slice A pick.length c] w (Made w0 zs (fl g s :: ts)) := by
  subst hz
  exact cut_walk h A c pick hp hc hm
theorem rcut_is {w0 w : World} {ts : List Thing} {r : Nat} {s : RS} (h : RHeld w0 w r s ts) {A2 : Option Addr} {c2 : Nat} {pick : List Int} (hp : (Kd.int .u8).C w A2 pick.length pick) (hc2 : pick.length ≤ c2) (hbp : Bytes pick) (hpl : pick.length ≤ 1100) (hd : s.data.length ≤ 1100) (hb : Bytes s.data) {zs : List Int} (hz : cutR s pick = zs) :
    Calls Try.prog 33 #[ptr r, .slice A2 pick.length c2] w (RMade w0 zs r s ts) := by
  subst hz
  exact rcut_walk h A2 c2 pick hp hc2 hbp hpl hd hb
theorem rh_of3 {w0 w : World} {r : Nat} {c : RS} {dv sv : Value} {a b d : Thing} {ts : List Thing} {ys : List Int} {q : List PutS} (h : Held w0 w (a :: b :: d :: box r (rcells c dv sv) rT :: dRow dv ys :: qRow sv q :: ts)) (hy : c.data = ys := by assumption) (hq : c.seq = q := by rfl) : RHeld w0 w r c (a :: b :: d :: ts) := by
  subst hy hq
  refine ⟨dv, sv, h.perm ?_⟩
  have e : (a :: b :: d :: box r (rcells c dv sv) rT :: dRow dv c.data :: qRow sv c.seq :: ts) = [a, b, d] ++ ([box r (rcells c dv sv) rT, dRow dv c.data, qRow sv c.seq] ++ ts) := rfl
  have e2 : (box r (rcells c dv sv) rT :: dRow dv c.data :: qRow sv c.seq :: a :: b :: d :: ts) = [box r (rcells c dv sv) rT, dRow dv c.data, qRow sv c.seq] ++ ([a, b, d] ++ ts) := rfl
  rw [e, e2, ← List.append_assoc, ← List.append_assoc]
  exact List.Perm.append_right ts List.perm_append_comm
/-- What the loop keeps. -/
def Kept (w W : World) (r g : Nat) (n k : Int) (s : FS) (c : RS) (t : Thing) : Prop := Pair n k s c ∧ RHeld w W r c (fl g s :: t :: [])
set_option maxHeartbeats 12800000 in
set_option maxRecDepth 20000 in
theorem flashPlays_short (a0 : Int) (A : Option Addr) (c : Nat) (l : List Int) (A2 : Option Addr) (c2 : Nat) (l2 : List SOP) (A3 : Option Addr) (c3 : Nat) (l3 : List Int) (w : World) (hr : (Kd.int .u8).C w A l.length l) (hc : l.length ≤ c) (hbl : Bytes l) (hr2 : Kd.C kOP w A2 l2.length l2) (hb2 : ∀ p ∈ l2, OpWf p) (hr3 : (Kd.int .u8).C w A3 l3.length l3) (hc3 : l3.length ≤ c3) (hb3 : Bytes l3) (hw : 0 ≤ a0 ∧ a0 ≤ 255) (hle : (l.length : Int) ≤ 40) (hle2 : (l2.length : Int) ≤ 120) (hle3 : (l3.length : Int) ≤ 300) :
    Calls Try.prog 9 #[.int .u8 a0, .slice A l.length c, .slice A2 l2.length c2, .slice A3 l3.length c3] w fun e w' => e = .returned (.bool true) ∧ Below w.heap.size w w' := by
  have HW := Lib.hid (awake_walk (Held.nil w))
  obtain ⟨n, hn⟩ : ∃ n, 1 + a0 % 4 = n := ⟨_, rfl⟩
  have hn0 : 1 ≤ n := by omega
  have hn1 : n ≤ 4 := by omega
  obtain ⟨m, hm⟩ : ∃ m, 256 * n = m := ⟨_, rfl⟩
  obtain ⟨hm0, hm1⟩ : 256 ≤ m ∧ m ≤ 1024 := by omega
  obtain ⟨hF, hL⟩ := fill_f l (by omega) (256 * n) (by omega) (by omega)
  have hbx := fill_bytes hbl (256 * n)
  have hL2 := hL
  rw [hm] at hF hL hbx hL2
  generalize fillOf l m = xs at *
  have HP0 := Aside0.mk (pair_new (n := n) (xs := xs) (by omega) hbx)
  have hxl : xs.length ≤ 100000 := by omega
  have HF := Aside0.mk hF
  have HR := Aside0.mk hr
  have HR2 := Aside0.mk hr2
  have HB2 := Aside0.mk hb2
  have HR3 := Aside0.mk hr3
  have HB3 := Aside0.mk hb3
  have HN0 := Aside0.mk hn0
  have HN1 := Aside0.mk hn1
  have HLN : Aside0 ((xs.length : Int) = 256 * n) := ⟨by omega⟩
  clear hr hr2 hr3 hb2 hb3 hbl hL hF hbx hL2
  go_enter Try.func9, Try.ntmps9
  go_wp2_with (first
    | (go_at_call 11; (with_reducible refine HW.out.mono ?_); rintro e w1 ⟨rfl, h⟩; have HA := Aside0.mk h; clear h)
    | (go_at_call 22; (with_reducible refine (keepsakeref10_Fill.calls _ _ _ l _ xs _ (Kd.C_below HR.out HA.out.bel) hc HF.out).mono ?_); rintro e w2 ⟨v2, rfl, hR, hb⟩; obtain ⟨A4, c4, rfl⟩ := Kd.R_slice hR; have HB := Aside0.mk (HA.out.row_new hR hb); have HC4 := Aside0.mk (row_cap HB.out).1; clear hR hb)
    | (go_at_call 25; (with_reducible refine (new_walk A4 c4 n xs HB.out (row_reads HB.out) HC4.out hxl).mono ?_); intro e w3 hbn; obtain ⟨g, rfl, h3⟩ := born_got hbn HN0.out (by omega) HLN.out; have HD := Aside0.mk h3; clear hbn h3)
    | (go_at_call 28; (with_reducible refine (rnew_walk A4 c4 n xs HD.out (row_reads HD.out.swap) HC4.out HN0.out (by omega) HLN.out).mono ?_); rintro e w4 ⟨r, rfl, h⟩; have HE := Aside0.mk h; clear h))
  have HK0 : Aside0 (Kept w w4 r g n ((0 : Nat) : Int) (newS n xs) (rnewS n xs) (row (Kd.int .u8) 5 (.slice A4 xs.length c4) xs)) := ⟨HP0.out, HE.out⟩
  clear HW HA HB HD HE HP0 HF HR HC4
  generalize newS n xs = s0 at *
  generalize rnewS n xs = r0 at *
  generalize hT : row (Kd.int .u8) 5 (.slice A4 xs.length c4) xs = T at *
  clear hT
  go_loopw [15] (fun i wr => ∃ (k : Nat) (s : FS) (cr : RS), k ≤ l2.length ∧ i = .int .i64 k ∧ Aside0 (Kept w wr r g n k s cr T)) (fun i _ => l2.length - (intOf i).toNat)
  case atStart => exact ⟨0, s0, r0, Nat.zero_le _, rfl, HK0⟩
  case round =>
    obtain ⟨k, s, cr, hk, rfl, hK⟩ := hrel
    clear HK0
    by_cases hlt : k < l2.length
    · obtain ⟨hP, hH⟩ := hK.out
      have HP := Aside0.mk hP
      have HH := Aside0.mk hH
      have hbelH := hH.bel
      obtain ⟨ad, rfl, hcl⟩ := ops_at HR2.out k hlt
      obtain ⟨h0, h1, h2⟩ := hcl _ hbelH
      obtain ⟨_, hw1, hw2⟩ := op_wf HB2.out k hlt
      have hy2 := u8_of hw2
      clear hcl hw1 hw2 hP hH hbelH hK
      have hlt' : (k : Int) < (l2.length : Int) := by omega
      have hk1 : (k : Int) ≤ 100000 := by omega
      generalize hy : rd_OP l2 (k : Int) = y at *
      obtain ⟨y0, y1, y2⟩ := y
      simp only at h0 h1 h2 hy2
      clear hy
      have HO := Aside0.mk (rh_box HH.out #[.int .u8 y0, .int .i64 y1, .int .u8 y2] 42)
      have hob := rh_boxat HO.out
      have b0 := cell_of_block hob 0 (.int .u8 y0) rfl
      have b1 := cell_of_block hob 1 (.int .i64 y1) rfl
      have b2 := cell_of_block hob 2 (.int .u8 y2) rfl
      clear hob
      by_cases c0 : y0 = 0
      · subst c0
        obtain ⟨cr2, hP2, hcw⟩ := pair_write (w0 := w) (r := r) HP.out HN0.out HN1.out y1 y2 hy2
        have HP2 := Aside0.mk hP2
        have HCW := Lib.hid hcw
        clear hP2 hcw
        go_wp2_with (first
          | (go_at_call 23; (with_reducible refine (rh_write HO.out y1 y2).mono ?_); rintro e w5 ⟨rfl, h⟩; have hob := rh_boxat h; have b0 := cell_of_block hob 0 (.int .u8 0) rfl; have b1 := cell_of_block hob 1 (.int .i64 y1) rfl; have b2 := cell_of_block hob 2 (.int .u8 y2) rfl; have HO2 := Aside0.mk h; clear h hob)
          | (go_at_call 29; (with_reducible refine (HCW.out _ _ HO2.out).mono ?_); rintro e w6 ⟨rfl, h⟩; have hob := rh_boxat h; have d0 := cell_of_block hob 0 (.int .u8 0) rfl; have d1 := cell_of_block hob 1 (.int .i64 y1) rfl; have d2 := cell_of_block hob 2 (.int .u8 y2) rfl; have HO3 := Aside0.mk h; clear h hob))
        clear HO b0 b1 b2
        go_loopw [19] (fun j wj => j = .int .i64 0 ∧ Aside0 (RHeld w wj r cr2 (fl g (writeS s y1 y2) :: box wr.heap.size #[.int .u8 0, .int .i64 y1, .int .u8 y2] 42 :: T :: []))) (fun _ _ => 0)
        case atStart => exact ⟨rfl, HO3⟩
        case round =>
          obtain ⟨rfl, hO2⟩ := hrel
          clear HO3 HO2 d0 d1 d2 HH HCW
          have hob := rh_boxat hO2.out
          have i0 := cell_of_block hob 0 (.int .u8 0) rfl
          have i2 := cell_of_block hob 2 (.int .u8 y2) rfl
          clear hob
          go_wp2
          obtain ⟨lf, kk, ff, mm, vv, hl1, hl2, hk5, hk6, hk7, hk8, hwv⟩ := pair_waits HP2.out
          refine start_ (n := 16) (S := (fun w' => w'.cell? ⟨r, 9, none⟩ = some (.int .i64 lf) ∧ w'.cell? ⟨r, 5, none⟩ = some (.int .i64 kk) ∧ w'.cell? ⟨r, 6, none⟩ = some (.int .i64 ff) ∧ w'.cell? ⟨r, 7, none⟩ = some (.int .i64 mm) ∧ w'.cell? ⟨r, 8, none⟩ = some (.int .u8 vv))) (ds := []) #[false, false, false, false, false, false, false, false, false, false, false, false, false, false, false, false] (by kernel_rfl) rfl rfl (rh_cells hO2.out.drew hl2 hk5 hk6 hk7 hk8) (fun hHeld => ?_)
          refine pure_ (i := 0) (N := some 117) (v := ?_) (a' := ?_) #[true, false, false, false, false, false, false, false, false, false, false, false, false, false, false, false] rfl rfl (any_of rfl (by kernel_rfl)) (fun _ _ _ h => h) (Or.inl ⟨by rfl, ?_⟩) ?_ ?_
          rotate_left
          · intro w'
            go_simp
            with_reducible rfl
          rotate_left
          · simp only [Act.put, List.setIfInBounds_toArray, List.set_cons_zero, List.set_cons_succ, i64_w, i32_w]
            rfl
          refine pure_ (i := 2) (N := some 119) (v := ?_) (a' := ?_) #[true, false, true, false, false, false, false, false, false, false, false, false, false, false, false, false] rfl rfl (any_of rfl (by kernel_rfl)) (fun _ _ _ h => h) (Or.inl ⟨by rfl, ?_⟩) ?_ ?_
          rotate_left
          · intro w'
            go_simp
            with_reducible rfl
          rotate_left
          · simp only [Act.put, List.setIfInBounds_toArray, List.set_cons_zero, List.set_cons_succ, i64_w, i32_w]
            rfl
          refine pure_ (i := 3) (N := some 120) (v := ?_) (a' := ?_) #[true, false, true, true, false, false, false, false, false, false, false, false, false, false, false, false] rfl rfl (any_of rfl (by kernel_rfl)) (fun _ _ _ h => h) (Or.inl ⟨by rfl, ?_⟩) ?_ ?_
          rotate_left
          · intro w'
            go_simp
            with_reducible rfl
          rotate_left
          · simp only [Act.put, List.setIfInBounds_toArray, List.set_cons_zero, List.set_cons_succ, i64_w, i32_w]
            rfl
          refine pure_ (i := 4) (N := some 121) (v := ?_) (a' := ?_) #[true, false, true, true, true, false, false, false, false, false, false, false, false, false, false, false] rfl rfl (any_of rfl (by kernel_rfl)) (fun _ _ _ h => h) (Or.inl ⟨by rfl, ?_⟩) ?_ ?_
          rotate_left
          · intro w'
            go_simp
            with_reducible rfl
          rotate_left
          · simp only [Act.put, List.setIfInBounds_toArray, List.set_cons_zero, List.set_cons_succ, i64_w, i32_w]
            rfl
          refine take_ (i := 5) (N := some 122) (v := ?_) (a' := ?_) #[true, false, true, true, true, true, false, false, false, false, false, false, false, false, false, false] rfl rfl (take_of rfl (by kernel_rfl)) (fun _ _ _ h => h) (Or.inl ⟨by rfl, ?_⟩) hHeld ?_ ?_
          rotate_left
          · rintro w' ⟨s0_, s1_, s2_, s3_, s4_⟩
            go_simp
            with_reducible rfl
          rotate_left
          · simp only [Act.put, List.setIfInBounds_toArray, List.set_cons_zero, List.set_cons_succ, i64_w, i32_w]
            rfl
          refine one_ (i := 1) (N := some 118) #[true, true, true, true, true, true, false, false, false, false, false, false, false, false, false, false] rfl rfl (one_of rfl (by kernel_rfl)) (by decide) (fun K hK => ?_)
          refine goes_ Try.func18 (by kernel_rfl) rfl #[ptr g] (by rfl) rfl rfl (by (try simp only [List.map_toArray, List.map_cons, List.map_nil]); first | done | rfl) ?_
          with_reducible refine (rh_left hO2.out.drew hl1).mono ?_
          rintro e w' ⟨rfl, rfl⟩
          refine ⟨_, rfl, ?_⟩
          refine hK.out _ _ (rh_cells hO2.out.drew hl2 hk5 hk6 hk7 hk8) (fun hHeld => ?_)
          clear hK K
          refine norm_ (a' := ?_) ?_ ?_
          rotate_left
          · show Act.put _ (some 118) _ = _
            simp only [Act.put, List.setIfInBounds_toArray, List.set_cons_zero, List.set_cons_succ, i64_w, i32_w]
            rfl
          refine pure_ (i := 6) (N := some 123) (v := ?_) (a' := ?_) #[true, true, true, true, true, true, true, false, false, false, false, false, false, false, false, false] rfl rfl (any_of rfl (by kernel_rfl)) (fun _ _ _ h => h) (Or.inl ⟨by rfl, ?_⟩) ?_ ?_
          rotate_left
          · intro w'
            go_simp
            with_reducible rfl
          rotate_left
          · simp only [Act.put, List.setIfInBounds_toArray, List.set_cons_zero, List.set_cons_succ, i64_w, i32_w]
            rfl
          refine pure_ (i := 7) (N := some 124) (v := ?_) (a' := ?_) #[true, true, true, true, true, true, true, true, false, false, false, false, false, false, false, false] rfl rfl (any_of rfl (by kernel_rfl)) (fun _ _ _ h => h) (Or.inl ⟨by rfl, ?_⟩) ?_ ?_
          rotate_left
          · intro w'
            go_simp
            with_reducible rfl
          rotate_left
          · simp only [Act.put, List.setIfInBounds_toArray, List.set_cons_zero, List.set_cons_succ, i64_w, i32_w]
            rfl
          refine pure_ (i := 8) (N := some 125) (v := ?_) (a' := ?_) #[true, true, true, true, true, true, true, true, true, false, false, false, false, false, false, false] rfl rfl (any_of rfl (by kernel_rfl)) (fun _ _ _ h => h) (Or.inl ⟨by rfl, ?_⟩) ?_ ?_
          rotate_left
          · intro w'
            go_simp
            with_reducible rfl
          rotate_left
          · simp only [Act.put, List.setIfInBounds_toArray, List.set_cons_zero, List.set_cons_succ, i64_w, i32_w]
            rfl
          refine pure_ (i := 10) (N := some 127) (v := ?_) (a' := ?_) #[true, true, true, true, true, true, true, true, true, false, true, false, false, false, false, false] rfl rfl (any_of rfl (by kernel_rfl)) (fun _ _ _ h => h) (Or.inl ⟨by rfl, ?_⟩) ?_ ?_
          rotate_left
          · intro w'
            go_simp
            with_reducible rfl
          rotate_left
          · simp only [Act.put, List.setIfInBounds_toArray, List.set_cons_zero, List.set_cons_succ, i64_w, i32_w]
            rfl
          refine pure_ (i := 11) (N := some 128) (v := ?_) (a' := ?_) #[true, true, true, true, true, true, true, true, true, false, true, true, false, false, false, false] rfl rfl (any_of rfl (by kernel_rfl)) (fun _ _ _ h => h) (Or.inl ⟨by rfl, ?_⟩) ?_ ?_
          rotate_left
          · intro w'
            go_simp
            with_reducible rfl
          rotate_left
          · simp only [Act.put, List.setIfInBounds_toArray, List.set_cons_zero, List.set_cons_succ, i64_w, i32_w]
            rfl
          refine pure_ (i := 12) (N := some 129) (v := ?_) (a' := ?_) #[true, true, true, true, true, true, true, true, true, false, true, true, true, false, false, false] rfl rfl (any_of rfl (by kernel_rfl)) (fun _ _ _ h => h) (Or.inl ⟨by rfl, ?_⟩) ?_ ?_
          rotate_left
          · intro w'
            go_simp
            with_reducible rfl
          rotate_left
          · simp only [Act.put, List.setIfInBounds_toArray, List.set_cons_zero, List.set_cons_succ, i64_w, i32_w]
            rfl
          refine take_ (i := 13) (N := some 130) (v := ?_) (a' := ?_) #[true, true, true, true, true, true, true, true, true, false, true, true, true, true, false, false] rfl rfl (take_of rfl (by kernel_rfl)) (fun _ _ _ h => h) (Or.inl ⟨by rfl, ?_⟩) hHeld ?_ ?_
          rotate_left
          · rintro w' ⟨s0_, s1_, s2_, s3_, s4_⟩
            go_simp
            with_reducible rfl
          rotate_left
          · simp only [Act.put, List.setIfInBounds_toArray, List.set_cons_zero, List.set_cons_succ, i64_w, i32_w]
            rfl
          refine one_ (i := 9) (N := some 126) #[true, true, true, true, true, true, true, true, true, true, true, true, true, true, false, false] rfl rfl (one_of rfl (by kernel_rfl)) (by decide) (fun K hK => ?_)
          refine goes_ Try.func27 (by kernel_rfl) rfl #[ptr g] (by rfl) rfl rfl (by (try simp only [List.map_toArray, List.map_cons, List.map_nil]); first | done | rfl) ?_
          with_reducible refine (rh_waits hO2.out.drew hwv).mono ?_
          rintro e wW ⟨rfl, h⟩
          refine ⟨_, rfl, ?_⟩
          have hJ2 := Aside0.mk h
          clear h
          refine hK.out _ _ (rh_cells hJ2.out hl2 hk5 hk6 hk7 hk8) (fun hHeld => ?_)
          clear hK K
          refine norm_ (a' := ?_) ?_ ?_
          rotate_left
          · show Act.put _ (some 126) _ = _
            simp only [Act.put, List.setIfInBounds_toArray, List.set_cons_zero, List.set_cons_succ, i64_w, i32_w]
            rfl
          refine pure_ (i := 14) (N := some 131) (v := ?_) (a' := ?_) #[true, true, true, true, true, true, true, true, true, true, true, true, true, true, true, false] rfl rfl (any_of rfl (by kernel_rfl)) (fun _ _ _ h => h) (Or.inl ⟨by rfl, ?_⟩) ?_ ?_
          rotate_left
          · intro w'
            go_simp
            with_reducible rfl
          rotate_left
          · simp only [Act.put, List.setIfInBounds_toArray, List.set_cons_zero, List.set_cons_succ, i64_w, i32_w]
            rfl
          refine pure_ (i := 15) (N := some 132) (v := ?_) (a' := ?_) #[true, true, true, true, true, true, true, true, true, true, true, true, true, true, true, true] rfl rfl (any_of rfl (by kernel_rfl)) (fun _ _ _ h => h) (Or.inl ⟨by rfl, ?_⟩) ?_ ?_
          rotate_left
          · intro w'
            go_simp
            with_reducible rfl
          rotate_left
          · simp only [Act.put, List.setIfInBounds_toArray, List.set_cons_zero, List.set_cons_succ, i64_w, i32_w]
            rfl
          refine done_ (done_of rfl (by kernel_rfl)) ?_
          clear hHeld hl1 hl2 hk5 hk6 hk7 hk8 hwv
          go_wp2
          go_roundw
          case rel => exact ⟨k + 1, writeS s y1 y2, cr2, by omega, by go_num, ⟨⟨HP2.out.more (by omega), rh_drop hJ2.out⟩⟩⟩
          case measure => simp [intOf]; omega
      · by_cases c1 : y0 = 1
        · subst c1
          obtain ⟨x, s2, cr2, hP2, hrd, hrr⟩ := pair_read (w0 := w) (r := r) (g := g) HP.out HN0.out HN1.out hk1 y1
          have HP2 := Aside0.mk hP2
          have HRD := Lib.hid hrd
          have HRR := Lib.hid hrr
          clear hP2 hrd hrr
          go_wp2_with (first
            | (go_at_call 19; (with_reducible refine (HRD.out _ _ HO.out).mono ?_); rintro e w5 ⟨rfl, h⟩; have hob := rh_boxat h; have b0 := cell_of_block hob 0 (.int .u8 1) rfl; have b1 := cell_of_block hob 1 (.int .i64 y1) rfl; have b2 := cell_of_block hob 2 (.int .u8 y2) rfl; have HO2 := Aside0.mk h; clear h hob)
            | (go_at_call 30; (with_reducible refine (HRR.out _ _ HO2.out).mono ?_); rintro e w6 ⟨rfl, h⟩; have hob := rh_boxat h; have d0 := cell_of_block hob 0 (.int .u8 1) rfl; have d1 := cell_of_block hob 1 (.int .i64 y1) rfl; have d2 := cell_of_block hob 2 (.int .u8 y2) rfl; have HO3 := Aside0.mk h; clear h hob))
          clear HO b0 b1 b2
          go_loopw [19] (fun j wj => j = .int .i64 0 ∧ Aside0 (RHeld w wj r cr2 (fl g s2 :: box wr.heap.size #[.int .u8 1, .int .i64 y1, .int .u8 y2] 42 :: T :: []))) (fun _ _ => 0)
          case atStart => exact ⟨rfl, HO3⟩
          case round =>
            obtain ⟨rfl, hO2⟩ := hrel
            clear HO3 HO2 d0 d1 d2 HH HRD HRR
            have hob := rh_boxat hO2.out
            have i0 := cell_of_block hob 0 (.int .u8 1) rfl
            have i2 := cell_of_block hob 2 (.int .u8 y2) rfl
            clear hob
            go_wp2
            obtain ⟨lf, kk, ff, mm, vv, hl1, hl2, hk5, hk6, hk7, hk8, hwv⟩ := pair_waits HP2.out
            refine start_ (n := 16) (S := (fun w' => w'.cell? ⟨r, 9, none⟩ = some (.int .i64 lf) ∧ w'.cell? ⟨r, 5, none⟩ = some (.int .i64 kk) ∧ w'.cell? ⟨r, 6, none⟩ = some (.int .i64 ff) ∧ w'.cell? ⟨r, 7, none⟩ = some (.int .i64 mm) ∧ w'.cell? ⟨r, 8, none⟩ = some (.int .u8 vv))) (ds := []) #[false, false, false, false, false, false, false, false, false, false, false, false, false, false, false, false] (by kernel_rfl) rfl rfl (rh_cells hO2.out.drew hl2 hk5 hk6 hk7 hk8) (fun hHeld => ?_)
            refine pure_ (i := 0) (N := some 117) (v := ?_) (a' := ?_) #[true, false, false, false, false, false, false, false, false, false, false, false, false, false, false, false] rfl rfl (any_of rfl (by kernel_rfl)) (fun _ _ _ h => h) (Or.inl ⟨by rfl, ?_⟩) ?_ ?_
            rotate_left
            · intro w'
              go_simp
              with_reducible rfl
            rotate_left
            · simp only [Act.put, List.setIfInBounds_toArray, List.set_cons_zero, List.set_cons_succ, i64_w, i32_w]
              rfl
            refine pure_ (i := 2) (N := some 119) (v := ?_) (a' := ?_) #[true, false, true, false, false, false, false, false, false, false, false, false, false, false, false, false] rfl rfl (any_of rfl (by kernel_rfl)) (fun _ _ _ h => h) (Or.inl ⟨by rfl, ?_⟩) ?_ ?_
            rotate_left
            · intro w'
              go_simp
              with_reducible rfl
            rotate_left
            · simp only [Act.put, List.setIfInBounds_toArray, List.set_cons_zero, List.set_cons_succ, i64_w, i32_w]
              rfl
            refine pure_ (i := 3) (N := some 120) (v := ?_) (a' := ?_) #[true, false, true, true, false, false, false, false, false, false, false, false, false, false, false, false] rfl rfl (any_of rfl (by kernel_rfl)) (fun _ _ _ h => h) (Or.inl ⟨by rfl, ?_⟩) ?_ ?_
            rotate_left
            · intro w'
              go_simp
              with_reducible rfl
            rotate_left
            · simp only [Act.put, List.setIfInBounds_toArray, List.set_cons_zero, List.set_cons_succ, i64_w, i32_w]
              rfl
            refine pure_ (i := 4) (N := some 121) (v := ?_) (a' := ?_) #[true, false, true, true, true, false, false, false, false, false, false, false, false, false, false, false] rfl rfl (any_of rfl (by kernel_rfl)) (fun _ _ _ h => h) (Or.inl ⟨by rfl, ?_⟩) ?_ ?_
            rotate_left
            · intro w'
              go_simp
              with_reducible rfl
            rotate_left
            · simp only [Act.put, List.setIfInBounds_toArray, List.set_cons_zero, List.set_cons_succ, i64_w, i32_w]
              rfl
            refine take_ (i := 5) (N := some 122) (v := ?_) (a' := ?_) #[true, false, true, true, true, true, false, false, false, false, false, false, false, false, false, false] rfl rfl (take_of rfl (by kernel_rfl)) (fun _ _ _ h => h) (Or.inl ⟨by rfl, ?_⟩) hHeld ?_ ?_
            rotate_left
            · rintro w' ⟨s0_, s1_, s2_, s3_, s4_⟩
              go_simp
              with_reducible rfl
            rotate_left
            · simp only [Act.put, List.setIfInBounds_toArray, List.set_cons_zero, List.set_cons_succ, i64_w, i32_w]
              rfl
            refine one_ (i := 1) (N := some 118) #[true, true, true, true, true, true, false, false, false, false, false, false, false, false, false, false] rfl rfl (one_of rfl (by kernel_rfl)) (by decide) (fun K hK => ?_)
            refine goes_ Try.func18 (by kernel_rfl) rfl #[ptr g] (by rfl) rfl rfl (by (try simp only [List.map_toArray, List.map_cons, List.map_nil]); first | done | rfl) ?_
            with_reducible refine (rh_left hO2.out.drew hl1).mono ?_
            rintro e w' ⟨rfl, rfl⟩
            refine ⟨_, rfl, ?_⟩
            refine hK.out _ _ (rh_cells hO2.out.drew hl2 hk5 hk6 hk7 hk8) (fun hHeld => ?_)
            clear hK K
            refine norm_ (a' := ?_) ?_ ?_
            rotate_left
            · show Act.put _ (some 118) _ = _
              simp only [Act.put, List.setIfInBounds_toArray, List.set_cons_zero, List.set_cons_succ, i64_w, i32_w]
              rfl
            refine pure_ (i := 6) (N := some 123) (v := ?_) (a' := ?_) #[true, true, true, true, true, true, true, false, false, false, false, false, false, false, false, false] rfl rfl (any_of rfl (by kernel_rfl)) (fun _ _ _ h => h) (Or.inl ⟨by rfl, ?_⟩) ?_ ?_
            rotate_left
            · intro w'
              go_simp
              with_reducible rfl
            rotate_left
            · simp only [Act.put, List.setIfInBounds_toArray, List.set_cons_zero, List.set_cons_succ, i64_w, i32_w]
              rfl
            refine pure_ (i := 7) (N := some 124) (v := ?_) (a' := ?_) #[true, true, true, true, true, true, true, true, false, false, false, false, false, false, false, false] rfl rfl (any_of rfl (by kernel_rfl)) (fun _ _ _ h => h) (Or.inl ⟨by rfl, ?_⟩) ?_ ?_
            rotate_left
            · intro w'
              go_simp
              with_reducible rfl
            rotate_left
            · simp only [Act.put, List.setIfInBounds_toArray, List.set_cons_zero, List.set_cons_succ, i64_w, i32_w]
              rfl
            refine pure_ (i := 8) (N := some 125) (v := ?_) (a' := ?_) #[true, true, true, true, true, true, true, true, true, false, false, false, false, false, false, false] rfl rfl (any_of rfl (by kernel_rfl)) (fun _ _ _ h => h) (Or.inl ⟨by rfl, ?_⟩) ?_ ?_
            rotate_left
            · intro w'
              go_simp
              with_reducible rfl
            rotate_left
            · simp only [Act.put, List.setIfInBounds_toArray, List.set_cons_zero, List.set_cons_succ, i64_w, i32_w]
              rfl
            refine pure_ (i := 10) (N := some 127) (v := ?_) (a' := ?_) #[true, true, true, true, true, true, true, true, true, false, true, false, false, false, false, false] rfl rfl (any_of rfl (by kernel_rfl)) (fun _ _ _ h => h) (Or.inl ⟨by rfl, ?_⟩) ?_ ?_
            rotate_left
            · intro w'
              go_simp
              with_reducible rfl
            rotate_left
            · simp only [Act.put, List.setIfInBounds_toArray, List.set_cons_zero, List.set_cons_succ, i64_w, i32_w]
              rfl
            refine pure_ (i := 11) (N := some 128) (v := ?_) (a' := ?_) #[true, true, true, true, true, true, true, true, true, false, true, true, false, false, false, false] rfl rfl (any_of rfl (by kernel_rfl)) (fun _ _ _ h => h) (Or.inl ⟨by rfl, ?_⟩) ?_ ?_
            rotate_left
            · intro w'
              go_simp
              with_reducible rfl
            rotate_left
            · simp only [Act.put, List.setIfInBounds_toArray, List.set_cons_zero, List.set_cons_succ, i64_w, i32_w]
              rfl
            refine pure_ (i := 12) (N := some 129) (v := ?_) (a' := ?_) #[true, true, true, true, true, true, true, true, true, false, true, true, true, false, false, false] rfl rfl (any_of rfl (by kernel_rfl)) (fun _ _ _ h => h) (Or.inl ⟨by rfl, ?_⟩) ?_ ?_
            rotate_left
            · intro w'
              go_simp
              with_reducible rfl
            rotate_left
            · simp only [Act.put, List.setIfInBounds_toArray, List.set_cons_zero, List.set_cons_succ, i64_w, i32_w]
              rfl
            refine take_ (i := 13) (N := some 130) (v := ?_) (a' := ?_) #[true, true, true, true, true, true, true, true, true, false, true, true, true, true, false, false] rfl rfl (take_of rfl (by kernel_rfl)) (fun _ _ _ h => h) (Or.inl ⟨by rfl, ?_⟩) hHeld ?_ ?_
            rotate_left
            · rintro w' ⟨s0_, s1_, s2_, s3_, s4_⟩
              go_simp
              with_reducible rfl
            rotate_left
            · simp only [Act.put, List.setIfInBounds_toArray, List.set_cons_zero, List.set_cons_succ, i64_w, i32_w]
              rfl
            refine one_ (i := 9) (N := some 126) #[true, true, true, true, true, true, true, true, true, true, true, true, true, true, false, false] rfl rfl (one_of rfl (by kernel_rfl)) (by decide) (fun K hK => ?_)
            refine goes_ Try.func27 (by kernel_rfl) rfl #[ptr g] (by rfl) rfl rfl (by (try simp only [List.map_toArray, List.map_cons, List.map_nil]); first | done | rfl) ?_
            with_reducible refine (rh_waits hO2.out.drew hwv).mono ?_
            rintro e wW ⟨rfl, h⟩
            refine ⟨_, rfl, ?_⟩
            have hJ2 := Aside0.mk h
            clear h
            refine hK.out _ _ (rh_cells hJ2.out hl2 hk5 hk6 hk7 hk8) (fun hHeld => ?_)
            clear hK K
            refine norm_ (a' := ?_) ?_ ?_
            rotate_left
            · show Act.put _ (some 126) _ = _
              simp only [Act.put, List.setIfInBounds_toArray, List.set_cons_zero, List.set_cons_succ, i64_w, i32_w]
              rfl
            refine pure_ (i := 14) (N := some 131) (v := ?_) (a' := ?_) #[true, true, true, true, true, true, true, true, true, true, true, true, true, true, true, false] rfl rfl (any_of rfl (by kernel_rfl)) (fun _ _ _ h => h) (Or.inl ⟨by rfl, ?_⟩) ?_ ?_
            rotate_left
            · intro w'
              go_simp
              with_reducible rfl
            rotate_left
            · simp only [Act.put, List.setIfInBounds_toArray, List.set_cons_zero, List.set_cons_succ, i64_w, i32_w]
              rfl
            refine pure_ (i := 15) (N := some 132) (v := ?_) (a' := ?_) #[true, true, true, true, true, true, true, true, true, true, true, true, true, true, true, true] rfl rfl (any_of rfl (by kernel_rfl)) (fun _ _ _ h => h) (Or.inl ⟨by rfl, ?_⟩) ?_ ?_
            rotate_left
            · intro w'
              go_simp
              with_reducible rfl
            rotate_left
            · simp only [Act.put, List.setIfInBounds_toArray, List.set_cons_zero, List.set_cons_succ, i64_w, i32_w]
              rfl
            refine done_ (done_of rfl (by kernel_rfl)) ?_
            clear hHeld hl1 hl2 hk5 hk6 hk7 hk8 hwv
            go_wp2
            go_roundw
            case rel => exact ⟨k + 1, s2, cr2, by omega, by go_num, ⟨⟨HP2.out.more (by omega), rh_drop hJ2.out⟩⟩⟩
            case measure => simp [intOf]; omega
        · have d0 : (y0 == 0) = false := beq_eq_false_iff_ne.2 c0
          have d1 : (y0 == 1) = false := beq_eq_false_iff_ne.2 c1
          clear c0 c1
          go_wp2
          go_loopw [19] (fun j wj => ∃ (i : Nat) (t : FS) (ct : RS), (i : Int) ≤ y2 ∧ j = .int .i64 i ∧ Aside0 (Pair n k t ct) ∧ Aside0 (RHeld w wj r ct (fl g t :: box wr.heap.size #[.int .u8 y0, .int .i64 y1, .int .u8 y2] 42 :: T :: []))) (fun j _ => y2.toNat - (intOf j).toNat)
          case atStart => exact ⟨0, s, cr, hy2.1, rfl, HP, HO⟩
          case round =>
            obtain ⟨i, t, ct, hi, rfl, hJ, hO2⟩ := hrel
            clear HO HH b0 b1 b2 h0 h1 h2 HP
            have hob := rh_boxat hO2.out
            have i0 := cell_of_block hob 0 (.int .u8 y0) rfl
            have i2 := cell_of_block hob 2 (.int .u8 y2) rfl
            clear hob
            by_cases c2 : y0 = 2
            · by_cases hil : (i : Int) < y2
              · have e2 : (y0 == 2) = true := beq_iff_eq.2 c2
                clear c2
                obtain ⟨cu, hQ2, htk⟩ := pair_tick (w0 := w) (r := r) hJ.out HN0.out HN1.out
                have HQ2 := Aside0.mk hQ2
                have HTK := Lib.hid htk
                clear hQ2 htk
                go_wp2_with (first
                  | (go_at_call 24; (with_reducible refine (rh_tick hO2.out hJ.out.inv.good).mono ?_); rintro e w5 ⟨rfl, h⟩; have HO3 := Aside0.mk h; clear h)
                  | (go_at_call 31; (with_reducible refine (HTK.out _ _ HO3.out).mono ?_); rintro e w6 ⟨rfl, h⟩; have HO4 := Aside0.mk h; clear h))
                go_roundw
                case rel => exact ⟨i + 1, _, cu, by omega, by go_num, HQ2, HO4⟩
                case measure => simp [intOf]; omega
              · have e2 : (y0 == 2) = true := beq_iff_eq.2 c2
                clear c2
                go_wp2
                obtain ⟨lf, kk, ff, mm, vv, hl1, hl2, hk5, hk6, hk7, hk8, hwv⟩ := pair_waits hJ.out
                refine start_ (n := 16) (S := (fun w' => w'.cell? ⟨r, 9, none⟩ = some (.int .i64 lf) ∧ w'.cell? ⟨r, 5, none⟩ = some (.int .i64 kk) ∧ w'.cell? ⟨r, 6, none⟩ = some (.int .i64 ff) ∧ w'.cell? ⟨r, 7, none⟩ = some (.int .i64 mm) ∧ w'.cell? ⟨r, 8, none⟩ = some (.int .u8 vv))) (ds := []) #[false, false, false, false, false, false, false, false, false, false, false, false, false, false, false, false] (by kernel_rfl) rfl rfl (rh_cells hO2.out.drew hl2 hk5 hk6 hk7 hk8) (fun hHeld => ?_)
                refine pure_ (i := 0) (N := some 117) (v := ?_) (a' := ?_) #[true, false, false, false, false, false, false, false, false, false, false, false, false, false, false, false] rfl rfl (any_of rfl (by kernel_rfl)) (fun _ _ _ h => h) (Or.inl ⟨by rfl, ?_⟩) ?_ ?_
                rotate_left
                · intro w'
                  go_simp
                  with_reducible rfl
                rotate_left
                · simp only [Act.put, List.setIfInBounds_toArray, List.set_cons_zero, List.set_cons_succ, i64_w, i32_w]
                  rfl
                refine pure_ (i := 2) (N := some 119) (v := ?_) (a' := ?_) #[true, false, true, false, false, false, false, false, false, false, false, false, false, false, false, false] rfl rfl (any_of rfl (by kernel_rfl)) (fun _ _ _ h => h) (Or.inl ⟨by rfl, ?_⟩) ?_ ?_
                rotate_left
                · intro w'
                  go_simp
                  with_reducible rfl
                rotate_left
                · simp only [Act.put, List.setIfInBounds_toArray, List.set_cons_zero, List.set_cons_succ, i64_w, i32_w]
                  rfl
                refine pure_ (i := 3) (N := some 120) (v := ?_) (a' := ?_) #[true, false, true, true, false, false, false, false, false, false, false, false, false, false, false, false] rfl rfl (any_of rfl (by kernel_rfl)) (fun _ _ _ h => h) (Or.inl ⟨by rfl, ?_⟩) ?_ ?_
                rotate_left
                · intro w'
                  go_simp
                  with_reducible rfl
                rotate_left
                · simp only [Act.put, List.setIfInBounds_toArray, List.set_cons_zero, List.set_cons_succ, i64_w, i32_w]
                  rfl
                refine pure_ (i := 4) (N := some 121) (v := ?_) (a' := ?_) #[true, false, true, true, true, false, false, false, false, false, false, false, false, false, false, false] rfl rfl (any_of rfl (by kernel_rfl)) (fun _ _ _ h => h) (Or.inl ⟨by rfl, ?_⟩) ?_ ?_
                rotate_left
                · intro w'
                  go_simp
                  with_reducible rfl
                rotate_left
                · simp only [Act.put, List.setIfInBounds_toArray, List.set_cons_zero, List.set_cons_succ, i64_w, i32_w]
                  rfl
                refine take_ (i := 5) (N := some 122) (v := ?_) (a' := ?_) #[true, false, true, true, true, true, false, false, false, false, false, false, false, false, false, false] rfl rfl (take_of rfl (by kernel_rfl)) (fun _ _ _ h => h) (Or.inl ⟨by rfl, ?_⟩) hHeld ?_ ?_
                rotate_left
                · rintro w' ⟨s0_, s1_, s2_, s3_, s4_⟩
                  go_simp
                  with_reducible rfl
                rotate_left
                · simp only [Act.put, List.setIfInBounds_toArray, List.set_cons_zero, List.set_cons_succ, i64_w, i32_w]
                  rfl
                refine one_ (i := 1) (N := some 118) #[true, true, true, true, true, true, false, false, false, false, false, false, false, false, false, false] rfl rfl (one_of rfl (by kernel_rfl)) (by decide) (fun K hK => ?_)
                refine goes_ Try.func18 (by kernel_rfl) rfl #[ptr g] (by rfl) rfl rfl (by (try simp only [List.map_toArray, List.map_cons, List.map_nil]); first | done | rfl) ?_
                with_reducible refine (rh_left hO2.out.drew hl1).mono ?_
                rintro e w' ⟨rfl, rfl⟩
                refine ⟨_, rfl, ?_⟩
                refine hK.out _ _ (rh_cells hO2.out.drew hl2 hk5 hk6 hk7 hk8) (fun hHeld => ?_)
                clear hK K
                refine norm_ (a' := ?_) ?_ ?_
                rotate_left
                · show Act.put _ (some 118) _ = _
                  simp only [Act.put, List.setIfInBounds_toArray, List.set_cons_zero, List.set_cons_succ, i64_w, i32_w]
                  rfl
                refine pure_ (i := 6) (N := some 123) (v := ?_) (a' := ?_) #[true, true, true, true, true, true, true, false, false, false, false, false, false, false, false, false] rfl rfl (any_of rfl (by kernel_rfl)) (fun _ _ _ h => h) (Or.inl ⟨by rfl, ?_⟩) ?_ ?_
                rotate_left
                · intro w'
                  go_simp
                  with_reducible rfl
                rotate_left
                · simp only [Act.put, List.setIfInBounds_toArray, List.set_cons_zero, List.set_cons_succ, i64_w, i32_w]
                  rfl
                refine pure_ (i := 7) (N := some 124) (v := ?_) (a' := ?_) #[true, true, true, true, true, true, true, true, false, false, false, false, false, false, false, false] rfl rfl (any_of rfl (by kernel_rfl)) (fun _ _ _ h => h) (Or.inl ⟨by rfl, ?_⟩) ?_ ?_
                rotate_left
                · intro w'
                  go_simp
                  with_reducible rfl
                rotate_left
                · simp only [Act.put, List.setIfInBounds_toArray, List.set_cons_zero, List.set_cons_succ, i64_w, i32_w]
                  rfl
                refine pure_ (i := 8) (N := some 125) (v := ?_) (a' := ?_) #[true, true, true, true, true, true, true, true, true, false, false, false, false, false, false, false] rfl rfl (any_of rfl (by kernel_rfl)) (fun _ _ _ h => h) (Or.inl ⟨by rfl, ?_⟩) ?_ ?_
                rotate_left
                · intro w'
                  go_simp
                  with_reducible rfl
                rotate_left
                · simp only [Act.put, List.setIfInBounds_toArray, List.set_cons_zero, List.set_cons_succ, i64_w, i32_w]
                  rfl
                refine pure_ (i := 10) (N := some 127) (v := ?_) (a' := ?_) #[true, true, true, true, true, true, true, true, true, false, true, false, false, false, false, false] rfl rfl (any_of rfl (by kernel_rfl)) (fun _ _ _ h => h) (Or.inl ⟨by rfl, ?_⟩) ?_ ?_
                rotate_left
                · intro w'
                  go_simp
                  with_reducible rfl
                rotate_left
                · simp only [Act.put, List.setIfInBounds_toArray, List.set_cons_zero, List.set_cons_succ, i64_w, i32_w]
                  rfl
                refine pure_ (i := 11) (N := some 128) (v := ?_) (a' := ?_) #[true, true, true, true, true, true, true, true, true, false, true, true, false, false, false, false] rfl rfl (any_of rfl (by kernel_rfl)) (fun _ _ _ h => h) (Or.inl ⟨by rfl, ?_⟩) ?_ ?_
                rotate_left
                · intro w'
                  go_simp
                  with_reducible rfl
                rotate_left
                · simp only [Act.put, List.setIfInBounds_toArray, List.set_cons_zero, List.set_cons_succ, i64_w, i32_w]
                  rfl
                refine pure_ (i := 12) (N := some 129) (v := ?_) (a' := ?_) #[true, true, true, true, true, true, true, true, true, false, true, true, true, false, false, false] rfl rfl (any_of rfl (by kernel_rfl)) (fun _ _ _ h => h) (Or.inl ⟨by rfl, ?_⟩) ?_ ?_
                rotate_left
                · intro w'
                  go_simp
                  with_reducible rfl
                rotate_left
                · simp only [Act.put, List.setIfInBounds_toArray, List.set_cons_zero, List.set_cons_succ, i64_w, i32_w]
                  rfl
                refine take_ (i := 13) (N := some 130) (v := ?_) (a' := ?_) #[true, true, true, true, true, true, true, true, true, false, true, true, true, true, false, false] rfl rfl (take_of rfl (by kernel_rfl)) (fun _ _ _ h => h) (Or.inl ⟨by rfl, ?_⟩) hHeld ?_ ?_
                rotate_left
                · rintro w' ⟨s0_, s1_, s2_, s3_, s4_⟩
                  go_simp
                  with_reducible rfl
                rotate_left
                · simp only [Act.put, List.setIfInBounds_toArray, List.set_cons_zero, List.set_cons_succ, i64_w, i32_w]
                  rfl
                refine one_ (i := 9) (N := some 126) #[true, true, true, true, true, true, true, true, true, true, true, true, true, true, false, false] rfl rfl (one_of rfl (by kernel_rfl)) (by decide) (fun K hK => ?_)
                refine goes_ Try.func27 (by kernel_rfl) rfl #[ptr g] (by rfl) rfl rfl (by (try simp only [List.map_toArray, List.map_cons, List.map_nil]); first | done | rfl) ?_
                with_reducible refine (rh_waits hO2.out.drew hwv).mono ?_
                rintro e wW ⟨rfl, h⟩
                refine ⟨_, rfl, ?_⟩
                have hJ2 := Aside0.mk h
                clear h
                refine hK.out _ _ (rh_cells hJ2.out hl2 hk5 hk6 hk7 hk8) (fun hHeld => ?_)
                clear hK K
                refine norm_ (a' := ?_) ?_ ?_
                rotate_left
                · show Act.put _ (some 126) _ = _
                  simp only [Act.put, List.setIfInBounds_toArray, List.set_cons_zero, List.set_cons_succ, i64_w, i32_w]
                  rfl
                refine pure_ (i := 14) (N := some 131) (v := ?_) (a' := ?_) #[true, true, true, true, true, true, true, true, true, true, true, true, true, true, true, false] rfl rfl (any_of rfl (by kernel_rfl)) (fun _ _ _ h => h) (Or.inl ⟨by rfl, ?_⟩) ?_ ?_
                rotate_left
                · intro w'
                  go_simp
                  with_reducible rfl
                rotate_left
                · simp only [Act.put, List.setIfInBounds_toArray, List.set_cons_zero, List.set_cons_succ, i64_w, i32_w]
                  rfl
                refine pure_ (i := 15) (N := some 132) (v := ?_) (a' := ?_) #[true, true, true, true, true, true, true, true, true, true, true, true, true, true, true, true] rfl rfl (any_of rfl (by kernel_rfl)) (fun _ _ _ h => h) (Or.inl ⟨by rfl, ?_⟩) ?_ ?_
                rotate_left
                · intro w'
                  go_simp
                  with_reducible rfl
                rotate_left
                · simp only [Act.put, List.setIfInBounds_toArray, List.set_cons_zero, List.set_cons_succ, i64_w, i32_w]
                  rfl
                refine done_ (done_of rfl (by kernel_rfl)) ?_
                clear hHeld hl1 hl2 hk5 hk6 hk7 hk8 hwv
                go_wp2
                go_roundw
                case rel => exact ⟨k + 1, t, ct, by omega, by go_num, ⟨⟨hJ.out.more (by omega), rh_drop hJ2.out⟩⟩⟩
                case measure => simp [intOf]; omega
            · have e2 : (y0 == 2) = false := beq_eq_false_iff_ne.2 c2
              clear c2
              go_wp2
              obtain ⟨lf, kk, ff, mm, vv, hl1, hl2, hk5, hk6, hk7, hk8, hwv⟩ := pair_waits hJ.out
              refine start_ (n := 16) (S := (fun w' => w'.cell? ⟨r, 9, none⟩ = some (.int .i64 lf) ∧ w'.cell? ⟨r, 5, none⟩ = some (.int .i64 kk) ∧ w'.cell? ⟨r, 6, none⟩ = some (.int .i64 ff) ∧ w'.cell? ⟨r, 7, none⟩ = some (.int .i64 mm) ∧ w'.cell? ⟨r, 8, none⟩ = some (.int .u8 vv))) (ds := []) #[false, false, false, false, false, false, false, false, false, false, false, false, false, false, false, false] (by kernel_rfl) rfl rfl (rh_cells hO2.out.drew hl2 hk5 hk6 hk7 hk8) (fun hHeld => ?_)
              refine pure_ (i := 0) (N := some 117) (v := ?_) (a' := ?_) #[true, false, false, false, false, false, false, false, false, false, false, false, false, false, false, false] rfl rfl (any_of rfl (by kernel_rfl)) (fun _ _ _ h => h) (Or.inl ⟨by rfl, ?_⟩) ?_ ?_
              rotate_left
              · intro w'
                go_simp
                with_reducible rfl
              rotate_left
              · simp only [Act.put, List.setIfInBounds_toArray, List.set_cons_zero, List.set_cons_succ, i64_w, i32_w]
                rfl
              refine pure_ (i := 2) (N := some 119) (v := ?_) (a' := ?_) #[true, false, true, false, false, false, false, false, false, false, false, false, false, false, false, false] rfl rfl (any_of rfl (by kernel_rfl)) (fun _ _ _ h => h) (Or.inl ⟨by rfl, ?_⟩) ?_ ?_
              rotate_left
              · intro w'
                go_simp
                with_reducible rfl
              rotate_left
              · simp only [Act.put, List.setIfInBounds_toArray, List.set_cons_zero, List.set_cons_succ, i64_w, i32_w]
                rfl
              refine pure_ (i := 3) (N := some 120) (v := ?_) (a' := ?_) #[true, false, true, true, false, false, false, false, false, false, false, false, false, false, false, false] rfl rfl (any_of rfl (by kernel_rfl)) (fun _ _ _ h => h) (Or.inl ⟨by rfl, ?_⟩) ?_ ?_
              rotate_left
              · intro w'
                go_simp
                with_reducible rfl
              rotate_left
              · simp only [Act.put, List.setIfInBounds_toArray, List.set_cons_zero, List.set_cons_succ, i64_w, i32_w]
                rfl
              refine pure_ (i := 4) (N := some 121) (v := ?_) (a' := ?_) #[true, false, true, true, true, false, false, false, false, false, false, false, false, false, false, false] rfl rfl (any_of rfl (by kernel_rfl)) (fun _ _ _ h => h) (Or.inl ⟨by rfl, ?_⟩) ?_ ?_
              rotate_left
              · intro w'
                go_simp
                with_reducible rfl
              rotate_left
              · simp only [Act.put, List.setIfInBounds_toArray, List.set_cons_zero, List.set_cons_succ, i64_w, i32_w]
                rfl
              refine take_ (i := 5) (N := some 122) (v := ?_) (a' := ?_) #[true, false, true, true, true, true, false, false, false, false, false, false, false, false, false, false] rfl rfl (take_of rfl (by kernel_rfl)) (fun _ _ _ h => h) (Or.inl ⟨by rfl, ?_⟩) hHeld ?_ ?_
              rotate_left
              · rintro w' ⟨s0_, s1_, s2_, s3_, s4_⟩
                go_simp
                with_reducible rfl
              rotate_left
              · simp only [Act.put, List.setIfInBounds_toArray, List.set_cons_zero, List.set_cons_succ, i64_w, i32_w]
                rfl
              refine one_ (i := 1) (N := some 118) #[true, true, true, true, true, true, false, false, false, false, false, false, false, false, false, false] rfl rfl (one_of rfl (by kernel_rfl)) (by decide) (fun K hK => ?_)
              refine goes_ Try.func18 (by kernel_rfl) rfl #[ptr g] (by rfl) rfl rfl (by (try simp only [List.map_toArray, List.map_cons, List.map_nil]); first | done | rfl) ?_
              with_reducible refine (rh_left hO2.out.drew hl1).mono ?_
              rintro e w' ⟨rfl, rfl⟩
              refine ⟨_, rfl, ?_⟩
              refine hK.out _ _ (rh_cells hO2.out.drew hl2 hk5 hk6 hk7 hk8) (fun hHeld => ?_)
              clear hK K
              refine norm_ (a' := ?_) ?_ ?_
              rotate_left
              · show Act.put _ (some 118) _ = _
                simp only [Act.put, List.setIfInBounds_toArray, List.set_cons_zero, List.set_cons_succ, i64_w, i32_w]
                rfl
              refine pure_ (i := 6) (N := some 123) (v := ?_) (a' := ?_) #[true, true, true, true, true, true, true, false, false, false, false, false, false, false, false, false] rfl rfl (any_of rfl (by kernel_rfl)) (fun _ _ _ h => h) (Or.inl ⟨by rfl, ?_⟩) ?_ ?_
              rotate_left
              · intro w'
                go_simp
                with_reducible rfl
              rotate_left
              · simp only [Act.put, List.setIfInBounds_toArray, List.set_cons_zero, List.set_cons_succ, i64_w, i32_w]
                rfl
              refine pure_ (i := 7) (N := some 124) (v := ?_) (a' := ?_) #[true, true, true, true, true, true, true, true, false, false, false, false, false, false, false, false] rfl rfl (any_of rfl (by kernel_rfl)) (fun _ _ _ h => h) (Or.inl ⟨by rfl, ?_⟩) ?_ ?_
              rotate_left
              · intro w'
                go_simp
                with_reducible rfl
              rotate_left
              · simp only [Act.put, List.setIfInBounds_toArray, List.set_cons_zero, List.set_cons_succ, i64_w, i32_w]
                rfl
              refine pure_ (i := 8) (N := some 125) (v := ?_) (a' := ?_) #[true, true, true, true, true, true, true, true, true, false, false, false, false, false, false, false] rfl rfl (any_of rfl (by kernel_rfl)) (fun _ _ _ h => h) (Or.inl ⟨by rfl, ?_⟩) ?_ ?_
              rotate_left
              · intro w'
                go_simp
                with_reducible rfl
              rotate_left
              · simp only [Act.put, List.setIfInBounds_toArray, List.set_cons_zero, List.set_cons_succ, i64_w, i32_w]
                rfl
              refine pure_ (i := 10) (N := some 127) (v := ?_) (a' := ?_) #[true, true, true, true, true, true, true, true, true, false, true, false, false, false, false, false] rfl rfl (any_of rfl (by kernel_rfl)) (fun _ _ _ h => h) (Or.inl ⟨by rfl, ?_⟩) ?_ ?_
              rotate_left
              · intro w'
                go_simp
                with_reducible rfl
              rotate_left
              · simp only [Act.put, List.setIfInBounds_toArray, List.set_cons_zero, List.set_cons_succ, i64_w, i32_w]
                rfl
              refine pure_ (i := 11) (N := some 128) (v := ?_) (a' := ?_) #[true, true, true, true, true, true, true, true, true, false, true, true, false, false, false, false] rfl rfl (any_of rfl (by kernel_rfl)) (fun _ _ _ h => h) (Or.inl ⟨by rfl, ?_⟩) ?_ ?_
              rotate_left
              · intro w'
                go_simp
                with_reducible rfl
              rotate_left
              · simp only [Act.put, List.setIfInBounds_toArray, List.set_cons_zero, List.set_cons_succ, i64_w, i32_w]
                rfl
              refine pure_ (i := 12) (N := some 129) (v := ?_) (a' := ?_) #[true, true, true, true, true, true, true, true, true, false, true, true, true, false, false, false] rfl rfl (any_of rfl (by kernel_rfl)) (fun _ _ _ h => h) (Or.inl ⟨by rfl, ?_⟩) ?_ ?_
              rotate_left
              · intro w'
                go_simp
                with_reducible rfl
              rotate_left
              · simp only [Act.put, List.setIfInBounds_toArray, List.set_cons_zero, List.set_cons_succ, i64_w, i32_w]
                rfl
              refine take_ (i := 13) (N := some 130) (v := ?_) (a' := ?_) #[true, true, true, true, true, true, true, true, true, false, true, true, true, true, false, false] rfl rfl (take_of rfl (by kernel_rfl)) (fun _ _ _ h => h) (Or.inl ⟨by rfl, ?_⟩) hHeld ?_ ?_
              rotate_left
              · rintro w' ⟨s0_, s1_, s2_, s3_, s4_⟩
                go_simp
                with_reducible rfl
              rotate_left
              · simp only [Act.put, List.setIfInBounds_toArray, List.set_cons_zero, List.set_cons_succ, i64_w, i32_w]
                rfl
              refine one_ (i := 9) (N := some 126) #[true, true, true, true, true, true, true, true, true, true, true, true, true, true, false, false] rfl rfl (one_of rfl (by kernel_rfl)) (by decide) (fun K hK => ?_)
              refine goes_ Try.func27 (by kernel_rfl) rfl #[ptr g] (by rfl) rfl rfl (by (try simp only [List.map_toArray, List.map_cons, List.map_nil]); first | done | rfl) ?_
              with_reducible refine (rh_waits hO2.out.drew hwv).mono ?_
              rintro e wW ⟨rfl, h⟩
              refine ⟨_, rfl, ?_⟩
              have hJ2 := Aside0.mk h
              clear h
              refine hK.out _ _ (rh_cells hJ2.out hl2 hk5 hk6 hk7 hk8) (fun hHeld => ?_)
              clear hK K
              refine norm_ (a' := ?_) ?_ ?_
              rotate_left
              · show Act.put _ (some 126) _ = _
                simp only [Act.put, List.setIfInBounds_toArray, List.set_cons_zero, List.set_cons_succ, i64_w, i32_w]
                rfl
              refine pure_ (i := 14) (N := some 131) (v := ?_) (a' := ?_) #[true, true, true, true, true, true, true, true, true, true, true, true, true, true, true, false] rfl rfl (any_of rfl (by kernel_rfl)) (fun _ _ _ h => h) (Or.inl ⟨by rfl, ?_⟩) ?_ ?_
              rotate_left
              · intro w'
                go_simp
                with_reducible rfl
              rotate_left
              · simp only [Act.put, List.setIfInBounds_toArray, List.set_cons_zero, List.set_cons_succ, i64_w, i32_w]
                rfl
              refine pure_ (i := 15) (N := some 132) (v := ?_) (a' := ?_) #[true, true, true, true, true, true, true, true, true, true, true, true, true, true, true, true] rfl rfl (any_of rfl (by kernel_rfl)) (fun _ _ _ h => h) (Or.inl ⟨by rfl, ?_⟩) ?_ ?_
              rotate_left
              · intro w'
                go_simp
                with_reducible rfl
              rotate_left
              · simp only [Act.put, List.setIfInBounds_toArray, List.set_cons_zero, List.set_cons_succ, i64_w, i32_w]
                rfl
              refine done_ (done_of rfl (by kernel_rfl)) ?_
              clear hHeld hl1 hl2 hk5 hk6 hk7 hk8 hwv
              go_wp2
              go_roundw
              case rel => exact ⟨k + 1, t, ct, by omega, by go_num, ⟨⟨hJ.out.more (by omega), rh_drop hJ2.out⟩⟩⟩
              case measure => simp [intOf]; omega
    · obtain rfl : k = l2.length := by omega
      have hlt' : ¬ (l2.length : Int) < (l2.length : Int) := by omega
      obtain ⟨hP, hH⟩ := hK.out
      clear hlt hk hK
      have hrd := hP.rel.data
      have hln := hP.inv.len
      have hg4 := hP.inv.good.fm
      have hg3 := hP.inv.good.f0
      have hrz := (rel_cut hP.inv hP.rel l3).symm
      have hzl0 := cut_len s l3
      have hyb : Bytes cr.data := by rw [hrd]; exact hP.inv.bytes
      obtain ⟨Ar, nr, sv, hh, hcr, hCr⟩ := rlen hH
      obtain ⟨ys, hys⟩ : ∃ ys, s.data = ys := ⟨_, rfl⟩
      obtain ⟨zs, hzs⟩ : ∃ zs, cutS s l3 = zs := ⟨_, rfl⟩
      rw [hys] at hrd hln hg4 hzl0
      rw [hzs] at hrz hzl0
      rw [hrd] at hh hcr
      have hyl : ys.length ≤ 100000 := by omega
      have hzl : zs.length ≤ 100000 := by omega
      have hyd : cr.data.length ≤ 1100 := by rw [hrd]; omega
      have hwm : s.wm ≤ 100000 := by omega
      have hl3 : l3.length ≤ 1100 := by omega
      have HF := Aside0.mk hh.fourth
      clear hh hCr hH hP hln hg4 hg3 hzl0
      go_wp2
      refine start_ (n := 20) (S := (fun w' => w'.cell? ⟨r, 1, none⟩ = some (.slice Ar ys.length nr))) (ds := [16, 17]) #[false, false, false, false, false, false, false, false, false, false, false, false, false, false, false, false, false, false, false, false] (by kernel_rfl) rfl rfl (rcell HF.out.drew.swap 1 (.slice Ar ys.length nr) rfl) (fun hHeld => ?_)
      refine pure_ (i := 0) (N := some 133) (v := ?_) (a' := ?_) #[true, false, false, false, false, false, false, false, false, false, false, false, false, false, false, false, false, false, false, false] rfl rfl (any_of rfl (by kernel_rfl)) (fun _ _ _ h => h) (Or.inl ⟨by rfl, ?_⟩) ?_ ?_
      rotate_left
      · intro w'
        go_simp
        with_reducible rfl
      rotate_left
      · simp only [Act.put, List.setIfInBounds_toArray, List.set_cons_zero, List.set_cons_succ, i64_w, i32_w]
        rfl
      refine pure_ (i := 1) (N := some 134) (v := ?_) (a' := ?_) #[true, true, false, false, false, false, false, false, false, false, false, false, false, false, false, false, false, false, false, false] rfl rfl (any_of rfl (by kernel_rfl)) (fun _ _ _ h => h) (Or.inl ⟨by rfl, ?_⟩) ?_ ?_
      rotate_left
      · intro w'
        go_simp
        with_reducible rfl
      rotate_left
      · simp only [Act.put, List.setIfInBounds_toArray, List.set_cons_zero, List.set_cons_succ, i64_w, i32_w]
        rfl
      refine pure_ (i := 2) (N := some 135) (v := ?_) (a' := ?_) #[true, true, true, false, false, false, false, false, false, false, false, false, false, false, false, false, false, false, false, false] rfl rfl (any_of rfl (by kernel_rfl)) (fun _ _ _ h => h) (Or.inl ⟨by rfl, ?_⟩) ?_ ?_
      rotate_left
      · intro w'
        go_simp
        with_reducible rfl
      rotate_left
      · simp only [Act.put, List.setIfInBounds_toArray, List.set_cons_zero, List.set_cons_succ, i64_w, i32_w]
        rfl
      refine pure_ (i := 4) (N := some 137) (v := ?_) (a' := ?_) #[true, true, true, false, true, false, false, false, false, false, false, false, false, false, false, false, false, false, false, false] rfl rfl (any_of rfl (by kernel_rfl)) (fun _ _ _ h => h) (Or.inl ⟨by rfl, ?_⟩) ?_ ?_
      rotate_left
      · intro w'
        go_simp
        with_reducible rfl
      rotate_left
      · simp only [Act.put, List.setIfInBounds_toArray, List.set_cons_zero, List.set_cons_succ, i64_w, i32_w]
        rfl
      refine pure_ (i := 5) (N := some 138) (v := ?_) (a' := ?_) #[true, true, true, false, true, true, false, false, false, false, false, false, false, false, false, false, false, false, false, false] rfl rfl (any_of rfl (by kernel_rfl)) (fun _ _ _ h => h) (Or.inl ⟨by rfl, ?_⟩) ?_ ?_
      rotate_left
      · intro w'
        go_simp
        with_reducible rfl
      rotate_left
      · simp only [Act.put, List.setIfInBounds_toArray, List.set_cons_zero, List.set_cons_succ, i64_w, i32_w]
        rfl
      refine pure_ (i := 6) (N := some 139) (v := ?_) (a' := ?_) #[true, true, true, false, true, true, true, false, false, false, false, false, false, false, false, false, false, false, false, false] rfl rfl (any_of rfl (by kernel_rfl)) (fun _ _ _ h => h) (Or.inl ⟨by rfl, ?_⟩) ?_ ?_
      rotate_left
      · intro w'
        go_simp
        with_reducible rfl
      rotate_left
      · simp only [Act.put, List.setIfInBounds_toArray, List.set_cons_zero, List.set_cons_succ, i64_w, i32_w]
        rfl
      refine take_ (i := 7) (N := some 140) (v := ?_) (a' := ?_) #[true, true, true, false, true, true, true, true, false, false, false, false, false, false, false, false, false, false, false, false] rfl rfl (take_of rfl (by kernel_rfl)) (fun _ _ _ h => h) (Or.inl ⟨by rfl, ?_⟩) hHeld ?_ ?_
      rotate_left
      · intro w' s0_
        go_simp
        with_reducible rfl
      rotate_left
      · simp only [Act.put, List.setIfInBounds_toArray, List.set_cons_zero, List.set_cons_succ, i64_w, i32_w]
        rfl
      refine one_ (i := 3) (N := some 136) #[true, true, true, true, true, true, true, true, false, false, false, false, false, false, false, false, false, false, false, false] rfl rfl (one_of rfl (by kernel_rfl)) (by decide) (fun K hK => ?_)
      refine goes_ Try.func13 (by kernel_rfl) rfl #[ptr g] (by rfl) rfl rfl (by (try simp only [List.map_toArray, List.map_cons, List.map_nil]); first | done | rfl) ?_
      with_reducible refine (bytes_is HF.out.drew hys).mono ?_
      rintro e v1 ⟨u1, rfl, h⟩
      refine ⟨_, rfl, ?_⟩
      obtain ⟨A5, n5, rfl, hn5, _⟩ := h.row_at
      have HG := Aside0.mk h
      clear h
      refine hK.out _ _ (rcell HG.out.third 1 (.slice Ar ys.length nr) rfl) (fun hHeld => ?_)
      clear hK K
      refine norm_ (a' := ?_) ?_ ?_
      rotate_left
      · show Act.put _ (some 136) _ = _
        simp only [Act.put, List.setIfInBounds_toArray, List.set_cons_zero, List.set_cons_succ, i64_w, i32_w]
        rfl
      refine one_ (i := 8) (N := some 141) #[true, true, true, true, true, true, true, true, true, false, false, false, false, false, false, false, false, false, false, false] rfl rfl (one_of rfl (by kernel_rfl)) (by decide) (fun K hK => ?_)
      refine goes_ Try.func17 (by kernel_rfl) rfl #[.slice A5 ys.length n5, .slice Ar ys.length nr] (by rfl) rfl rfl (by (try simp only [List.map_toArray, List.map_cons, List.map_nil]); first | done | rfl) ?_
      with_reducible refine (same_rows (row_reads HG.out) (row_reads HG.out.fourth) rfl hn5 hcr hyl).mono ?_
      rintro e v2 ⟨rfl, hd⟩
      refine ⟨_, rfl, ?_⟩
      have HG2 := Aside0.mk (HG.out.below hd.below)
      clear hd
      refine hK.out _ _ (rcell HG2.out.third 1 (.slice Ar ys.length nr) rfl) (fun hHeld => ?_)
      clear hK K
      refine norm_ (a' := ?_) ?_ ?_
      rotate_left
      · show Act.put _ (some 141) _ = _
        simp only [Act.put, List.setIfInBounds_toArray, List.set_cons_zero, List.set_cons_succ, i64_w, i32_w]
        rfl
      refine pure_ (i := 9) (N := some 142) (v := ?_) (a' := ?_) #[true, true, true, true, true, true, true, true, true, true, false, false, false, false, false, false, false, false, false, false] rfl rfl (any_of rfl (by kernel_rfl)) (fun _ _ _ h => h) (Or.inl ⟨by rfl, ?_⟩) ?_ ?_
      rotate_left
      · intro w'
        go_simp
        with_reducible rfl
      rotate_left
      · simp only [Act.put, List.setIfInBounds_toArray, List.set_cons_zero, List.set_cons_succ, i64_w, i32_w]
        rfl
      refine pure_ (i := 10) (N := some 143) (v := ?_) (a' := ?_) #[true, true, true, true, true, true, true, true, true, true, true, false, false, false, false, false, false, false, false, false] rfl rfl (any_of rfl (by kernel_rfl)) (fun _ _ _ h => h) (Or.inl ⟨by rfl, ?_⟩) ?_ ?_
      rotate_left
      · intro w'
        go_simp
        with_reducible rfl
      rotate_left
      · simp only [Act.put, List.setIfInBounds_toArray, List.set_cons_zero, List.set_cons_succ, i64_w, i32_w]
        rfl
      refine pure_ (i := 11) (N := some 144) (v := ?_) (a' := ?_) #[true, true, true, true, true, true, true, true, true, true, true, true, false, false, false, false, false, false, false, false] rfl rfl (any_of rfl (by kernel_rfl)) (fun _ _ _ h => h) (Or.inl ⟨by rfl, ?_⟩) ?_ ?_
      rotate_left
      · intro w'
        go_simp
        with_reducible rfl
      rotate_left
      · simp only [Act.put, List.setIfInBounds_toArray, List.set_cons_zero, List.set_cons_succ, i64_w, i32_w]
        rfl
      refine pure_ (i := 12) (N := some 145) (v := ?_) (a' := ?_) #[true, true, true, true, true, true, true, true, true, true, true, true, true, false, false, false, false, false, false, false] rfl rfl (any_of rfl (by kernel_rfl)) (fun _ _ _ h => h) (Or.inl ⟨by rfl, ?_⟩) ?_ ?_
      rotate_left
      · intro w'
        go_simp
        with_reducible rfl
      rotate_left
      · simp only [Act.put, List.setIfInBounds_toArray, List.set_cons_zero, List.set_cons_succ, i64_w, i32_w]
        rfl
      refine pure_ (i := 14) (N := some 147) (v := ?_) (a' := ?_) #[true, true, true, true, true, true, true, true, true, true, true, true, true, false, true, false, false, false, false, false] rfl rfl (any_of rfl (by kernel_rfl)) (fun _ _ _ h => h) (Or.inl ⟨by rfl, ?_⟩) ?_ ?_
      rotate_left
      · intro w'
        go_simp
        with_reducible rfl
      rotate_left
      · simp only [Act.put, List.setIfInBounds_toArray, List.set_cons_zero, List.set_cons_succ, i64_w, i32_w]
        rfl
      refine pure_ (i := 15) (N := some 148) (v := ?_) (a' := ?_) #[true, true, true, true, true, true, true, true, true, true, true, true, true, false, true, true, false, false, false, false] rfl rfl (any_of rfl (by kernel_rfl)) (fun _ _ _ h => h) (Or.inl ⟨by rfl, ?_⟩) ?_ ?_
      rotate_left
      · intro w'
        go_simp
        with_reducible rfl
      rotate_left
      · simp only [Act.put, List.setIfInBounds_toArray, List.set_cons_zero, List.set_cons_succ, i64_w, i32_w]
        rfl
      refine one_ (i := 13) (N := some 146) #[true, true, true, true, true, true, true, true, true, true, true, true, true, true, true, true, false, false, false, false] rfl rfl (one_of rfl (by kernel_rfl)) (by decide) (fun K hK => ?_)
      refine goes_ Try.func32 (by kernel_rfl) rfl #[ptr g, .slice A3 l3.length c3] (by rfl) rfl rfl (by (try simp only [List.map_toArray, List.map_cons, List.map_nil]); first | done | rfl) ?_
      with_reducible refine (cut_is HG2.out.swap (Kd.C_below HR3.out HG2.out.bel) hc3 hwm hzs).mono ?_
      rintro e v3 ⟨u3, rfl, h⟩
      refine ⟨_, rfl, ?_⟩
      obtain ⟨A6, n6, rfl, hn6, _⟩ := h.row_at
      have HG3 := Aside0.mk h
      clear h
      refine hK.out _ _ (rcell HG3.out.fourth 1 (.slice Ar ys.length nr) rfl) (fun hHeld => ?_)
      clear hK K
      refine norm_ (a' := ?_) ?_ ?_
      rotate_left
      · show Act.put _ (some 146) _ = _
        simp only [Act.put, List.setIfInBounds_toArray, List.set_cons_zero, List.set_cons_succ, i64_w, i32_w]
        rfl
      refine last_ (i := 16) (N := some 149) #[true, true, true, true, true, true, true, true, true, true, true, true, true, true, true, true, true, false, false, false] rfl rfl (one_of rfl (by kernel_rfl)) (by decide) (fun K hK => ?_)
      refine goes_ Try.func33 (by kernel_rfl) rfl #[ptr r, .slice A3 l3.length c3] (by rfl) rfl rfl (by (try simp only [List.map_toArray, List.map_cons, List.map_nil]); first | done | rfl) ?_
      with_reducible refine (rcut_is (rh_of3 HG3.out) (Kd.C_below HR3.out HG3.out.bel) hc3 HB3.out hl3 hyd hyb hrz).mono ?_
      rintro e v4 ⟨u4, rfl, h⟩
      refine ⟨_, rfl, ?_⟩
      obtain ⟨dv5, sv5, h⟩ := h
      obtain ⟨A7, n7, rfl, hn7, _⟩ := h.fourth.row_at
      have HG4 := Aside0.mk h
      clear h
      refine hK.out _ _ ?_
      clear hK K
      refine norm_ (a' := ?_) ?_ ?_
      rotate_left
      · show Act.put _ (some 149) _ = _
        simp only [Act.put, List.setIfInBounds_toArray, List.set_cons_zero, List.set_cons_succ, i64_w, i32_w]
        rfl
      refine last_ (i := 17) (N := some 150) #[true, true, true, true, true, true, true, true, true, true, true, true, true, true, true, true, true, true, false, false] rfl rfl (one_of rfl (by kernel_rfl)) (by decide) (fun K hK => ?_)
      refine goes_ Try.func17 (by kernel_rfl) rfl #[.slice A6 zs.length n6, .slice A7 zs.length n7] (by rfl) rfl rfl (by (try simp only [List.map_toArray, List.map_cons, List.map_nil]); first | done | rfl) ?_
      with_reducible refine (same_rows (row_reads (fifth HG4.out)) (row_reads HG4.out.fourth) rfl hn6 hn7 hzl).mono ?_
      rintro e v5 ⟨rfl, hd⟩
      refine ⟨_, rfl, ?_⟩
      have HG5 := Aside0.mk (HG4.out.below hd.below)
      clear hd
      refine hK.out _ _ ?_
      clear hK K
      refine norm_ (a' := ?_) ?_ ?_
      rotate_left
      · show Act.put _ (some 150) _ = _
        simp only [Act.put, List.setIfInBounds_toArray, List.set_cons_zero, List.set_cons_succ, i64_w, i32_w]
        rfl
      refine pure_ (i := 18) (N := some 151) (v := ?_) (a' := ?_) #[true, true, true, true, true, true, true, true, true, true, true, true, true, true, true, true, true, true, true, false] rfl rfl (any_of rfl (by kernel_rfl)) (fun _ _ _ h => h) (Or.inl ⟨by rfl, ?_⟩) ?_ ?_
      rotate_left
      · intro w'
        go_simp
        with_reducible rfl
      rotate_left
      · simp only [Act.put, List.setIfInBounds_toArray, List.set_cons_zero, List.set_cons_succ, i64_w, i32_w]
        rfl
      refine pure_ (i := 19) (N := some 8) (v := ?_) (a' := ?_) #[true, true, true, true, true, true, true, true, true, true, true, true, true, true, true, true, true, true, true, true] rfl rfl (any_of rfl (by kernel_rfl)) (fun _ _ _ h => h) (Or.inl ⟨by rfl, ?_⟩) ?_ ?_
      rotate_left
      · intro w'
        go_simp
        with_reducible rfl
      rotate_left
      · simp only [Act.put, List.setIfInBounds_toArray, List.set_cons_zero, List.set_cons_succ, i64_w, i32_w]
        rfl
      refine done_ (done_of rfl (by kernel_rfl)) ?_
      clear hHeld
      go_wp2
      go_ret
      exact ⟨rfl, HG5.out.bel⟩
theorem flashPlays_walk (a0 : Int) (A : Option Addr) (c : Nat) (l : List Int) (A2 : Option Addr) (c2 : Nat) (l2 : List SOP) (A3 : Option Addr) (c3 : Nat) (l3 : List Int) (w : World) (w0 : (Lit.int .u8 a0).wf = true) (hr : (Kd.int .u8).C w A l.length l) (hc : l.length ≤ c) (hb : ∀ x ∈ l, (Lit.int .u8 x).wf = true) (hr2 : Kd.C kOP w A2 l2.length l2) (hc2 : l2.length ≤ c2) (hb2 : ∀ p ∈ l2, OpWf p)
    (hr3 : (Kd.int .u8).C w A3 l3.length l3) (hc3 : l3.length ≤ c3) (hb3 : ∀ x ∈ l3, (Lit.int .u8 x).wf = true) :
    Calls Try.prog 9 #[.int .u8 a0, .slice A l.length c, .slice A2 l2.length c2, .slice A3 l3.length c3] w fun e w' => e = .returned (.bool true) ∧ Below w.heap.size w w' := by
  have hw := u8_of w0
  by_cases hle : (l.length : Int) ≤ 40 ∧ (l2.length : Int) ≤ 120 ∧ (l3.length : Int) ≤ 300
  · exact flashPlays_short a0 A c l A2 c2 l2 A3 c3 l3 w hr hc (bytes_of_wf hb) hr2 hb2 hr3 hc3 (bytes_of_wf hb3) hw hle.1 hle.2.1 hle.2.2
  · exact flashPlays_long a0 A c l A2 c2 l2 A3 c3 l3 w hw (by omega)
end Go.Proofs.Ytpkgpcolngoicaa.Given
