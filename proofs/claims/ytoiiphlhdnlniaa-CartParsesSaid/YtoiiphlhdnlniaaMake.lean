/- A cartridge's bytes: the walk of Make. -/
import Derived.Test.YtoiiphlhdnlniaaParse
import Derived.Test.YtoiiphlhdnlniaaConcat
import Derived.StillTailTactics
import Derived.Lib.BufferWrite
import Derived.Lib.SlBuf
set_option linter.unusedVariables false
set_option linter.unusedSimpArgs false
namespace Go.Proofs.Ytoiiphlhdnlniaa.Given
open Go.RowKit Go.Proofs.Ytoiiphlhdnlniaa.All Go.Proofs.Ytoiiphlhdnlniaa.Sums Go.Proofs.Ytoiiphlhdnlniaa.Math Go.Proofs.YtoiiphlhdnlniaaW.PrintWords Go.Proofs.YtoiiphlhdnlniaaW.PrintLast Go.Proofs.YtoiiphlhdnlniaaW.PrintMore

/-- The cartridge that came in lies in the call's first block. -/
structure Cc (w W : World) (cs : Array Value) : Prop where
  bel : Below w.heap.size w W
  size : w.heap.size < W.heap.size
  cart : W.heap[w.heap.size]? = some (.cells cs 27 (0, 0))
theorem Cc.below {w W W' : World} {cs : Array Value} (h : Cc w W cs) (hb : Below W.heap.size W W') : Cc w W' cs := ⟨h.bel.trans (hb.mono h.bel.size), Nat.lt_of_lt_of_le h.size hb.size, (hb.block _ h.size).trans h.cart⟩
theorem Cc.drew {w W : World} {cs : Array Value} (h : Cc w W cs) : Cc w W.drew cs := h.below (Below.refl _ _).drew
theorem cc_new (w : World) (cs : Array Value) : Cc w (w.alloc (.cells cs 27)) cs := ⟨(Below.refl _ _).alloc (Nat.le_refl _) _, by simp, heap_alloc_new w _⟩
theorem cc_cells {w W : World} {a b c d f : Int} {v : Value} (h : Cc w W #[.int .i64 a, .int .i64 b, .int .i64 c, .int .i64 d, .int .i64 f, v]) :
    W.cell? ⟨w.heap.size, 0, none⟩ = some (.int .i64 a) ∧ W.cell? ⟨w.heap.size, 1, none⟩ = some (.int .i64 b) ∧ W.cell? ⟨w.heap.size, 2, none⟩ = some (.int .i64 c) ∧ W.cell? ⟨w.heap.size, 3, none⟩ = some (.int .i64 d) ∧ W.cell? ⟨w.heap.size, 4, none⟩ = some (.int .i64 f) ∧ W.cell? ⟨w.heap.size, 5, none⟩ = some v ∧
      Cc w W #[.int .i64 a, .int .i64 b, .int .i64 c, .int .i64 d, .int .i64 f, v] :=
  ⟨(cell_of_row W _ 0 _ _ _ h.cart).trans rfl, (cell_of_row W _ 1 _ _ _ h.cart).trans rfl, (cell_of_row W _ 2 _ _ _ h.cart).trans rfl, (cell_of_row W _ 3 _ _ _ h.cart).trans rfl, (cell_of_row W _ 4 _ _ _ h.cart).trans rfl, (cell_of_row W _ 5 _ _ _ h.cart).trans rfl, h⟩
/-- A cartridge's cells, in a world. -/
def CartAt (w : World) (g : Nat) (a b c d f : Int) (v : Value) : Prop :=
  w.cell? ⟨g, 0, none⟩ = some (.int .i64 a) ∧ w.cell? ⟨g, 1, none⟩ = some (.int .i64 b) ∧ w.cell? ⟨g, 2, none⟩ = some (.int .i64 c) ∧ w.cell? ⟨g, 3, none⟩ = some (.int .i64 d) ∧ w.cell? ⟨g, 4, none⟩ = some (.int .i64 f) ∧ w.cell? ⟨g, 5, none⟩ = some v
theorem cart_at {w W : World} {a b c d f : Int} {v : Value} (h : Cc w W #[.int .i64 a, .int .i64 b, .int .i64 c, .int .i64 d, .int .i64 f, v]) : CartAt W w.heap.size a b c d f v :=
  ⟨(cell_of_row W _ 0 _ _ _ h.cart).trans rfl, (cell_of_row W _ 1 _ _ _ h.cart).trans rfl, (cell_of_row W _ 2 _ _ _ h.cart).trans rfl, (cell_of_row W _ 3 _ _ _ h.cart).trans rfl, (cell_of_row W _ 4 _ _ _ h.cart).trans rfl, (cell_of_row W _ 5 _ _ _ h.cart).trans rfl⟩
/-- The chips' block and the head's block lie behind the worlds of the two calls. -/
structure Gh (w wL W : World) (cs g : Array Value) (hs : List Int) : Prop where
  cc : Cc w wL cs
  bel : Below wL.heap.size wL W
  size : wL.heap.size + 1 < W.heap.size
  geo : W.heap[wL.heap.size]? = some (.cells g 25 (0, 0))
  head : W.heap[wL.heap.size + 1]? = some (.cells (hs.map (Value.int .u8)).toArray 48 (0, 0))
theorem Gh.below {w wL W W' : World} {cs g : Array Value} {hs : List Int} (h : Gh w wL W cs g hs) (hb : Below W.heap.size W W') : Gh w wL W' cs g hs :=
  ⟨h.cc, h.bel.trans (hb.mono h.bel.size), Nat.lt_of_lt_of_le h.size hb.size, (hb.block _ (by have := h.size; omega)).trans h.geo, (hb.block _ h.size).trans h.head⟩
theorem Gh.drew {w wL W : World} {cs g : Array Value} {hs : List Int} (h : Gh w wL W cs g hs) : Gh w wL W.drew cs g hs := h.below (Below.refl _ _).drew
theorem Gh.alloc {w wL W : World} {cs g : Array Value} {hs : List Int} (h : Gh w wL W cs g hs) (o : Obj) : Gh w wL (W.alloc o) cs g hs := h.below ((Below.refl _ _).alloc (Nat.le_refl _) o)
theorem Gh.cart {w wL W : World} {cs g : Array Value} {hs : List Int} (h : Gh w wL W cs g hs) : Cc w W cs := h.cc.below h.bel
theorem gh_new {w wL : World} {cs : Array Value} (h : Cc w wL cs) (g : Array Value) : Gh w wL ((wL.alloc (.cells g 25)).alloc (.cells (Z 12) 48)) cs g (List.replicate 12 0) := by
  have e1 := heap_alloc_new wL (.cells g 25)
  have e2 := heap_alloc_new (wL.alloc (.cells g 25)) (.cells (Z 12) 48)
  rw [World.size_alloc] at e2
  exact ⟨h, ((Below.refl _ _).alloc (Nat.le_refl _) _).alloc (by simp) _, by simp, (Below.heap_alloc _ _ _ (by simp)).trans e1, e2⟩
theorem Gh.head_set {w wL W : World} {cs g : Array Value} {hs hs' : List Int} (h : Gh w wL W cs g hs) : Gh w wL (W.setRow (wL.heap.size + 1) (hs'.map (Value.int .u8)).toArray) cs g hs' :=
  ⟨h.cc, below_setRow h.bel (by omega) _, by rw [setRow_size]; exact h.size, (setRow_other _ _ _ _ (by omega)).trans h.geo, setRow_heap _ _ _ _ _ _ h.head⟩
def headL (a b c d f : Int) : List Int := [67, 65, 82, 84, 1, a % 256, b % 256, c % 256, d % 256, f % 256, 0, 0]
theorem lists3 {W : World} {b t : Nat} {fr : Nat × Nat} {A1 A2 A3 : Option Addr} {c1 c2 c3 n1 n2 n3 : Nat} {l1 l2 l3 : List Int} (h : W.heap[b]? = some (.cells #[.slice A1 n1 c1, .slice A2 n2 c2, .slice A3 n3 c3] t fr))
    (h1 : (Kd.int .u8).C W A1 l1.length l1) (e1 : l1.length = n1) (k1 : n1 ≤ c1) (h2 : (Kd.int .u8).C W A2 l2.length l2) (e2 : l2.length = n2) (k2 : n2 ≤ c2) (h3 : (Kd.int .u8).C W A3 l3.length l3) (e3 : l3.length = n3) (k3 : n3 ≤ c3) :
    (Kd.slice 5 (Kd.int .u8)).C W (some ⟨b, 0, none⟩) [l1, l2, l3].length [l1, l2, l3] := by
  subst e1 e2 e3
  refine ⟨rfl, by simp, fun _ => ⟨_, rfl, fun j p hj => ?_⟩⟩
  have hcell : ∀ (j : Nat) (v : Value), #[Value.slice A1 l1.length c1, .slice A2 l2.length c2, .slice A3 l3.length c3][j]? = some v → ∀ (i : Nat) (u : Value), [v][i]? = some u → W.cell? ((⟨b, 0, none⟩ : Addr).add (j * 1 + i)) = some u := by
    intro j v hv i u hu
    cases i with
    | zero =>
      rw [Addr.add_mid, Nat.zero_add, Nat.mul_one, Nat.add_zero, cell_of_row W b j _ _ _ h, hv]
      exact hu
    | succ i => simp at hu
  match j, hj with
  | 0, hj => obtain rfl := Option.some.inj hj; exact ⟨_, rfl, ⟨A1, c1, rfl, k1, h1⟩, hcell 0 _ rfl⟩
  | 1, hj => obtain rfl := Option.some.inj hj; exact ⟨_, rfl, ⟨A2, c2, rfl, k2, h2⟩, hcell 1 _ rfl⟩
  | 2, hj => obtain rfl := Option.some.inj hj; exact ⟨_, rfl, ⟨A3, c3, rfl, k3, h3⟩, hcell 2 _ rfl⟩
  | j + 3, hj => simp at hj
theorem bytes_head (a b c d f : Int) : Bytes (headL a b c d f) := by
  intro x hx
  simp only [headL, List.mem_cons, List.not_mem_nil, or_false] at hx
  rcases hx with rfl | rfl | rfl | rfl | rfl | rfl | rfl | rfl | rfl | rfl | rfl | rfl <;> constructor <;> omega
/-- What region 6 reads. -/
def Reads6 (w wL W : World) (a b c d f : Int) : Prop :=
  W.cell? ⟨w.heap.size, 0, none⟩ = some (.int .i64 a) ∧ W.cell? ⟨w.heap.size, 1, none⟩ = some (.int .i64 b) ∧ W.cell? ⟨wL.heap.size, 0, none⟩ = some (.int .i64 c) ∧ W.cell? ⟨wL.heap.size, 1, none⟩ = some (.int .i64 d) ∧ W.cell? ⟨wL.heap.size, 2, none⟩ = some (.int .i64 f)
theorem Gh.reads6 {w wL W : World} {a b c d f : Int} {v : Value} {hs : List Int} (h : Gh w wL W #[.int .i64 a, .int .i64 b, .int .i64 c, .int .i64 d, .int .i64 f, v] #[.int .i64 c, .int .i64 d, .int .i64 f] hs) : Reads6 w wL W a b c d f :=
  ⟨(cart_at h.cart).1, (cart_at h.cart).2.1, (cell_of_row W _ 0 _ _ _ h.geo).trans rfl, (cell_of_row W _ 1 _ _ _ h.geo).trans rfl, (cell_of_row W _ 2 _ _ _ h.geo).trans rfl⟩
theorem right_any (a b c d f : Int) (A : Option Addr) (n : Nat) (rom : List Int) (w : World) (hr : (Kd.int .u8).C w A rom.length rom) (hc : rom.length ≤ n) : Calls Try.prog 20 #[.agg #[.int .i64 a, .int .i64 b, .int .i64 c, .int .i64 d, .int .i64 f, .slice A rom.length n]] w fun e w' => e = .returned (.bool (bankR a b c d f)) ∧ Below w.heap.size w w' :=
  bank_Right.calls a b c d f A n rom _ w hr hc (bankR_f a b c d f rom)
theorem long_any (a b c d f : Int) (ha : 0 ≤ a) (A : Option Addr) (n : Nat) (rom : List Int) (w : World) (hr : (Kd.int .u8).C w A rom.length rom) (hc : rom.length ≤ n) : Calls Try.prog 21 #[.agg #[.int .i64 a, .int .i64 b, .int .i64 c, .int .i64 d, .int .i64 f, .slice A rom.length n]] w fun e w' => e = .returned (.int .i64 (bankL a b c d f)) ∧ Below w.heap.size w w' :=
  bank_Long.calls a b c d f A n rom _ w hr hc (bankL_f a b c d f rom ha)
theorem right_no (a b c d f : Int) (A : Option Addr) (n : Nat) (rom : List Int) (w : World) (hr : (Kd.int .u8).C w A rom.length rom) (hc : rom.length ≤ n) (h : bankR a b c d f = false) : Calls Try.prog 20 #[.agg #[.int .i64 a, .int .i64 b, .int .i64 c, .int .i64 d, .int .i64 f, .slice A rom.length n]] w fun e w' => e = .returned (.bool false) ∧ Below w.heap.size w w' :=
  bank_Right.calls a b c d f A n rom _ w hr hc ((bankR_f a b c d f rom).trans (congrArg some h))
theorem right_yes (a b c d f : Int) (A : Option Addr) (n : Nat) (rom : List Int) (w : World) (hr : (Kd.int .u8).C w A rom.length rom) (hc : rom.length ≤ n) (h : bankR a b c d f = true) : Calls Try.prog 20 #[.agg #[.int .i64 a, .int .i64 b, .int .i64 c, .int .i64 d, .int .i64 f, .slice A rom.length n]] w fun e w' => e = .returned (.bool true) ∧ Below w.heap.size w w' :=
  bank_Right.calls a b c d f A n rom _ w hr hc ((bankR_f a b c d f rom).trans (congrArg some h))
theorem bankR_lo {a b c d f : Int} (h : bankR a b c d f = true) : 8 ≤ a ∧ a ≤ 14 := by
  unfold bankR bank_Right.f at h
  repeat' split at h
  all_goals first | (exact absurd h (by decide)) | exact ⟨by assumption, by assumption⟩
def sum4 (s : Int) : List Int := [s % 256, s / 256 % 256, s / 65536 % 256, s / 16777216 % 256]
def makeL (a b c d f : Int) (rom : List Int) : List Int × Int :=
  if bankR a b c d f = true ∧ (rom.length : Int) = bankL a b c d f then (headL a b c d f ++ (sum4 (sealOf (headL a b c d f ++ rom)) ++ rom), 0) else ([], 13)
def MO (w : World) (p : List Int × Int) (e : Ending) (w' : World) : Prop := ∃ v : Value, e = .returned (.tuple #[v, .int .i64 p.2]) ∧ (Kd.int .u8).R 5 w' w.heap.size (fun _ => True) v p.1 ∧ Below w.heap.size w w'
set_option maxHeartbeats 4000000 in
set_option maxRecDepth 100000 in
theorem make_walk (a b c d f : Int) (A : Option Addr) (n : Nat) (rom : List Int) (w : World) (hr : (Kd.int .u8).C w A rom.length rom) (hc : rom.length ≤ n) (hl : rom.length ≤ 100000) (hb : Bytes rom) :
    Calls Try.prog 15 #[.agg #[.int .i64 a, .int .i64 b, .int .i64 c, .int .i64 d, .int .i64 f, .slice A rom.length n]] w (MO w (makeL a b c d f rom)) := by
  have HR := Aside0.mk hr
  have HBY := Lib.hid hb
  have HC := Aside0.mk (cc_new w #[.int .i64 a, .int .i64 b, .int .i64 c, .int .i64 d, .int .i64 f, .slice A rom.length n])
  have HC1 := Aside0.mk HC.out.drew
  clear hr hb
  cases hR : bankR a b c d f with
  | false =>
    have hp : makeL a b c d f rom = ([], 13) := by unfold makeL; rw [hR, if_neg (fun h => by cases h.1)]
    rw [hp]
    go_enter Try.func15, Try.ntmps15
    go_wp2_with (fail)
    generalize (w.alloc (.cells #[.int .i64 a, .int .i64 b, .int .i64 c, .int .i64 d, .int .i64 f, .slice A rom.length n] 27)) = W1 at HC HC1 ⊢
    refine start_ (n := 11) (S := fun w' => CartAt w' w.heap.size a b c d f (.slice A rom.length n)) (ds := []) #[false, false, false, false, false, false, false, false, false, false, false] (by kernel_rfl) rfl rfl (cart_at HC1.out) (fun hHeld => ?_)
    refine take_ (i := 0) (N := some 8) (v := ?_) (a' := ?_) #[true, false, false, false, false, false, false, false, false, false, false] rfl rfl (take_of rfl (by kernel_rfl)) (fun _ _ _ h => h) (Or.inl ⟨by rfl, ?_⟩) hHeld ?_ ?_
    rotate_left
    · rintro w' ⟨s0, s1, s2, s3, s4, s5⟩
      go_simp
      with_reducible rfl
    rotate_left
    · simp only [Act.put, List.setIfInBounds_toArray, List.set_cons_zero, List.set_cons_succ, i64_w, i32_w]
      rfl
    refine one_ (i := 1) (N := some 9) #[true, true, false, false, false, false, false, false, false, false, false] rfl rfl (one_of rfl (by kernel_rfl)) (by decide) (fun K hK => ?_)
    refine goes_ Try.func20 (by kernel_rfl) rfl #[.agg #[.int .i64 a, .int .i64 b, .int .i64 c, .int .i64 d, .int .i64 f, .slice A rom.length n]] (by rfl) rfl rfl (by (try simp only [List.map_toArray, List.map_cons, List.map_nil]); first | done | rfl) ?_
    with_reducible refine (right_no a b c d f A n rom _ (Kd.C_below HR.out HC1.out.bel) hc hR).mono ?_
    rintro e w' ⟨rfl, hb⟩
    refine ⟨_, rfl, ?_⟩
    have HC2 := Aside0.mk (HC1.out.below hb)
    clear HC1 hb
    refine hK.out _ _ (cart_at HC2.out) (fun hHeld => ?_)
    clear hK K
    refine norm_ (a' := ?_) ?_ ?_
    rotate_left
    · show Act.put _ (some 9) _ = _
      simp only [Act.put, List.setIfInBounds_toArray, List.set_cons_zero, List.set_cons_succ, i64_w, i32_w]
      rfl
    refine pure_ (i := 2) (N := some 10) (v := ?_) (a' := ?_) #[true, true, true, false, false, false, false, false, false, false, false] rfl rfl (any_of rfl (by kernel_rfl)) (fun _ _ _ h => h) (Or.inl ⟨by rfl, ?_⟩) ?_ ?_
    rotate_left
    · intro w'
      go_simp
      with_reducible rfl
    rotate_left
    · simp only [Act.put, List.setIfInBounds_toArray, List.set_cons_zero, List.set_cons_succ, i64_w, i32_w]
      rfl
    refine pure_ (i := 3) (N := some 11) (v := ?_) (a' := ?_) #[true, true, true, true, false, false, false, false, false, false, false] rfl rfl (any_of rfl (by kernel_rfl)) (fun _ _ _ h => h) (Or.inl ⟨by rfl, ?_⟩) ?_ ?_
    rotate_left
    · intro w'
      go_simp
      with_reducible rfl
    rotate_left
    · simp only [Act.put, List.setIfInBounds_toArray, List.set_cons_zero, List.set_cons_succ, i64_w, i32_w]
      rfl
    refine pure_ (i := 4) (N := some 12) (v := undef) (a' := ?_) #[true, true, true, true, true, false, false, false, false, false, false] rfl rfl (any_of rfl (by kernel_rfl)) (fun _ _ _ h => h) (Or.inr ⟨by rfl, rfl⟩) ?_ ?_
    rotate_left
    · simp only [Act.put, List.setIfInBounds_toArray, List.set_cons_zero, List.set_cons_succ, i64_w, i32_w]
      rfl
    refine pure_ (i := 5) (N := some 13) (v := undef) (a' := ?_) #[true, true, true, true, true, true, false, false, false, false, false] rfl rfl (any_of rfl (by kernel_rfl)) (fun _ _ _ h => h) (Or.inr ⟨by rfl, rfl⟩) ?_ ?_
    rotate_left
    · simp only [Act.put, List.setIfInBounds_toArray, List.set_cons_zero, List.set_cons_succ, i64_w, i32_w]
      rfl
    refine pure_ (i := 6) (N := some 14) (v := undef) (a' := ?_) #[true, true, true, true, true, true, true, false, false, false, false] rfl rfl (any_of rfl (by kernel_rfl)) (fun _ _ _ h => h) (Or.inr ⟨by rfl, rfl⟩) ?_ ?_
    rotate_left
    · simp only [Act.put, List.setIfInBounds_toArray, List.set_cons_zero, List.set_cons_succ, i64_w, i32_w]
      rfl
    refine pure_ (i := 7) (N := some 15) (v := undef) (a' := ?_) #[true, true, true, true, true, true, true, true, false, false, false] rfl rfl (any_of rfl (by kernel_rfl)) (fun _ _ _ h => h) (Or.inr ⟨by rfl, rfl⟩) ?_ ?_
    rotate_left
    · simp only [Act.put, List.setIfInBounds_toArray, List.set_cons_zero, List.set_cons_succ, i64_w, i32_w]
      rfl
    refine pure_ (i := 8) (N := some 16) (v := undef) (a' := ?_) #[true, true, true, true, true, true, true, true, true, false, false] rfl rfl (any_of rfl (by kernel_rfl)) (fun _ _ _ h => h) (Or.inr ⟨by rfl, rfl⟩) ?_ ?_
    rotate_left
    · simp only [Act.put, List.setIfInBounds_toArray, List.set_cons_zero, List.set_cons_succ, i64_w, i32_w]
      rfl
    refine pure_ (i := 9) (N := some 17) (v := undef) (a' := ?_) #[true, true, true, true, true, true, true, true, true, true, false] rfl rfl (any_of rfl (by kernel_rfl)) (fun _ _ _ h => h) (Or.inr ⟨by rfl, rfl⟩) ?_ ?_
    rotate_left
    · simp only [Act.put, List.setIfInBounds_toArray, List.set_cons_zero, List.set_cons_succ, i64_w, i32_w]
      rfl
    refine pure_ (i := 10) (N := some 18) (v := ?_) (a' := ?_) #[true, true, true, true, true, true, true, true, true, true, true] rfl rfl (any_of rfl (by kernel_rfl)) (fun _ _ _ h => h) (Or.inl ⟨by rfl, ?_⟩) ?_ ?_
    rotate_left
    · intro w'
      go_simp
      with_reducible rfl
    rotate_left
    · simp only [Act.put, List.setIfInBounds_toArray, List.set_cons_zero, List.set_cons_succ, i64_w, i32_w]
      rfl
    refine done_ (done_of rfl (by kernel_rfl)) ?_
    go_wp2_with (fail)
    go_ret2
    exact ⟨_, rfl, Kd.R_nil _ _ _ _ _, HC2.out.bel⟩
  | true =>
    have h0a : 0 ≤ a := by have := (bankR_lo hR).1; omega
    go_enter Try.func15, Try.ntmps15
    go_wp2_with (fail)
    generalize (w.alloc (.cells #[.int .i64 a, .int .i64 b, .int .i64 c, .int .i64 d, .int .i64 f, .slice A rom.length n] 27)) = W1 at HC HC1 ⊢
    refine start_ (n := 11) (S := fun w' => CartAt w' w.heap.size a b c d f (.slice A rom.length n)) (ds := []) #[false, false, false, false, false, false, false, false, false, false, false] (by kernel_rfl) rfl rfl (cart_at HC1.out) (fun hHeld => ?_)
    refine take_ (i := 0) (N := some 8) (v := ?_) (a' := ?_) #[true, false, false, false, false, false, false, false, false, false, false] rfl rfl (take_of rfl (by kernel_rfl)) (fun _ _ _ h => h) (Or.inl ⟨by rfl, ?_⟩) hHeld ?_ ?_
    rotate_left
    · rintro w' ⟨s0, s1, s2, s3, s4, s5⟩
      go_simp
      with_reducible rfl
    rotate_left
    · simp only [Act.put, List.setIfInBounds_toArray, List.set_cons_zero, List.set_cons_succ, i64_w, i32_w]
      rfl
    refine one_ (i := 1) (N := some 9) #[true, true, false, false, false, false, false, false, false, false, false] rfl rfl (one_of rfl (by kernel_rfl)) (by decide) (fun K hK => ?_)
    refine goes_ Try.func20 (by kernel_rfl) rfl #[.agg #[.int .i64 a, .int .i64 b, .int .i64 c, .int .i64 d, .int .i64 f, .slice A rom.length n]] (by rfl) rfl rfl (by (try simp only [List.map_toArray, List.map_cons, List.map_nil]); first | done | rfl) ?_
    with_reducible refine (right_yes a b c d f A n rom _ (Kd.C_below HR.out HC1.out.bel) hc hR).mono ?_
    rintro e w' ⟨rfl, hb⟩
    refine ⟨_, rfl, ?_⟩
    have HC2 := Aside0.mk (HC1.out.below hb)
    clear HC1 hb
    refine hK.out _ _ (cart_at HC2.out) (fun hHeld => ?_)
    clear hK K
    refine norm_ (a' := ?_) ?_ ?_
    rotate_left
    · show Act.put _ (some 9) _ = _
      simp only [Act.put, List.setIfInBounds_toArray, List.set_cons_zero, List.set_cons_succ, i64_w, i32_w]
      rfl
    refine pure_ (i := 2) (N := some 10) (v := ?_) (a' := ?_) #[true, true, true, false, false, false, false, false, false, false, false] rfl rfl (any_of rfl (by kernel_rfl)) (fun _ _ _ h => h) (Or.inl ⟨by rfl, ?_⟩) ?_ ?_
    rotate_left
    · intro w'
      go_simp
      with_reducible rfl
    rotate_left
    · simp only [Act.put, List.setIfInBounds_toArray, List.set_cons_zero, List.set_cons_succ, i64_w, i32_w]
      rfl
    refine pure_ (i := 3) (N := some 11) (v := ?_) (a' := ?_) #[true, true, true, true, false, false, false, false, false, false, false] rfl rfl (any_of rfl (by kernel_rfl)) (fun _ _ _ h => h) (Or.inl ⟨by rfl, ?_⟩) ?_ ?_
    rotate_left
    · intro w'
      go_simp
      with_reducible rfl
    rotate_left
    · simp only [Act.put, List.setIfInBounds_toArray, List.set_cons_zero, List.set_cons_succ, i64_w, i32_w]
      rfl
    refine pure_ (i := 4) (N := some 12) (v := ?_) (a' := ?_) #[true, true, true, true, true, false, false, false, false, false, false] rfl rfl (any_of rfl (by kernel_rfl)) (fun _ _ _ h => h) (Or.inl ⟨by rfl, ?_⟩) ?_ ?_
    rotate_left
    · intro w'
      go_simp
      with_reducible rfl
    rotate_left
    · simp only [Act.put, List.setIfInBounds_toArray, List.set_cons_zero, List.set_cons_succ, i64_w, i32_w]
      rfl
    refine take_ (i := 5) (N := some 13) (v := ?_) (a' := ?_) #[true, true, true, true, true, true, false, false, false, false, false] rfl rfl (take_of rfl (by kernel_rfl)) (fun _ _ _ h => h) (Or.inl ⟨by rfl, ?_⟩) hHeld ?_ ?_
    rotate_left
    · rintro w' ⟨s0, s1, s2, s3, s4, s5⟩
      go_simp
      with_reducible rfl
    rotate_left
    · simp only [Act.put, List.setIfInBounds_toArray, List.set_cons_zero, List.set_cons_succ, i64_w, i32_w]
      rfl
    refine pure_ (i := 6) (N := some 14) (v := ?_) (a' := ?_) #[true, true, true, true, true, true, true, false, false, false, false] rfl rfl (any_of rfl (by kernel_rfl)) (fun _ _ _ h => h) (Or.inl ⟨by rfl, ?_⟩) ?_ ?_
    rotate_left
    · intro w'
      go_simp
      with_reducible rfl
    rotate_left
    · simp only [Act.put, List.setIfInBounds_toArray, List.set_cons_zero, List.set_cons_succ, i64_w, i32_w]
      rfl
    refine take_ (i := 7) (N := some 15) (v := ?_) (a' := ?_) #[true, true, true, true, true, true, true, true, false, false, false] rfl rfl (take_of rfl (by kernel_rfl)) (fun _ _ _ h => h) (Or.inl ⟨by rfl, ?_⟩) hHeld ?_ ?_
    rotate_left
    · rintro w' ⟨s0, s1, s2, s3, s4, s5⟩
      go_simp
      with_reducible rfl
    rotate_left
    · simp only [Act.put, List.setIfInBounds_toArray, List.set_cons_zero, List.set_cons_succ, i64_w, i32_w]
      rfl
    refine one_ (i := 8) (N := some 16) #[true, true, true, true, true, true, true, true, true, false, false] rfl rfl (one_of rfl (by kernel_rfl)) (by decide) (fun K hK => ?_)
    refine goes_ Try.func21 (by kernel_rfl) rfl #[.agg #[.int .i64 a, .int .i64 b, .int .i64 c, .int .i64 d, .int .i64 f, .slice A rom.length n]] (by rfl) rfl rfl (by (try simp only [List.map_toArray, List.map_cons, List.map_nil]); first | done | rfl) ?_
    with_reducible refine (long_any a b c d f h0a A n rom _ (Kd.C_below HR.out HC2.out.bel) hc ).mono ?_
    rintro e wL ⟨rfl, hb⟩
    refine ⟨_, rfl, ?_⟩
    have HC3 := Aside0.mk (HC2.out.below hb)
    clear HC2 hb
    refine hK.out _ _ (cart_at HC3.out) (fun hHeld => ?_)
    clear hK K
    refine norm_ (a' := ?_) ?_ ?_
    rotate_left
    · show Act.put _ (some 16) _ = _
      simp only [Act.put, List.setIfInBounds_toArray, List.set_cons_zero, List.set_cons_succ, i64_w, i32_w]
      rfl
    refine pure_ (i := 9) (N := some 17) (v := ?_) (a' := ?_) #[true, true, true, true, true, true, true, true, true, true, false] rfl rfl (any_of rfl (by kernel_rfl)) (fun _ _ _ h => h) (Or.inl ⟨by rfl, ?_⟩) ?_ ?_
    rotate_left
    · intro w'
      go_simp
      with_reducible rfl
    rotate_left
    · simp only [Act.put, List.setIfInBounds_toArray, List.set_cons_zero, List.set_cons_succ, i64_w, i32_w]
      rfl
    refine pure_ (i := 10) (N := some 18) (v := ?_) (a' := ?_) #[true, true, true, true, true, true, true, true, true, true, true] rfl rfl (any_of rfl (by kernel_rfl)) (fun _ _ _ h => h) (Or.inl ⟨by rfl, ?_⟩) ?_ ?_
    rotate_left
    · intro w'
      go_simp
      with_reducible rfl
    rotate_left
    · simp only [Act.put, List.setIfInBounds_toArray, List.set_cons_zero, List.set_cons_succ, i64_w, i32_w]
      rfl
    refine done_ (done_of rfl (by kernel_rfl)) ?_
    by_cases hL : (rom.length : Int) = bankL a b c d f
    · have hp : makeL a b c d f rom = (headL a b c d f ++ (sum4 (sealOf (headL a b c d f ++ rom)) ++ rom), 0) := if_pos ⟨hR, hL⟩
      obtain ⟨q0, q1, q2, q3, q4, q5⟩ := cart_at HC3.out
      have HG0 := Aside0.mk (gh_new HC3.out #[.int .i64 c, .int .i64 d, .int .i64 f])
      have hcp := Lib.run_copy_row_string (P := Try.prog) ((wL.alloc (.cells #[.int .i64 c, .int .i64 d, .int .i64 f] 25)).alloc (.cells (Z 12) 48)) 22 9 3 5 (wL.heap.size + 1) 0 12 12 ⟨#[67, 65, 82, 84]⟩ (Z 12) 48 Try.underlying22 size5 HG0.out.head (by decide) (by decide)
      have HCP := Aside0.mk hcp
      clear hcp
      go_upto_region 6 with (refine Lib.wpList_copy_run _ rfl (.tmp 21) (.const (.string ⟨#[67, 65, 82, 84]⟩)) 22 9 rfl _ _ rfl rfl HCP.out ?_)
      generalize hW5 : World.setRow _ _ _ = W5
      have HG5 : Aside0 (Gh w wL W5 #[.int .i64 a, .int .i64 b, .int .i64 c, .int .i64 d, .int .i64 f, .slice A rom.length n] #[.int .i64 c, .int .i64 d, .int .i64 f] [67, 65, 82, 84, 0, 0, 0, 0, 0, 0, 0, 0]) := ⟨by rw [← hW5]; exact HG0.out.head_set (hs' := [67, 65, 82, 84, 0, 0, 0, 0, 0, 0, 0, 0])⟩
      clear hW5 HG0 HCP q0 q1 q2 q3 q4 q5
      refine start_ (n := 19) (S := fun W' => Reads6 w wL W' a b c d f) (ds := []) #[false, false, false, false, false, false, false, false, false, false, false, false, false, false, false, false, false, false, false] (by kernel_rfl) rfl rfl HG5.out.drew.reads6 (fun hHeld => ?_)
      have HG5d := Aside0.mk HG5.out.drew
      clear HG5
      generalize W5.drew = W5d at *
      refine pure_ (i := 0) (N := some 23) (v := ?_) (a' := ?_) #[true, false, false, false, false, false, false, false, false, false, false, false, false, false, false, false, false, false, false] rfl rfl (any_of rfl (by kernel_rfl)) (fun _ _ _ h => h) (Or.inl ⟨by rfl, ?_⟩) ?_ ?_
      rotate_left
      · intro w'
        go_simp
        with_reducible rfl
      rotate_left
      · simp only [Act.put, List.setIfInBounds_toArray, List.set_cons_zero, List.set_cons_succ, i64_w, i32_w]
        rfl
      refine pure_ (i := 1) (N := some 24) (v := ?_) (a' := ?_) #[true, true, false, false, false, false, false, false, false, false, false, false, false, false, false, false, false, false, false] rfl rfl (any_of rfl (by kernel_rfl)) (fun _ _ _ h => h) (Or.inl ⟨by rfl, ?_⟩) ?_ ?_
      rotate_left
      · intro w'
        go_simp
        with_reducible rfl
      rotate_left
      · simp only [Act.put, List.setIfInBounds_toArray, List.set_cons_zero, List.set_cons_succ, i64_w, i32_w]
        rfl
      refine pure_ (i := 2) (N := some 25) (v := ?_) (a' := ?_) #[true, true, true, false, false, false, false, false, false, false, false, false, false, false, false, false, false, false, false] rfl rfl (any_of rfl (by kernel_rfl)) (fun _ _ _ h => h) (Or.inl ⟨by rfl, ?_⟩) ?_ ?_
      rotate_left
      · intro w'
        go_simp
        with_reducible rfl
      rotate_left
      · simp only [Act.put, List.setIfInBounds_toArray, List.set_cons_zero, List.set_cons_succ, i64_w, i32_w]
        rfl
      refine take_ (i := 3) (N := some 26) (v := ?_) (a' := ?_) #[true, true, true, true, false, false, false, false, false, false, false, false, false, false, false, false, false, false, false] rfl rfl (take_of rfl (by kernel_rfl)) (fun _ _ _ h => h) (Or.inl ⟨by rfl, ?_⟩) hHeld ?_ ?_
      rotate_left
      · rintro w' ⟨s0, s1, s2, s3, s4⟩
        go_simp
        with_reducible rfl
      rotate_left
      · simp only [Act.put, List.setIfInBounds_toArray, List.set_cons_zero, List.set_cons_succ, i64_w, i32_w]
        rfl
      refine pure_ (i := 4) (N := some 27) (v := ?_) (a' := ?_) #[true, true, true, true, true, false, false, false, false, false, false, false, false, false, false, false, false, false, false] rfl rfl (any_of rfl (by kernel_rfl)) (fun _ _ _ h => h) (Or.inl ⟨by rfl, ?_⟩) ?_ ?_
      rotate_left
      · intro w'
        go_simp
        with_reducible rfl
      rotate_left
      · simp only [Act.put, List.setIfInBounds_toArray, List.set_cons_zero, List.set_cons_succ, i64_w, i32_w]
        rfl
      refine pure_ (i := 5) (N := some 28) (v := ?_) (a' := ?_) #[true, true, true, true, true, true, false, false, false, false, false, false, false, false, false, false, false, false, false] rfl rfl (any_of rfl (by kernel_rfl)) (fun _ _ _ h => h) (Or.inl ⟨by rfl, ?_⟩) ?_ ?_
      rotate_left
      · intro w'
        go_simp
        with_reducible rfl
      rotate_left
      · simp only [Act.put, List.setIfInBounds_toArray, List.set_cons_zero, List.set_cons_succ, i64_w, i32_w]
        rfl
      refine take_ (i := 6) (N := some 29) (v := ?_) (a' := ?_) #[true, true, true, true, true, true, true, false, false, false, false, false, false, false, false, false, false, false, false] rfl rfl (take_of rfl (by kernel_rfl)) (fun _ _ _ h => h) (Or.inl ⟨by rfl, ?_⟩) hHeld ?_ ?_
      rotate_left
      · rintro w' ⟨s0, s1, s2, s3, s4⟩
        go_simp
        with_reducible rfl
      rotate_left
      · simp only [Act.put, List.setIfInBounds_toArray, List.set_cons_zero, List.set_cons_succ, i64_w, i32_w]
        rfl
      refine pure_ (i := 7) (N := some 30) (v := ?_) (a' := ?_) #[true, true, true, true, true, true, true, true, false, false, false, false, false, false, false, false, false, false, false] rfl rfl (any_of rfl (by kernel_rfl)) (fun _ _ _ h => h) (Or.inl ⟨by rfl, ?_⟩) ?_ ?_
      rotate_left
      · intro w'
        go_simp
        with_reducible rfl
      rotate_left
      · simp only [Act.put, List.setIfInBounds_toArray, List.set_cons_zero, List.set_cons_succ, i64_w, i32_w]
        rfl
      refine pure_ (i := 8) (N := some 31) (v := ?_) (a' := ?_) #[true, true, true, true, true, true, true, true, true, false, false, false, false, false, false, false, false, false, false] rfl rfl (any_of rfl (by kernel_rfl)) (fun _ _ _ h => h) (Or.inl ⟨by rfl, ?_⟩) ?_ ?_
      rotate_left
      · intro w'
        go_simp
        with_reducible rfl
      rotate_left
      · simp only [Act.put, List.setIfInBounds_toArray, List.set_cons_zero, List.set_cons_succ, i64_w, i32_w]
        rfl
      refine take_ (i := 9) (N := some 32) (v := ?_) (a' := ?_) #[true, true, true, true, true, true, true, true, true, true, false, false, false, false, false, false, false, false, false] rfl rfl (take_of rfl (by kernel_rfl)) (fun _ _ _ h => h) (Or.inl ⟨by rfl, ?_⟩) hHeld ?_ ?_
      rotate_left
      · rintro w' ⟨s0, s1, s2, s3, s4⟩
        go_simp
        with_reducible rfl
      rotate_left
      · simp only [Act.put, List.setIfInBounds_toArray, List.set_cons_zero, List.set_cons_succ, i64_w, i32_w]
        rfl
      refine pure_ (i := 10) (N := some 33) (v := ?_) (a' := ?_) #[true, true, true, true, true, true, true, true, true, true, true, false, false, false, false, false, false, false, false] rfl rfl (any_of rfl (by kernel_rfl)) (fun _ _ _ h => h) (Or.inl ⟨by rfl, ?_⟩) ?_ ?_
      rotate_left
      · intro w'
        go_simp
        with_reducible rfl
      rotate_left
      · simp only [Act.put, List.setIfInBounds_toArray, List.set_cons_zero, List.set_cons_succ, i64_w, i32_w]
        rfl
      refine pure_ (i := 11) (N := some 34) (v := ?_) (a' := ?_) #[true, true, true, true, true, true, true, true, true, true, true, true, false, false, false, false, false, false, false] rfl rfl (any_of rfl (by kernel_rfl)) (fun _ _ _ h => h) (Or.inl ⟨by rfl, ?_⟩) ?_ ?_
      rotate_left
      · intro w'
        go_simp
        with_reducible rfl
      rotate_left
      · simp only [Act.put, List.setIfInBounds_toArray, List.set_cons_zero, List.set_cons_succ, i64_w, i32_w]
        rfl
      refine take_ (i := 12) (N := some 35) (v := ?_) (a' := ?_) #[true, true, true, true, true, true, true, true, true, true, true, true, true, false, false, false, false, false, false] rfl rfl (take_of rfl (by kernel_rfl)) (fun _ _ _ h => h) (Or.inl ⟨by rfl, ?_⟩) hHeld ?_ ?_
      rotate_left
      · rintro w' ⟨s0, s1, s2, s3, s4⟩
        go_simp
        with_reducible rfl
      rotate_left
      · simp only [Act.put, List.setIfInBounds_toArray, List.set_cons_zero, List.set_cons_succ, i64_w, i32_w]
        rfl
      refine pure_ (i := 13) (N := some 36) (v := ?_) (a' := ?_) #[true, true, true, true, true, true, true, true, true, true, true, true, true, true, false, false, false, false, false] rfl rfl (any_of rfl (by kernel_rfl)) (fun _ _ _ h => h) (Or.inl ⟨by rfl, ?_⟩) ?_ ?_
      rotate_left
      · intro w'
        go_simp
        with_reducible rfl
      rotate_left
      · simp only [Act.put, List.setIfInBounds_toArray, List.set_cons_zero, List.set_cons_succ, i64_w, i32_w]
        rfl
      refine pure_ (i := 14) (N := some 37) (v := ?_) (a' := ?_) #[true, true, true, true, true, true, true, true, true, true, true, true, true, true, true, false, false, false, false] rfl rfl (any_of rfl (by kernel_rfl)) (fun _ _ _ h => h) (Or.inl ⟨by rfl, ?_⟩) ?_ ?_
      rotate_left
      · intro w'
        go_simp
        with_reducible rfl
      rotate_left
      · simp only [Act.put, List.setIfInBounds_toArray, List.set_cons_zero, List.set_cons_succ, i64_w, i32_w]
        rfl
      refine take_ (i := 15) (N := some 38) (v := ?_) (a' := ?_) #[true, true, true, true, true, true, true, true, true, true, true, true, true, true, true, true, false, false, false] rfl rfl (take_of rfl (by kernel_rfl)) (fun _ _ _ h => h) (Or.inl ⟨by rfl, ?_⟩) hHeld ?_ ?_
      rotate_left
      · rintro w' ⟨s0, s1, s2, s3, s4⟩
        go_simp
        with_reducible rfl
      rotate_left
      · simp only [Act.put, List.setIfInBounds_toArray, List.set_cons_zero, List.set_cons_succ, i64_w, i32_w]
        rfl
      refine pure_ (i := 16) (N := some 39) (v := ?_) (a' := ?_) #[true, true, true, true, true, true, true, true, true, true, true, true, true, true, true, true, true, false, false] rfl rfl (any_of rfl (by kernel_rfl)) (fun _ _ _ h => h) (Or.inl ⟨by rfl, ?_⟩) ?_ ?_
      rotate_left
      · intro w'
        go_simp
        with_reducible rfl
      rotate_left
      · simp only [Act.put, List.setIfInBounds_toArray, List.set_cons_zero, List.set_cons_succ, i64_w, i32_w]
        rfl
      refine one_ (i := 17) (N := some 40) #[true, true, true, true, true, true, true, true, true, true, true, true, true, true, true, true, true, true, false] rfl rfl (one_of rfl (by kernel_rfl)) (by decide) (fun K hK => ?_)
      go_simp
      have HG6 := Aside0.mk (HG5d.out.alloc (.cells #[.int .u8 1, .int .u8 (IntKind.u8.wrap a), .int .u8 (IntKind.u8.wrap b), .int .u8 (IntKind.u8.wrap c), .int .u8 (IntKind.u8.wrap d), .int .u8 (IntKind.u8.wrap f)] 5))
      have HN6 := Aside0.mk (heap_alloc_new W5d (.cells #[.int .u8 1, .int .u8 (IntKind.u8.wrap a), .int .u8 (IntKind.u8.wrap b), .int .u8 (IntKind.u8.wrap c), .int .u8 (IntKind.u8.wrap d), .int .u8 (IntKind.u8.wrap f)] 5))
      refine hK.out _ _ HG6.out.reads6 (fun hHeld => ?_)
      clear hK K
      try simp only [Act.put, List.setIfInBounds_toArray, List.set_cons_zero, List.set_cons_succ, i64_w, i32_w]
      clear HG5d
      generalize hz6 : W5d.heap.size = b6 at *
      generalize World.alloc W5d _ = W6 at *
      have HS6 : Aside0 (∀ j v, (([1, IntKind.u8.wrap a, IntKind.u8.wrap b, IntKind.u8.wrap c, IntKind.u8.wrap d, IntKind.u8.wrap f] : List Int).map (Value.int .u8))[j]? = some v → W6.cell? ((⟨b6, 0, none⟩ : Addr).add j) = some v) := ⟨fun j v hj => by rw [Addr.add_mid, Nat.zero_add, cell_of_row W6 _ j _ _ _ HN6.out]; simpa using hj⟩
      refine one_ (i := 18) (N := some 41) #[true, true, true, true, true, true, true, true, true, true, true, true, true, true, true, true, true, true, true] rfl rfl (one_of rfl (by kernel_rfl)) (by decide) (fun K hK => ?_)
      refine step_copy_own rfl (.tmp 24) (.tmp 40) 22 22 rfl 5 Try.underlying22 size5 (wL.heap.size + 1) 4 8 8 ⟨b6, 0, none⟩ 6 6 rfl rfl _ _ HG6.out.head (([1, IntKind.u8.wrap a, IntKind.u8.wrap b, IntKind.u8.wrap c, IntKind.u8.wrap d, IntKind.u8.wrap f] : List Int).map (Value.int .u8)) (by simp) HS6.out (by simp) (by simp [Value.oneCell']) ?_
      generalize hW7 : World.setRow _ _ _ = W7
      have HG7 : Aside0 (Gh w wL W7 #[.int .i64 a, .int .i64 b, .int .i64 c, .int .i64 d, .int .i64 f, .slice A rom.length n] #[.int .i64 c, .int .i64 d, .int .i64 f] [67, 65, 82, 84, 1, IntKind.u8.wrap a, IntKind.u8.wrap b, IntKind.u8.wrap c, IntKind.u8.wrap d, IntKind.u8.wrap f, 0, 0]) := ⟨by rw [← hW7]; exact HG6.out.head_set (hs' := [67, 65, 82, 84, 1, IntKind.u8.wrap a, IntKind.u8.wrap b, IntKind.u8.wrap c, IntKind.u8.wrap d, IntKind.u8.wrap f, 0, 0])⟩
      clear hW7
      refine hK.out _ _ HG7.out.reads6 (fun hHeld => ?_)
      clear hK K
      try simp only [Act.put, List.setIfInBounds_toArray, List.set_cons_zero, List.set_cons_succ, i64_w, i32_w]
      refine done_ (done_of rfl (by kernel_rfl)) ?_
      clear HG6 HN6 HS6 hHeld
      simp only [IntKind.wrap_u8] at HG7
      have hu48 := Try.underlying48
      have q5 : W7.cell? ⟨w.heap.size, 5, none⟩ = some (.slice A rom.length n) := (cart_at HG7.out.cart).2.2.2.2.2
      have hi48 : (Try.prog.info? 48).map (·.size) = some ([.int .u8 67, .int .u8 65, .int .u8 82, .int .u8 84, .int .u8 1, .int .u8 (a % 256), .int .u8 (b % 256), .int .u8 (c % 256), .int .u8 (d % 256), .int .u8 (f % 256), .int .u8 0, .int .u8 0] : List Value).length := by kernel_rfl
      obtain ⟨s, hs⟩ : ∃ s, sealOf (headL a b c d f ++ rom) = s := ⟨_, rfl⟩
      have HBS := Lib.hid (show Bytes ([67, 65, 82, 84, 1, a % 256, b % 256, c % 256, d % 256, f % 256, 0, 0] ++ rom) from fun x hx => (List.mem_append.1 hx).elim (bytes_head a b c d f x) (HBY.out x))
      have HSV := Lib.hid (show sealOf ([67, 65, 82, 84, 1, a % 256, b % 256, c % 256, d % 256, f % 256, 0, 0] ++ rom) = s from hs)
      go_upto_region 8 with (first | (refine wpList_load_mid rfl 48 (.tmp 5) rfl (wL.heap.size + 1) 0 rfl [.int .u8 67, .int .u8 65, .int .u8 82, .int .u8 84, .int .u8 1, .int .u8 (a % 256), .int .u8 (b % 256), .int .u8 (c % 256), .int .u8 (d % 256), .int .u8 (f % 256), .int .u8 0, .int .u8 0] _ (range_blk HG7.out.head) hu48 rfl hi48 ?_) | (go_at_call 22; (with_reducible refine (seal_call 67 65 82 84 1 (a % 256) (b % 256) (c % 256) (d % 256) (f % 256) 0 0 A n rom _ s HSV.out HBS.out hl (Kd.C_below HR.out HG7.out.cart.bel) hc).mono ?_); rintro e W8 ⟨rfl, hd⟩; have HG8 := Aside0.mk (HG7.out.below hd); clear hd HG7 q5))
      have HGZ := Aside0.mk HG8.out.size
      have HG9 := Aside0.mk (HG8.out.alloc (.cells #[.int .u8 (s % 256), .int .u8 (s / 256 % 256), .int .u8 (s / 65536 % 256), .int .u8 (s / 16777216 % 256)] 49))
      have HN9 := Aside0.mk (heap_alloc_new W8 (.cells #[.int .u8 (s % 256), .int .u8 (s / 256 % 256), .int .u8 (s / 65536 % 256), .int .u8 (s / 16777216 % 256)] 49))
      have HZ9 := Aside0.mk (World.size_alloc W8 (.cells #[.int .u8 (s % 256), .int .u8 (s / 256 % 256), .int .u8 (s / 65536 % 256), .int .u8 (s / 16777216 % 256)] 49))
      clear HG8 HBS
      have HL9 : Aside0 (wL.heap.size + 1 < W8.heap.size) := ⟨HGZ.out⟩
      clear HGZ
      generalize hz8 : W8.heap.size = b8 at *
      generalize World.alloc W8 _ = W9 at *
      refine start_ (n := 8) (S := fun W' => W'.cell? ⟨w.heap.size, 5, none⟩ = some (.slice A rom.length n)) (ds := []) #[false, false, false, false, false, false, false, false] (by kernel_rfl) rfl rfl (cart_at HG9.out.drew.cart).2.2.2.2.2 (fun hHeld => ?_)
      have HGA := Aside0.mk HG9.out.drew
      have HNA : Aside0 (W9.drew.heap[b8]? = _) := ⟨HN9.out⟩
      have HZA : Aside0 (W9.drew.heap.size = b8 + 1) := ⟨HZ9.out⟩
      clear HG9 HN9 HZ9
      generalize W9.drew = WA at *
      refine pure_ (i := 0) (N := some 46) (v := ?_) (a' := ?_) #[true, false, false, false, false, false, false, false] rfl rfl (any_of rfl (by kernel_rfl)) (fun _ _ _ h => h) (Or.inl ⟨by rfl, ?_⟩) ?_ ?_
      rotate_left
      · intro w'
        go_simp
        with_reducible rfl
      rotate_left
      · simp only [Act.put, List.setIfInBounds_toArray, List.set_cons_zero, List.set_cons_succ, i64_w, i32_w]
        rfl
      refine pure_ (i := 1) (N := some 47) (v := ?_) (a' := ?_) #[true, true, false, false, false, false, false, false] rfl rfl (any_of rfl (by kernel_rfl)) (fun _ _ _ h => h) (Or.inl ⟨by rfl, ?_⟩) ?_ ?_
      rotate_left
      · intro w'
        go_simp
        with_reducible rfl
      rotate_left
      · simp only [Act.put, List.setIfInBounds_toArray, List.set_cons_zero, List.set_cons_succ, i64_w, i32_w]
        rfl
      refine pure_ (i := 2) (N := some 48) (v := ?_) (a' := ?_) #[true, true, true, false, false, false, false, false] rfl rfl (any_of rfl (by kernel_rfl)) (fun _ _ _ h => h) (Or.inl ⟨by rfl, ?_⟩) ?_ ?_
      rotate_left
      · intro w'
        go_simp
        with_reducible rfl
      rotate_left
      · simp only [Act.put, List.setIfInBounds_toArray, List.set_cons_zero, List.set_cons_succ, i64_w, i32_w]
        rfl
      refine take_ (i := 3) (N := some 49) (v := ?_) (a' := ?_) #[true, true, true, true, false, false, false, false] rfl rfl (take_of rfl (by kernel_rfl)) (fun _ _ _ h => h) (Or.inl ⟨by rfl, ?_⟩) hHeld ?_ ?_
      rotate_left
      · intro w' s0
        go_simp
        with_reducible rfl
      rotate_left
      · simp only [Act.put, List.setIfInBounds_toArray, List.set_cons_zero, List.set_cons_succ, i64_w, i32_w]
        rfl
      refine one_ (i := 4) (N := some 50) #[true, true, true, true, true, false, false, false] rfl rfl (one_of rfl (by kernel_rfl)) (by decide) (fun K hK => ?_)
      go_simp
      have HGB := Aside0.mk (HGA.out.alloc (.cells #[.slice (some ⟨wL.heap.size + 1, 0, none⟩) 12 12, .slice (some ⟨b8, 0, none⟩) 4 4, .slice A rom.length n] 22))
      have HNB := Aside0.mk ((Below.heap_alloc WA (.cells #[.slice (some ⟨wL.heap.size + 1, 0, none⟩) 12 12, .slice (some ⟨b8, 0, none⟩) 4 4, .slice A rom.length n] 22) b8 (by have := HZA.out; omega)).trans HNA.out)
      have HBB := Aside0.mk (heap_alloc_new WA (.cells #[.slice (some ⟨wL.heap.size + 1, 0, none⟩) 12 12, .slice (some ⟨b8, 0, none⟩) 4 4, .slice A rom.length n] 22))
      refine hK.out _ _ (cart_at HGB.out.cart).2.2.2.2.2 (fun hHeld => ?_)
      clear hK K
      try simp only [Act.put, List.setIfInBounds_toArray, List.set_cons_zero, List.set_cons_succ, i64_w, i32_w]
      clear HGA HNA HZA
      generalize WA.heap.size = bA at *
      generalize World.alloc WA _ = WB at *
      have hls := lists3 (l1 := [67, 65, 82, 84, 1, a % 256, b % 256, c % 256, d % 256, f % 256, 0, 0]) (l2 := [s % 256, s / 256 % 256, s / 65536 % 256, s / 16777216 % 256]) (l3 := rom) HBB.out (reads_blk (xs := [67, 65, 82, 84, 1, a % 256, b % 256, c % 256, d % 256, f % 256, 0, 0]) HGB.out.head (by simp)) rfl (Nat.le_refl _) (reads_blk (xs := [s % 256, s / 256 % 256, s / 65536 % 256, s / 16777216 % 256]) HNB.out (by simp)) rfl (Nat.le_refl _) (Kd.C_below HR.out HGB.out.cart.bel) rfl hc
      have HLS := Aside0.mk hls
      clear hls
      refine one_ (i := 5) (N := some 51) #[true, true, true, true, true, true, false, false] rfl rfl (one_of rfl (by kernel_rfl)) (by decide) (fun K hK => ?_)
      refine goes_ Try.func28 (by kernel_rfl) rfl #[.slice (some ⟨bA, 0, none⟩) 3 3] (by rfl) rfl rfl (by (try simp only [List.map_toArray, List.map_cons, List.map_nil]); first | done | rfl) ?_
      refine (concat_walk (some ⟨bA, 0, none⟩) 3 [[67, 65, 82, 84, 1, a % 256, b % 256, c % 256, d % 256, f % 256, 0, 0], [s % 256, s / 256 % 256, s / 65536 % 256, s / 16777216 % 256], rom] _ HLS.out (by simp) (by simp; omega)).mono ?_
      rintro e WC ⟨v, rfl, hv, hd⟩
      refine ⟨_, rfl, ?_⟩
      have HBE := Aside0.mk (HGB.out.cart.bel.trans (hd.mono HGB.out.cart.bel.size))
      have HV := Aside0.mk (Kd.R_lower hv HGB.out.cart.bel.size)
      have HCE := Aside0.mk (HGB.out.cart.below hd)
      clear hd hv HGB HNB HBB HLS
      refine hK.out _ _ (cart_at HCE.out).2.2.2.2.2 (fun hHeld => ?_)
      clear hK K
      refine norm_ (a' := ?_) ?_ ?_
      rotate_left
      · show Act.put _ (some 51) _ = _
        simp only [Act.put, List.setIfInBounds_toArray, List.set_cons_zero, List.set_cons_succ, i64_w, i32_w]
        rfl
      refine pure_ (i := 6) (N := some 2) (v := ?_) (a' := ?_) #[true, true, true, true, true, true, true, false] rfl rfl (any_of rfl (by kernel_rfl)) (fun _ _ _ h => h) (Or.inl ⟨by rfl, ?_⟩) ?_ ?_
      rotate_left
      · intro w'
        go_simp
        with_reducible rfl
      rotate_left
      · simp only [Act.put, List.setIfInBounds_toArray, List.set_cons_zero, List.set_cons_succ, i64_w, i32_w]
        rfl
      refine pure_ (i := 7) (N := some 3) (v := ?_) (a' := ?_) #[true, true, true, true, true, true, true, true] rfl rfl (any_of rfl (by kernel_rfl)) (fun _ _ _ h => h) (Or.inl ⟨by rfl, ?_⟩) ?_ ?_
      rotate_left
      · intro w'
        go_simp
        with_reducible rfl
      rotate_left
      · simp only [Act.put, List.setIfInBounds_toArray, List.set_cons_zero, List.set_cons_succ, i64_w, i32_w]
        rfl
      refine done_ (done_of rfl (by kernel_rfl)) ?_
      go_wp2_with (fail)
      go_ret2
      rw [hp, hs]
      have he : [[67, 65, 82, 84, 1, a % 256, b % 256, c % 256, d % 256, f % 256, 0, 0], [s % 256, s / 256 % 256, s / 65536 % 256, s / 16777216 % 256], rom].flatten = headL a b c d f ++ (sum4 s ++ rom) := by simp [headL, sum4]
      refine ⟨v, rfl, ?_, HBE.out⟩
      show (Kd.int .u8).R 5 WC w.heap.size (fun _ => True) v (headL a b c d f ++ (sum4 s ++ rom))
      rw [← he]
      exact HV.out
    · have hp : makeL a b c d f rom = ([], 13) := if_neg (fun h => hL h.2)
      go_wp2_with (fail)
      go_ret2
      rw [hp]
      exact ⟨_, rfl, Kd.R_nil _ _ _ _ _, HC3.out.bel⟩

end Go.Proofs.Ytoiiphlhdnlniaa.Given
