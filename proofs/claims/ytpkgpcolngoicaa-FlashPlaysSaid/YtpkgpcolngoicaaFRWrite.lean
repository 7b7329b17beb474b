/- The document's flash chip: a write. -/
import Derived.Test.YtpkgpcolngoicaaAx1
import Derived.Test.YtpkgpcolngoicaaFRCut
import Derived.Deep.Cut
set_option linter.unusedVariables false
set_option linter.unusedSimpArgs false
namespace Go.Proofs.Ytpkgpcolngoicaa.Given
open Go.RowKit Go.Proofs.Ytpkgpcolngoicaa.All Go.Proofs.Ytpkgpcolngoicaa.Sep Go.Proofs.YtpkgpcolngoicaaW.PrintWords Go.Proofs.YtpkgpcolngoicaaW.PrintLast Go.Proofs.YtpkgpcolngoicaaW.PrintMore
attribute [local go_sem] max2_int min2_int max_two min_two

abbrev PutS := S47
abbrev kPut : Kd PutS := k47
abbrev pT : TypeId := 47
theorem infoPut : (Try.prog.info? pT).map (fun i => (i.zero, i.size, i.bytes)) = some (some (.agg #[.int .i64 0, .int .u8 0]), 2, 16) := by kernel_rfl
def putC (l : List PutS) : List Value := l.flatMap fun p => [.int .i64 p.f0, .int .u8 p.f1]
theorem put1_C {W : World} {b : Nat} {p v : Int} (h : W.heap[b]? = some (.cells #[.int .i64 p, .int .u8 v] pT (0, 0))) : Kd.C kPut W (some ⟨b, 0, none⟩) 1 [⟨p, v⟩] := by
  refine ⟨rfl, by omega, fun _ => ⟨_, rfl, fun j q hj => ⟨_, rfl, k47_mk W q, fun k u hk => ?_⟩⟩⟩
  have hj0 : j = 0 := by have := (List.getElem?_eq_some_iff.1 hj).1; simp at this; exact this
  subst hj0
  obtain rfl : (⟨p, v⟩ : PutS) = q := by simpa using hj
  have hk2 : k < 2 := (List.getElem?_eq_some_iff.1 hk).1
  have e : (⟨b, 0, none⟩ : Addr).add (0 * 2 + k) = ⟨b, k, none⟩ := by unfold Addr.add; split <;> simp_all
  show W.cell? ((⟨b, 0, none⟩ : Addr).add (0 * 2 + k)) = some u
  rw [e]
  refine cell_of_block h k u ?_
  have : (#[Value.int .i64 p, Value.int .u8 v] : Array Value)[k]? = ([Value.int .i64 p, Value.int .u8 v] : List Value)[k]? := by simp
  rw [this]
  exact hk
theorem rseq_st {w0 w w1 : World} {ts : List Thing} {r : Nat} {s : RS} {dv sv : Value} {P : Nat} {cs : Array Value} (h : Held w0 w (box r (rcells s dv sv) rT :: box P cs pT :: dRow dv s.data :: qRow sv s.seq :: ts)) {v : Value} {l : List PutS} (hR : kPut.R pT w1 w.heap.size (fun _ => True) v l) (hb : Below w.heap.size w w1) :
    Held w0 (w1.setCell ⟨r, 2, none⟩ v) (box r (rcells { s with seq := l } dv v) rT :: box P cs pT :: dRow dv s.data :: qRow v l :: ts) := by
  have h1 := (h.fourth.drop.row_new hR hb).swap
  have h2 := rstore h1 2 v { s with seq := l } dv v (by simp [rcells])
  exact h2.swap.perm ((List.Perm.swap _ _ _).trans (List.Perm.cons _ ((List.Perm.swap _ _ _).trans (List.Perm.cons _ (.swap _ _ _)))))
theorem row_blockk {α : Type} {d : Kd α} {e : Nat} {w0 w : World} {ts : List Thing} {A : Option Addr} {n c : Nat} {xs : List α} (h : Held w0 w (row d e (.slice A n c) xs :: ts)) (hp : 0 < xs.length) : ∃ q, A = some ⟨q, 0, none⟩ := by
  obtain ⟨f, _, h1, hr⟩ := h.at_
  obtain ⟨q, cap, e, _⟩ := Kd.R_form hr hp
  injection e with e
  exact ⟨q, e⟩
section
variable {w0 w : World} {ts : List Thing} {r : Nat} {s : RS}
def writeR (s : RS) (p v : Int) (bn gs : Bool) : RS :=
  if 0 < s.left then s
  else if v = 240 ∧ bn = false then { s with seq := [], named := false }
  else if gs = false then { s with seq := [] }
  else if s.seq.length = 2 ∧ v = 144 then { s with seq := [], named := true }
  else if s.seq.length = 3 ∧ bn = true then beginR s 1 p 1 v 10
  else if s.seq.length = 5 ∧ v = 48 then beginR s 2 (p - p % 256) 256 0 100
  else if s.seq.length = 5 ∧ v = 16 then beginR s 2 0 s.data.length 0 200
  else { s with seq := s.seq ++ [⟨p, v⟩] }
theorem rwrite_busy (h : RHeld w0 w r s ts) (a v : Int) (hl : 0 < s.left) : Calls Try.prog 29 #[ptr r, .int .i64 a, .int .u8 v] w fun e w' => e = .returned (.tuple #[]) ∧ RHeld w0 w' r s ts := by
  have HH := Aside0.mk h
  obtain ⟨dv, sv, h⟩ := h
  have c9 := rcell h 9 (.int .i64 s.left) rfl
  clear h
  generalize s.left = m at *
  go_enter Try.func29, Try.ntmps29
  go_wp2
  exact bodyPost_ret (results_none rfl _ _ _) rfl ⟨rfl, HH.out⟩
/-- What is met up to the byte's test: whether a byte is next. -/
structure Met (w0 w' : World) (r P : Nat) (s : RS) (A Aq : Option Addr) (c cq : Nat) (p v : Int) (ts : List Thing) : Prop where
  out : Held w0 w' (box r (rcells s (.slice A s.data.length c) (.slice Aq s.seq.length cq)) rT :: box P #[.int .i64 p, .int .u8 v] pT :: dRow (.slice A s.data.length c) s.data :: qRow (.slice Aq s.seq.length cq) s.seq :: ts)
theorem Met.below {w' w'' : World} {P : Nat} {A Aq : Option Addr} {c cq : Nat} {p v : Int} (h : Met w0 w' r P s A Aq c cq p v ts) (hb : Below w'.heap.size w' w'') : Met w0 w'' r P s A Aq c cq p v ts := ⟨h.out.below hb⟩
theorem Met.drew {w' : World} {P : Nat} {A Aq : Option Addr} {c cq : Nat} {p v : Int} (h : Met w0 w' r P s A Aq c cq p v ts) : Met w0 w'.drew r P s A Aq c cq p v ts := ⟨h.out.drew⟩
theorem met_S {w' : World} {P q : Nat} {A Aq : Option Addr} {c cq : Nat} {p v : Int} (h : Met w0 w' r P s A Aq c cq p v ts) (hQ : s.seq.length = q) :
    w'.cell? ⟨r, 2, none⟩ = some (.slice Aq q cq) ∧ w'.cell? ⟨P, 0, none⟩ = some (.int .i64 p) ∧ w'.cell? ⟨P, 1, none⟩ = some (.int .u8 v) := by
  subst hQ
  exact ⟨rcell h.out 2 _ rfl, cell_of_block h.out.swap.box_at.1 0 _ rfl, cell_of_block h.out.swap.box_at.1 1 _ rfl⟩
theorem met_C {w' : World} {P q : Nat} {A Aq : Option Addr} {c cq : Nat} {p v : Int} (h : Met w0 w' r P s A Aq c cq p v ts) (hQ : s.seq.length = q) : kPut.C w' Aq q s.seq := by
  subst hQ
  exact row_reads h.out.fourth
theorem lit0_R {base : Nat} (W : World) (hb : base ≤ W.heap.size) : kPut.R pT (W.alloc (.cells #[] pT)) base (fun _ => True) (.slice (some ⟨W.heap.size, 0, none⟩) 0 0) [] :=
  ⟨fun _ _ => trivial, [], World.ownsRow_lit (size := 2) W #[] 0 hb (by decide) rfl, Reps.none _ _⟩
theorem put_KM (w : World) (base : Nat) (ok : Nat → Prop) : ∀ (x : PutS) (cs : List Value), kPut.K w x cs → kPut.M w base ok x cs := fun x cs h => by
  rw [k47_open h]
  exact k47_mkM w base ok x
def app (s : RS) (p v : Int) : RS := { s with seq := s.seq ++ [⟨p, v⟩] }
theorem rseq_met {w' w1 : World} {P q : Nat} {A Aq A9 : Option Addr} {c cq n9 : Nat} {p v : Int} (h : Met w0 w' r P s A Aq c cq p v ts) (hQ : s.seq.length = q) (hR : kPut.R pT w1 w'.heap.size (fun _ => True) (.slice A9 (q + 1) n9) (s.seq ++ [⟨p, v⟩])) (hb : Below w'.heap.size w' w1) :
    Met w0 (w1.setCell ⟨r, 2, none⟩ (.slice A9 (q + 1) n9)) r P (app s p v) A A9 c n9 p v ts := by
  have e : (app s p v).seq.length = q + 1 := by show (s.seq ++ [(⟨p, v⟩ : PutS)]).length = q + 1; rw [List.length_append, hQ]; rfl
  have := rseq_st h.out hR hb
  refine ⟨?_⟩
  rw [e]
  exact this
theorem goes_met {w' : World} {P N : Nat} {A Aq : Option Addr} {c cq : Nat} {p v : Int} {gs : Bool} (h : Met w0 w' r P s A Aq c cq p v ts) (hN : s.seq.length = N) (hg : keepsakeref11_goes.f s.seq = some gs) :
    Calls Try.prog 41 #[.slice Aq N cq] w' fun e w'' => e = .returned (.bool gs) ∧ Met w0 w'' r P s A Aq c cq p v ts := by
  subst hN
  obtain ⟨A', c', hv, hl, hC⟩ := h.out.fourth.row_at
  injection hv with h1 h2 h3
  subst h1 h3
  exact (keepsakeref11_goes.calls _ _ s.seq gs _ hC hl hg).mono fun e w'' ⟨he, hb⟩ => ⟨he, h.below hb⟩
theorem met_close {w' : World} {P : Nat} {A Aq : Option Addr} {c cq : Nat} {p v : Int} (h : Met w0 w' r P s A Aq c cq p v ts) : RHeld w0 w' r s ts := ⟨_, _, h.out.swap.drop⟩
theorem met_nil {w' : World} {P : Nat} {A Aq : Option Addr} {c cq : Nat} {p v : Int} (h : Met w0 w' r P s A Aq c cq p v ts) : RHeld w0 (w'.setCell ⟨r, 2, none⟩ (.slice none 0 0)) r { s with seq := [] } ts :=
  rclose_nil (s := s) (s' := { s with seq := [] }) ((rstore h.out 2 (.slice none 0 0) { s with seq := [] } (.slice A s.data.length c) (.slice none 0 0) (by simp [rcells])).swap.drop.third.drop) rfl rfl
theorem met_named {w' : World} {P : Nat} {A Aq : Option Addr} {c cq : Nat} {p v : Int} (h : Met w0 w' r P s A Aq c cq p v ts) : RHeld w0 ((w'.setCell ⟨r, 3, none⟩ (.bool true)).setCell ⟨r, 2, none⟩ (.slice none 0 0)) r { s with seq := [], named := true } ts :=
  rclose_nil (s := s) (s' := { s with seq := [], named := true }) ((rstore (rstore h.out 3 (.bool true) { s with named := true } (.slice A s.data.length c) (.slice Aq s.seq.length cq) (by simp [rcells])) 2 (.slice none 0 0) { s with seq := [], named := true } (.slice A s.data.length c) (.slice none 0 0) (by simp [rcells])).swap.drop.third.drop) rfl rfl
theorem met_cells {w' : World} {P N L : Nat} {A Aq : Option Addr} {c cq : Nat} {p v : Int} (h : Met w0 w' r P s A Aq c cq p v ts) (hN : s.seq.length = N) (hL : s.data.length = L) :
    w'.cell? ⟨r, 1, none⟩ = some (.slice A L c) ∧ w'.cell? ⟨r, 2, none⟩ = some (.slice Aq N cq) ∧ w'.cell? ⟨r, 3, none⟩ = some (.bool s.named) ∧ w'.cell? ⟨P, 0, none⟩ = some (.int .i64 p) ∧ w'.frozen? ⟨r, 2, none⟩ = false ∧ w'.frozen? ⟨r, 3, none⟩ = false := by
  subst hN hL
  exact ⟨rcell h.out 1 _ rfl, rcell h.out 2 _ rfl, rcell h.out 3 _ rfl, cell_of_block h.out.swap.box_at.1 0 _ rfl, rfrozen h.out 2, rfrozen h.out 3⟩
theorem rwrite_ready (h : RHeld w0 w r s ts) : ∃ A Aq c cq, Held w0 w (box r (rcells s (.slice A s.data.length c) (.slice Aq s.seq.length cq)) rT :: dRow (.slice A s.data.length c) s.data :: qRow (.slice Aq s.seq.length cq) s.seq :: ts) ∧ s.data.length ≤ c ∧ s.seq.length ≤ cq ∧ kPut.C w Aq s.seq.length s.seq := by
  obtain ⟨dv, sv, h⟩ := h
  obtain ⟨A, c, rfl, hc, _⟩ := h.swap.row_at
  obtain ⟨Aq, cq, rfl, hcq, hC⟩ := h.third.row_at
  exact ⟨A, Aq, c, cq, h, hc, hcq, hC⟩
set_option maxHeartbeats 6400000 in
set_option maxRecDepth 20000 in
theorem rwrite_main (h : RHeld w0 w r s ts) (a v : Int) (hd0 : 0 < s.data.length) (hd1 : s.data.length ≤ 1100) (hq : s.seq.length ≤ 5) (bn gs : Bool) (hl : s.left = 0)
    (hb3 : s.seq.length = 3 → keepsakeref11_Put_is.f (rd_T47 s.seq 2).f0 (rd_T47 s.seq 2).f1 85 160 = some bn) (hbn : s.seq.length ≠ 3 → bn = false)
    (hgs : keepsakeref11_goes.f (s.seq ++ [⟨place s.data a, v⟩]) = some gs) :
    Calls Try.prog 29 #[ptr r, .int .i64 a, .int .u8 v] w fun e w' => e = .returned (.tuple #[]) ∧ RHeld w0 w' r (writeR s (place s.data a) v bn gs) ts := by
  obtain ⟨A, Aq, c, cq, h, hc, hcq, hC⟩ := rwrite_ready h
  have c1 := rcell h 1 (.slice A s.data.length c) rfl
  have c2 := rcell h 2 (.slice Aq s.seq.length cq) rfl
  have c9 := rcell h 9 (.int .i64 s.left) rfl
  have hrl : r < w.heap.size := World.block_lt_of_cell? w ⟨r, 1, none⟩ c1
  rw [hl] at c9
  have e1 : ((s.data.length : Int) == 0) = false := beq_eq_false_iff_ne.mpr (by omega)
  have e2 : ((s.data.length : Int) != 0) = true := bne_iff_ne.mpr (by omega)
  have h0 : 0 ≤ Given.mx 0 a := by unfold Given.mx; split <;> omega
  have hpl : Given.mx 0 a % (s.data.length : Int) = place s.data a := rfl
  have hmx : (if 0 < a then a else 0) = Given.mx 0 a := rfl
  have HW : Aside0 (writeR s (place s.data a) v bn gs = writeR s (place s.data a) v bn gs) := ⟨rfl⟩
  obtain ⟨hp0, hp1⟩ := place_bd s.data a hd0
  generalize Given.mx 0 a = y at *
  have HM0 : Aside0 (Met w0 (w.alloc (.cells #[.int .i64 (place s.data a), .int .u8 v] pT)) r w.heap.size s A Aq c cq (place s.data a) v ts) := ⟨⟨(h.box_new #[.int .i64 (place s.data a), .int .u8 v] pT).swap⟩⟩
  generalize place s.data a = p at *
  generalize hD : s.data.length = L at *
  generalize hQ : s.seq.length = q at *
  have HAq : Hid (0 < q → ∃ g, Aq = some ⟨g, 0, none⟩) := Lib.hid (fun hp => row_blockk h.third (by rw [hQ]; exact hp))
  have HC := Aside0.mk hC
  have HB3 := Lib.hid hb3
  clear h hC hb3
  go_enter Try.func29, Try.ntmps29
  go_upto_if 30 with fail
  go_cut [7] from 10 (fun s7 w' => s7 = .bool bn ∧ Aside0 (Met w0 w' r w.heap.size s A Aq c cq p v ts))
  case first =>
    by_cases hq3 : q = 3
    · subst hq3
      obtain ⟨g, rfl⟩ := HAq.out (by omega)
      obtain ⟨ad, hadr, p0, p1⟩ := at_T47 HC.out 2 (by omega) (by omega)
      injection hadr with hadr
      subst hadr
      have hgl : g < w.heap.size := World.block_lt_of_cell? _ _ p1
      replace p0 : w.cell? ⟨g, 4, none⟩ = _ := p0
      replace p1 : w.cell? ⟨g, 5, none⟩ = _ := p1
      have HF := Aside0.mk (HB3.out rfl)
      generalize rd_T47 s.seq 2 = e at *
      obtain ⟨f0, f1⟩ := e
      simp only at p0 p1 HF
      go_wp2_with (go_at_call 40; (with_reducible refine (keepsakeref11_Put_is.calls _ _ _ _ _ _ HF.out).mono ?_); rintro e w1 ⟨rfl, hb⟩; have HM1 := Aside0.mk (HM0.out.below hb); clear hb)
      go_meet
      case rel => exact ⟨rfl, HM1⟩
    · have hb := hbn hq3
      subst hb
      have hq4 : ((q : Int) == 3) = false := beq_eq_false_iff_ne.2 (by omega)
      go_wp2
      go_meet
      case rel => exact ⟨rfl, HM0⟩
  case rest =>
    obtain ⟨rfl, HM⟩ := hcut
    clear HM0 HB3 HC HAq c1 c2 c9
    generalize w.heap.size = P at *
    go_upto_region 5 with fail
    go_cut [43] from 10 (fun s43 w' => s43 = .bool (decide (v = 240 ∧ bn = false)) ∧ Aside0 (Met w0 w' r P s A Aq c cq p v ts))
    case first =>
      by_cases hv : v = 240
      · have hvb : (v == 240) = true := beq_iff_eq.2 hv
        cases bn with
        | true =>
          have e : decide (v = 240 ∧ true = false) = false := decide_eq_false (fun h => absurd h.2 (by decide))
          have E := Aside0.mk e
          clear hv e
          go_wp2
          go_meet
          case rel => exact ⟨by rw [E.out], HM⟩
        | false =>
          have e : decide (v = 240 ∧ false = false) = true := decide_eq_true ⟨hv, rfl⟩
          have E := Aside0.mk e
          clear hv e
          go_wp2
          go_meet
          case rel => exact ⟨by rw [E.out], HM⟩
      · have hvb : (v == 240) = false := beq_eq_false_iff_ne.2 hv
        have e : decide (v = 240 ∧ bn = false) = false := decide_eq_false (fun h => hv h.1)
        have E := Aside0.mk e
        clear hv e
        go_wp2
        go_meet
        case rel => exact ⟨by rw [E.out], HM⟩
    case rest =>
      obtain ⟨rfl, HM⟩ := hcut
      by_cases hc : v = 240 ∧ bn = false
      · have e := decide_eq_true hc
        rw [e]
        have hw : writeR s p v bn gs = { s with seq := [], named := false } := by unfold writeR; rw [if_neg (by omega), if_pos hc]
        have k2 := rcell HM.out.out 2 _ rfl
        have k3 := rcell HM.out.out 3 _ rfl
        have e2 := rfrozen HM.out.out 2
        have e3 := rfrozen HM.out.out 3
        simp only [rcells] at k2 k3
        have hst := rstore (rstore HM.out.out 2 (.slice none 0 0) s (.slice A s.data.length c) (.slice none 0 0) (by simp [rcells])) 3 (.bool false) { s with named := false } (.slice A s.data.length c) (.slice none 0 0) (by simp [rcells])
        have HE := Aside0.mk (rclose_nil (s := s) (s' := { s with seq := [], named := false }) (hst.swap.drop.third.drop) rfl rfl)
        have HW2 := Aside0.mk hw
        clear hst e hc hw
        go_wp2
        exact bodyPost_ret (results_none rfl _ _ _) rfl ⟨rfl, by rw [HW2.out]; exact HE.out⟩
      · have e := decide_eq_false hc
        rw [e]
        clear e
        go_upto_region 8 with fail
        go_cut [] from 10 (fun w' => ∃ Aq' cq', Aside0 (Met w0 w' r P (app s p v) A Aq' c cq' p v ts))
        case first =>
          refine start_ (n := 13) (S := (fun w' => w'.cell? ⟨r, 2, none⟩ = some (.slice Aq q cq) ∧ w'.cell? ⟨P, 0, none⟩ = some (.int .i64 p) ∧ w'.cell? ⟨P, 1, none⟩ = some (.int .u8 v))) (ds := [12]) #[false, false, false, false, false, false, false, false, false, false, false, false, false] (by kernel_rfl) rfl rfl (met_S HM.out.drew hQ) (fun hHeld => ?_)
          have HM0 := Aside0.mk HM.out.drew
          clear HM
          generalize wc.drew = W0 at *
          have HB0 := Aside0.mk (Below.refl W0.heap.size W0)
          refine pure_ (i := 0) (N := some 50) (v := ?_) (a' := ?_) #[true, false, false, false, false, false, false, false, false, false, false, false, false] rfl rfl (any_of rfl (by kernel_rfl)) (fun _ _ _ h => h) (Or.inl ⟨by rfl, ?_⟩) ?_ ?_
          rotate_left
          · intro w'
            go_simp
            with_reducible rfl
          rotate_left
          · simp only [Act.put, List.setIfInBounds_toArray, List.set_cons_zero, List.set_cons_succ, i64_w, i32_w]
            rfl
          refine pure_ (i := 2) (N := some 52) (v := ?_) (a' := ?_) #[true, false, true, false, false, false, false, false, false, false, false, false, false] rfl rfl (any_of rfl (by kernel_rfl)) (fun _ _ _ h => h) (Or.inl ⟨by rfl, ?_⟩) ?_ ?_
          rotate_left
          · intro w'
            go_simp
            with_reducible rfl
          rotate_left
          · simp only [Act.put, List.setIfInBounds_toArray, List.set_cons_zero, List.set_cons_succ, i64_w, i32_w]
            rfl
          refine pure_ (i := 3) (N := some 53) (v := ?_) (a' := ?_) #[true, false, true, true, false, false, false, false, false, false, false, false, false] rfl rfl (any_of rfl (by kernel_rfl)) (fun _ _ _ h => h) (Or.inl ⟨by rfl, ?_⟩) ?_ ?_
          rotate_left
          · intro w'
            go_simp
            with_reducible rfl
          rotate_left
          · simp only [Act.put, List.setIfInBounds_toArray, List.set_cons_zero, List.set_cons_succ, i64_w, i32_w]
            rfl
          refine pure_ (i := 4) (N := some 54) (v := ?_) (a' := ?_) #[true, false, true, true, true, false, false, false, false, false, false, false, false] rfl rfl (any_of rfl (by kernel_rfl)) (fun _ _ _ h => h) (Or.inl ⟨by rfl, ?_⟩) ?_ ?_
          rotate_left
          · intro w'
            go_simp
            with_reducible rfl
          rotate_left
          · simp only [Act.put, List.setIfInBounds_toArray, List.set_cons_zero, List.set_cons_succ, i64_w, i32_w]
            rfl
          refine take_ (i := 5) (N := some 55) (v := ?_) (a' := ?_) #[true, false, true, true, true, true, false, false, false, false, false, false, false] rfl rfl (take_of rfl (by kernel_rfl)) (fun _ _ _ h => h) (Or.inl ⟨by rfl, ?_⟩) hHeld ?_ ?_
          rotate_left
          · rintro w' ⟨s0, s1, s2⟩
            go_simp
            with_reducible rfl
          rotate_left
          · simp only [Act.put, List.setIfInBounds_toArray, List.set_cons_zero, List.set_cons_succ, i64_w, i32_w]
            rfl
          refine take_ (i := 7) (N := some 57) (v := ?_) (a' := ?_) #[true, false, true, true, true, true, false, true, false, false, false, false, false] rfl rfl (take_of rfl (by kernel_rfl)) (fun _ _ _ h => h) (Or.inl ⟨by rfl, ?_⟩) hHeld ?_ ?_
          rotate_left
          · rintro w' ⟨s0, s1, s2⟩
            go_simp
            with_reducible rfl
          rotate_left
          · simp only [Act.put, List.setIfInBounds_toArray, List.set_cons_zero, List.set_cons_succ, i64_w, i32_w]
            rfl
          refine two_ (i := 1) (j := 8) (Ni := some 51) (Nj := some 58) #[true, true, true, true, true, true, false, true, false, false, false, false, false] #[true, false, true, true, true, true, false, true, true, false, false, false, false] rfl rfl rfl rfl (by kernel_rfl) (by decide) (by decide) (fun K hK => ?_) (fun K hK => ?_)
          · go_simp
            have HR1_1 := Aside0.mk (lit0_R W0 HB0.out.size)
            have HB1 := Aside0.mk (HB0.out.alloc HB0.out.size (.cells #[] pT))
            have HZ1 : Aside0 (W0.heap.size < (W0.alloc (.cells #[] pT)).heap.size) := ⟨by simp⟩
            generalize W0.alloc (.cells #[] pT) = W1 at *
            refine hK.out _ _ (met_S (HM0.out.below HB1.out) hQ) (fun hHeld => ?_)
            clear hK K
            try simp only [Act.put, List.setIfInBounds_toArray, List.set_cons_zero, List.set_cons_succ, i64_w, i32_w]
            refine two_ (i := 6) (j := 8) (Ni := some 56) (Nj := some 58) #[true, true, true, true, true, true, true, true, false, false, false, false, false] #[true, true, true, true, true, true, false, true, true, false, false, false, false] rfl rfl rfl rfl (by kernel_rfl) (by decide) (by decide) (fun K hK => ?_) (fun K hK => ?_)
            · refine Kd.R_append_rows_step kPut (w0 := W0) W0.heap.size (by rfl) (.tmp 51) (.tmp 55) 29 pT (.agg #[.int .i64 0, .int .u8 0]) 16 rfl Try.underlying29 infoPut rfl (by decide) (by omega) (.slice (some ⟨W0.heap.size, 0, none⟩) 0 0) ([] : List PutS) s.seq Aq q cq (fun _ => True) (fun _ => False) rfl rfl HR1_1.out (met_C (HM0.out.below HB1.out) hQ) (put_KM _ _ _) (fun _ hk => hk.elim) (fun _ _ => trivial) HB1.out HB1.out.size (by show (0 + q) * 16 ≤ _; omega) ?_
              intro v6 W2 ho hb hg hat
              obtain ⟨A6, n6, rfl⟩ := Kd.R_slice ho
              have hq6 : (([] : List PutS) ++ s.seq).length = q := hQ
              rw [hq6] at ho ⊢
              have HR6_2 : Aside0 (kPut.R pT W2 W0.heap.size (fun _ => True) (.slice A6 q n6) s.seq) := ⟨ho⟩
              clear hq6
              have HB2 := Aside0.mk hb
              clear ho hb hg hat
              refine hK.out _ _ (met_S (HM0.out.below HB2.out) hQ) (fun hHeld => ?_)
              clear hK K
              refine norm_ (a' := ?_) ?_ ?_
              rotate_left
              · show Act.put _ (some 56) _ = _
                simp only [Act.put, List.setIfInBounds_toArray, List.set_cons_zero, List.set_cons_succ, i64_w, i32_w]
                rfl
              refine one_ (i := 8) (N := some 58) #[true, true, true, true, true, true, true, true, true, false, false, false, false] rfl rfl (one_of rfl (by kernel_rfl)) (by decide) (fun K hK => ?_)
              go_simp
              have HP3 := Aside0.mk (heap_alloc_new W2 (.cells #[.int .i64 p, .int .u8 v] pT))
              have HB3 := Aside0.mk (HB2.out.alloc HB2.out.size (.cells #[.int .i64 p, .int .u8 v] pT))
              have HZ3 : Aside0 (W2.heap.size < (W2.alloc (.cells #[.int .i64 p, .int .u8 v] pT)).heap.size) := ⟨by simp⟩
              have HR6_3 := Aside0.mk (Kd.R_alloc HR6_2.out (.cells #[.int .i64 p, .int .u8 v] pT))
              generalize W2.alloc (.cells #[.int .i64 p, .int .u8 v] pT) = W3 at *
              refine hK.out _ _ (met_S (HM0.out.below HB3.out) hQ) (fun hHeld => ?_)
              clear hK K
              try simp only [Act.put, List.setIfInBounds_toArray, List.set_cons_zero, List.set_cons_succ, i64_w, i32_w]
              refine one_ (i := 9) (N := some 59) #[true, true, true, true, true, true, true, true, true, true, false, false, false] rfl rfl (one_of rfl (by kernel_rfl)) (by decide) (fun K hK => ?_)
              refine Kd.R_append_rows_step kPut (w0 := W0) W0.heap.size (by rfl) (.tmp 56) (.tmp 58) 29 pT (.agg #[.int .i64 0, .int .u8 0]) 16 rfl Try.underlying29 infoPut rfl (by decide) (by omega) (.slice A6 q n6) s.seq [⟨p, v⟩] (some ⟨W2.heap.size, 0, none⟩) 1 1 (fun _ => True) (fun _ => False) rfl rfl HR6_3.out (put1_C HP3.out) (put_KM _ _ _) (fun _ hk => hk.elim) (fun _ _ => trivial) HB3.out HB3.out.size (by show (s.seq.length + 1) * 16 ≤ _; omega) ?_
              intro v9 W4 ho hb hg hat
              obtain ⟨A9, n9, rfl⟩ := Kd.R_slice ho
              have hq9 : (s.seq ++ [(⟨p, v⟩ : PutS)]).length = q + 1 := by rw [List.length_append, hQ]; rfl
              rw [hq9] at ho ⊢
              have HR9 := Aside0.mk ho
              clear hq9
              have HB4 := Aside0.mk hb
              have j2 := rcell (HM0.out.below HB4.out).out 2 _ rfl
              have i2 := rfrozen (HM0.out.below HB4.out).out 2
              simp only [rcells] at j2
              clear ho hb hg hat
              refine hK.out _ _ (met_S (HM0.out.below HB4.out) hQ) (fun hHeld => ?_)
              clear hK K
              refine norm_ (a' := ?_) ?_ ?_
              rotate_left
              · show Act.put _ (some 59) _ = _
                simp only [Act.put, List.setIfInBounds_toArray, List.set_cons_zero, List.set_cons_succ, i64_w, i32_w]
                rfl
              refine pure_ (i := 10) (N := some 60) (v := ?_) (a' := ?_) #[true, true, true, true, true, true, true, true, true, true, true, false, false] rfl rfl (any_of rfl (by kernel_rfl)) (fun _ _ _ h => h) (Or.inl ⟨by rfl, ?_⟩) ?_ ?_
              rotate_left
              · intro w'
                go_simp
                with_reducible rfl
              rotate_left
              · simp only [Act.put, List.setIfInBounds_toArray, List.set_cons_zero, List.set_cons_succ, i64_w, i32_w]
                rfl
              refine pure_ (i := 11) (N := some 61) (v := ?_) (a' := ?_) #[true, true, true, true, true, true, true, true, true, true, true, true, false] rfl rfl (any_of rfl (by kernel_rfl)) (fun _ _ _ h => h) (Or.inl ⟨by rfl, ?_⟩) ?_ ?_
              rotate_left
              · intro w'
                go_simp
                with_reducible rfl
              rotate_left
              · simp only [Act.put, List.setIfInBounds_toArray, List.set_cons_zero, List.set_cons_succ, i64_w, i32_w]
                rfl
              refine last_ (i := 12) (N := none) #[true, true, true, true, true, true, true, true, true, true, true, true, true] rfl rfl (one_of rfl (by kernel_rfl)) (by decide) (fun K hK => ?_)
              go_simp
              refine hK.out _ _ ?_
              clear hK K
              refine done_ (done_of rfl (by kernel_rfl)) ?_
              have HE := Aside0.mk (rseq_met HM0.out hQ HR9.out HB4.out)
              clear hHeld j2 i2
              go_wp2
              go_meet
              case rel => exact ⟨A9, n9, HE⟩
            · go_simp
              have HP2 := Aside0.mk (heap_alloc_new W1 (.cells #[.int .i64 p, .int .u8 v] pT))
              have HB2 := Aside0.mk (HB1.out.alloc HB1.out.size (.cells #[.int .i64 p, .int .u8 v] pT))
              have HZ2 : Aside0 (W1.heap.size < (W1.alloc (.cells #[.int .i64 p, .int .u8 v] pT)).heap.size) := ⟨by simp⟩
              have HR1_2 := Aside0.mk (Kd.R_alloc HR1_1.out (.cells #[.int .i64 p, .int .u8 v] pT))
              have HG18 : Aside0 (W1.heap.size ≠ W0.heap.size) := ⟨by have := HZ1.out; omega⟩
              generalize W1.alloc (.cells #[.int .i64 p, .int .u8 v] pT) = W2 at *
              refine hK.out _ _ (met_S (HM0.out.below HB2.out) hQ) (fun hHeld => ?_)
              clear hK K
              try simp only [Act.put, List.setIfInBounds_toArray, List.set_cons_zero, List.set_cons_succ, i64_w, i32_w]
              refine one_ (i := 6) (N := some 56) #[true, true, true, true, true, true, true, true, true, false, false, false, false] rfl rfl (one_of rfl (by kernel_rfl)) (by decide) (fun K hK => ?_)
              refine Kd.R_append_rows_step kPut (w0 := W0) W0.heap.size (by rfl) (.tmp 51) (.tmp 55) 29 pT (.agg #[.int .i64 0, .int .u8 0]) 16 rfl Try.underlying29 infoPut rfl (by decide) (by omega) (.slice (some ⟨W0.heap.size, 0, none⟩) 0 0) ([] : List PutS) s.seq Aq q cq (fun _ => True) (fun _ => False) rfl rfl HR1_2.out (met_C (HM0.out.below HB2.out) hQ) (put_KM _ _ _) (fun _ hk => hk.elim) (fun _ _ => trivial) HB2.out HB2.out.size (by show (0 + q) * 16 ≤ _; omega) ?_
              intro v6 W3 ho hb hg hat
              obtain ⟨A6, n6, rfl⟩ := Kd.R_slice ho
              have hq6 : (([] : List PutS) ++ s.seq).length = q := hQ
              rw [hq6] at ho ⊢
              have HR6_3 : Aside0 (kPut.R pT W3 W0.heap.size (fun _ => True) (.slice A6 q n6) s.seq) := ⟨ho⟩
              clear hq6
              have HB3 := Aside0.mk hb
              have HP3 := Aside0.mk ((hg.block _ (Array.getElem?_eq_some_iff.1 HP2.out).1 (by rintro h; exact HG18.out (by simpa [Value.ownBlock] using h))).trans HP2.out)
              clear ho hb hg hat
              refine hK.out _ _ (met_S (HM0.out.below HB3.out) hQ) (fun hHeld => ?_)
              clear hK K
              refine norm_ (a' := ?_) ?_ ?_
              rotate_left
              · show Act.put _ (some 56) _ = _
                simp only [Act.put, List.setIfInBounds_toArray, List.set_cons_zero, List.set_cons_succ, i64_w, i32_w]
                rfl
              refine one_ (i := 9) (N := some 59) #[true, true, true, true, true, true, true, true, true, true, false, false, false] rfl rfl (one_of rfl (by kernel_rfl)) (by decide) (fun K hK => ?_)
              refine Kd.R_append_rows_step kPut (w0 := W0) W0.heap.size (by rfl) (.tmp 56) (.tmp 58) 29 pT (.agg #[.int .i64 0, .int .u8 0]) 16 rfl Try.underlying29 infoPut rfl (by decide) (by omega) (.slice A6 q n6) s.seq [⟨p, v⟩] (some ⟨W1.heap.size, 0, none⟩) 1 1 (fun _ => True) (fun _ => False) rfl rfl HR6_3.out (put1_C HP3.out) (put_KM _ _ _) (fun _ hk => hk.elim) (fun _ _ => trivial) HB3.out HB3.out.size (by show (s.seq.length + 1) * 16 ≤ _; omega) ?_
              intro v9 W4 ho hb hg hat
              obtain ⟨A9, n9, rfl⟩ := Kd.R_slice ho
              have hq9 : (s.seq ++ [(⟨p, v⟩ : PutS)]).length = q + 1 := by rw [List.length_append, hQ]; rfl
              rw [hq9] at ho ⊢
              have HR9 := Aside0.mk ho
              clear hq9
              have HB4 := Aside0.mk hb
              have j2 := rcell (HM0.out.below HB4.out).out 2 _ rfl
              have i2 := rfrozen (HM0.out.below HB4.out).out 2
              simp only [rcells] at j2
              clear ho hb hg hat
              refine hK.out _ _ (met_S (HM0.out.below HB4.out) hQ) (fun hHeld => ?_)
              clear hK K
              refine norm_ (a' := ?_) ?_ ?_
              rotate_left
              · show Act.put _ (some 59) _ = _
                simp only [Act.put, List.setIfInBounds_toArray, List.set_cons_zero, List.set_cons_succ, i64_w, i32_w]
                rfl
              refine pure_ (i := 10) (N := some 60) (v := ?_) (a' := ?_) #[true, true, true, true, true, true, true, true, true, true, true, false, false] rfl rfl (any_of rfl (by kernel_rfl)) (fun _ _ _ h => h) (Or.inl ⟨by rfl, ?_⟩) ?_ ?_
              rotate_left
              · intro w'
                go_simp
                with_reducible rfl
              rotate_left
              · simp only [Act.put, List.setIfInBounds_toArray, List.set_cons_zero, List.set_cons_succ, i64_w, i32_w]
                rfl
              refine pure_ (i := 11) (N := some 61) (v := ?_) (a' := ?_) #[true, true, true, true, true, true, true, true, true, true, true, true, false] rfl rfl (any_of rfl (by kernel_rfl)) (fun _ _ _ h => h) (Or.inl ⟨by rfl, ?_⟩) ?_ ?_
              rotate_left
              · intro w'
                go_simp
                with_reducible rfl
              rotate_left
              · simp only [Act.put, List.setIfInBounds_toArray, List.set_cons_zero, List.set_cons_succ, i64_w, i32_w]
                rfl
              refine last_ (i := 12) (N := none) #[true, true, true, true, true, true, true, true, true, true, true, true, true] rfl rfl (one_of rfl (by kernel_rfl)) (by decide) (fun K hK => ?_)
              go_simp
              refine hK.out _ _ ?_
              clear hK K
              refine done_ (done_of rfl (by kernel_rfl)) ?_
              have HE := Aside0.mk (rseq_met HM0.out hQ HR9.out HB4.out)
              clear hHeld j2 i2
              go_wp2
              go_meet
              case rel => exact ⟨A9, n9, HE⟩
          · go_simp
            have HP1 := Aside0.mk (heap_alloc_new W0 (.cells #[.int .i64 p, .int .u8 v] pT))
            have HB1 := Aside0.mk (HB0.out.alloc HB0.out.size (.cells #[.int .i64 p, .int .u8 v] pT))
            have HZ1 : Aside0 (W0.heap.size < (W0.alloc (.cells #[.int .i64 p, .int .u8 v] pT)).heap.size) := ⟨by simp⟩
            generalize W0.alloc (.cells #[.int .i64 p, .int .u8 v] pT) = W1 at *
            refine hK.out _ _ (met_S (HM0.out.below HB1.out) hQ) (fun hHeld => ?_)
            clear hK K
            try simp only [Act.put, List.setIfInBounds_toArray, List.set_cons_zero, List.set_cons_succ, i64_w, i32_w]
            refine one_ (i := 1) (N := some 51) #[true, true, true, true, true, true, false, true, true, false, false, false, false] rfl rfl (one_of rfl (by kernel_rfl)) (by decide) (fun K hK => ?_)
            go_simp
            have HR1_2 := Aside0.mk (lit0_R W1 HB1.out.size)
            have HB2 := Aside0.mk (HB1.out.alloc HB1.out.size (.cells #[] pT))
            have HZ2 : Aside0 (W1.heap.size < (W1.alloc (.cells #[] pT)).heap.size) := ⟨by simp⟩
            have HP2 := Aside0.mk ((Below.heap_alloc W1 (.cells #[] pT) _ (Array.getElem?_eq_some_iff.1 HP1.out).1).trans HP1.out)
            generalize W1.alloc (.cells #[] pT) = W2 at *
            have HG18 : Aside0 (W0.heap.size ≠ W1.heap.size) := ⟨by have := HZ1.out; omega⟩
            refine hK.out _ _ (met_S (HM0.out.below HB2.out) hQ) (fun hHeld => ?_)
            clear hK K
            try simp only [Act.put, List.setIfInBounds_toArray, List.set_cons_zero, List.set_cons_succ, i64_w, i32_w]
            refine one_ (i := 6) (N := some 56) #[true, true, true, true, true, true, true, true, true, false, false, false, false] rfl rfl (one_of rfl (by kernel_rfl)) (by decide) (fun K hK => ?_)
            refine Kd.R_append_rows_step kPut (w0 := W0) W0.heap.size (by rfl) (.tmp 51) (.tmp 55) 29 pT (.agg #[.int .i64 0, .int .u8 0]) 16 rfl Try.underlying29 infoPut rfl (by decide) (by omega) (.slice (some ⟨W1.heap.size, 0, none⟩) 0 0) ([] : List PutS) s.seq Aq q cq (fun _ => True) (fun _ => False) rfl rfl HR1_2.out (met_C (HM0.out.below HB2.out) hQ) (put_KM _ _ _) (fun _ hk => hk.elim) (fun _ _ => trivial) HB2.out HB2.out.size (by show (0 + q) * 16 ≤ _; omega) ?_
            intro v6 W3 ho hb hg hat
            obtain ⟨A6, n6, rfl⟩ := Kd.R_slice ho
            have hq6 : (([] : List PutS) ++ s.seq).length = q := hQ
            rw [hq6] at ho ⊢
            have HR6_3 : Aside0 (kPut.R pT W3 W0.heap.size (fun _ => True) (.slice A6 q n6) s.seq) := ⟨ho⟩
            clear hq6
            have HB3 := Aside0.mk hb
            have HP3 := Aside0.mk ((hg.block _ (Array.getElem?_eq_some_iff.1 HP2.out).1 (by rintro h; exact HG18.out (by simpa [Value.ownBlock] using h))).trans HP2.out)
            clear ho hb hg hat
            refine hK.out _ _ (met_S (HM0.out.below HB3.out) hQ) (fun hHeld => ?_)
            clear hK K
            refine norm_ (a' := ?_) ?_ ?_
            rotate_left
            · show Act.put _ (some 56) _ = _
              simp only [Act.put, List.setIfInBounds_toArray, List.set_cons_zero, List.set_cons_succ, i64_w, i32_w]
              rfl
            refine one_ (i := 9) (N := some 59) #[true, true, true, true, true, true, true, true, true, true, false, false, false] rfl rfl (one_of rfl (by kernel_rfl)) (by decide) (fun K hK => ?_)
            refine Kd.R_append_rows_step kPut (w0 := W0) W0.heap.size (by rfl) (.tmp 56) (.tmp 58) 29 pT (.agg #[.int .i64 0, .int .u8 0]) 16 rfl Try.underlying29 infoPut rfl (by decide) (by omega) (.slice A6 q n6) s.seq [⟨p, v⟩] (some ⟨W0.heap.size, 0, none⟩) 1 1 (fun _ => True) (fun _ => False) rfl rfl HR6_3.out (put1_C HP3.out) (put_KM _ _ _) (fun _ hk => hk.elim) (fun _ _ => trivial) HB3.out HB3.out.size (by show (s.seq.length + 1) * 16 ≤ _; omega) ?_
            intro v9 W4 ho hb hg hat
            obtain ⟨A9, n9, rfl⟩ := Kd.R_slice ho
            have hq9 : (s.seq ++ [(⟨p, v⟩ : PutS)]).length = q + 1 := by rw [List.length_append, hQ]; rfl
            rw [hq9] at ho ⊢
            have HR9 := Aside0.mk ho
            clear hq9
            have HB4 := Aside0.mk hb
            have j2 := rcell (HM0.out.below HB4.out).out 2 _ rfl
            have i2 := rfrozen (HM0.out.below HB4.out).out 2
            simp only [rcells] at j2
            clear ho hb hg hat
            refine hK.out _ _ (met_S (HM0.out.below HB4.out) hQ) (fun hHeld => ?_)
            clear hK K
            refine norm_ (a' := ?_) ?_ ?_
            rotate_left
            · show Act.put _ (some 59) _ = _
              simp only [Act.put, List.setIfInBounds_toArray, List.set_cons_zero, List.set_cons_succ, i64_w, i32_w]
              rfl
            refine pure_ (i := 10) (N := some 60) (v := ?_) (a' := ?_) #[true, true, true, true, true, true, true, true, true, true, true, false, false] rfl rfl (any_of rfl (by kernel_rfl)) (fun _ _ _ h => h) (Or.inl ⟨by rfl, ?_⟩) ?_ ?_
            rotate_left
            · intro w'
              go_simp
              with_reducible rfl
            rotate_left
            · simp only [Act.put, List.setIfInBounds_toArray, List.set_cons_zero, List.set_cons_succ, i64_w, i32_w]
              rfl
            refine pure_ (i := 11) (N := some 61) (v := ?_) (a' := ?_) #[true, true, true, true, true, true, true, true, true, true, true, true, false] rfl rfl (any_of rfl (by kernel_rfl)) (fun _ _ _ h => h) (Or.inl ⟨by rfl, ?_⟩) ?_ ?_
            rotate_left
            · intro w'
              go_simp
              with_reducible rfl
            rotate_left
            · simp only [Act.put, List.setIfInBounds_toArray, List.set_cons_zero, List.set_cons_succ, i64_w, i32_w]
              rfl
            refine last_ (i := 12) (N := none) #[true, true, true, true, true, true, true, true, true, true, true, true, true] rfl rfl (one_of rfl (by kernel_rfl)) (by decide) (fun K hK => ?_)
            go_simp
            refine hK.out _ _ ?_
            clear hK K
            refine done_ (done_of rfl (by kernel_rfl)) ?_
            have HE := Aside0.mk (rseq_met HM0.out hQ HR9.out HB4.out)
            clear hHeld j2 i2
            go_wp2
            go_meet
            case rel => exact ⟨A9, n9, HE⟩
        case rest =>
          obtain ⟨Aq', cq', HM⟩ := hcut
          have HN : Aside0 ((app s p v).seq.length = q + 1) := ⟨by show (s.seq ++ [(⟨p, v⟩ : PutS)]).length = q + 1; rw [List.length_append, hQ]; rfl⟩
          have HL : Aside0 ((app s p v).data.length = L) := ⟨hD⟩
          have HG : Aside0 (keepsakeref11_goes.f (app s p v).seq = some gs) := ⟨hgs⟩
          have j2 := (met_cells HM.out HN.out HL.out).2.1
          clear hgs
          have hl0 : ¬ 0 < s.left := by omega
          cases gs with
          | false =>
            have HW2 : Aside0 (writeR s p v bn false = { app s p v with seq := [] }) := ⟨by unfold writeR; rw [if_neg hl0, if_neg hc, if_pos rfl]; rfl⟩
            clear hc
            go_wp2_with (go_at_call 41; (with_reducible refine (goes_met HM.out HN.out HG.out).mono ?_); rintro e w1 ⟨rfl, h⟩; obtain ⟨j1, j2, j3, jp, i2, i3⟩ := met_cells h HN.out HL.out; have HM2 := Aside0.mk h; clear h)
            exact bodyPost_ret (results_none rfl _ _ _) rfl ⟨rfl, by rw [HW2.out]; exact met_nil HM2.out⟩
          | true =>
            have hgt : ¬ (true = false) := by decide
            have hqq : q = 0 ∨ q = 1 ∨ q = 2 ∨ q = 3 ∨ q = 4 ∨ q = 5 := by omega
            have hpm : 0 ≤ p % 256 ∧ p % 256 ≤ p := by omega
            rcases hqq with rfl | rfl | rfl | rfl | rfl | rfl
            · have HW2 : Aside0 (writeR s p v bn true = app s p v) := ⟨by unfold writeR; rw [if_neg hl0, if_neg hc, if_neg hgt, if_neg (by omega), if_neg (by omega), if_neg (by omega), if_neg (by omega)]; rfl⟩
              clear hc
              go_wp2_with (go_at_call 41; (with_reducible refine (goes_met HM.out HN.out HG.out).mono ?_); rintro e w1 ⟨rfl, h⟩; obtain ⟨j1, j2, j3, jp, i2, i3⟩ := met_cells h HN.out HL.out; have HM2 := Aside0.mk h; clear h)
              go_end0
              exact ⟨rfl, by rw [HW2.out]; exact met_close HM2.out⟩
            · have HW2 : Aside0 (writeR s p v bn true = app s p v) := ⟨by unfold writeR; rw [if_neg hl0, if_neg hc, if_neg hgt, if_neg (by omega), if_neg (by omega), if_neg (by omega), if_neg (by omega)]; rfl⟩
              clear hc
              go_wp2_with (go_at_call 41; (with_reducible refine (goes_met HM.out HN.out HG.out).mono ?_); rintro e w1 ⟨rfl, h⟩; obtain ⟨j1, j2, j3, jp, i2, i3⟩ := met_cells h HN.out HL.out; have HM2 := Aside0.mk h; clear h)
              go_end0
              exact ⟨rfl, by rw [HW2.out]; exact met_close HM2.out⟩
            · by_cases hv : v = 144
              · have HW2 : Aside0 (writeR s p v bn true = { app s p v with seq := [], named := true }) := ⟨by unfold writeR; rw [if_neg hl0, if_neg hc, if_neg hgt, if_pos ⟨hQ, hv⟩]; rfl⟩
                have hvb : (v == 144) = true := beq_iff_eq.2 hv
                clear hc hv
                go_wp2_with (go_at_call 41; (with_reducible refine (goes_met HM.out HN.out HG.out).mono ?_); rintro e w1 ⟨rfl, h⟩; obtain ⟨j1, j2, j3, jp, i2, i3⟩ := met_cells h HN.out HL.out; have HM2 := Aside0.mk h; clear h)
                go_end0
                exact ⟨rfl, by rw [HW2.out]; exact met_named HM2.out⟩
              · have HW2 : Aside0 (writeR s p v bn true = app s p v) := ⟨by unfold writeR; rw [if_neg hl0, if_neg hc, if_neg hgt, if_neg (fun h => hv h.2), if_neg (by omega), if_neg (by omega), if_neg (by omega)]; rfl⟩
                have hvb : (v == 144) = false := beq_eq_false_iff_ne.2 hv
                clear hc hv
                go_wp2_with (go_at_call 41; (with_reducible refine (goes_met HM.out HN.out HG.out).mono ?_); rintro e w1 ⟨rfl, h⟩; obtain ⟨j1, j2, j3, jp, i2, i3⟩ := met_cells h HN.out HL.out; have HM2 := Aside0.mk h; clear h)
                go_end0
                exact ⟨rfl, by rw [HW2.out]; exact met_close HM2.out⟩
            · cases bn with
              | true =>
                have HW2 : Aside0 (writeR s p v true true = beginR (app s p v) 1 p 1 v 10) := ⟨by unfold writeR; rw [if_neg hl0, if_neg hc, if_neg hgt, if_neg (by omega), if_pos ⟨hQ, rfl⟩]; rfl⟩
                clear hc
                go_wp2_with (first | (go_at_call 41; (with_reducible refine (goes_met HM.out HN.out HG.out).mono ?_); rintro e w1 ⟨rfl, h⟩; obtain ⟨j1, j2, j3, jp, i2, i3⟩ := met_cells h HN.out HL.out; have HM2 := Aside0.mk h; clear h) | (go_at_call 42; (with_reducible refine (rbegin_walk (met_close HM2.out) (1) (p) (1) (v) (10)).mono ?_); rintro e w2 ⟨rfl, h⟩; have HE := Aside0.mk h; clear h))
                go_end0
                exact ⟨rfl, by rw [HW2.out]; exact HE.out⟩
              | false =>
                have HW2 : Aside0 (writeR s p v false true = app s p v) := ⟨by unfold writeR; rw [if_neg hl0, if_neg hc, if_neg hgt, if_neg (by omega), if_neg (fun h => absurd h.2 (by decide)), if_neg (by omega), if_neg (by omega)]; rfl⟩
                clear hc
                go_wp2_with (go_at_call 41; (with_reducible refine (goes_met HM.out HN.out HG.out).mono ?_); rintro e w1 ⟨rfl, h⟩; obtain ⟨j1, j2, j3, jp, i2, i3⟩ := met_cells h HN.out HL.out; have HM2 := Aside0.mk h; clear h)
                go_end0
                exact ⟨rfl, by rw [HW2.out]; exact met_close HM2.out⟩
            · have HW2 : Aside0 (writeR s p v bn true = app s p v) := ⟨by unfold writeR; rw [if_neg hl0, if_neg hc, if_neg hgt, if_neg (by omega), if_neg (by omega), if_neg (by omega), if_neg (by omega)]; rfl⟩
              clear hc
              go_wp2_with (go_at_call 41; (with_reducible refine (goes_met HM.out HN.out HG.out).mono ?_); rintro e w1 ⟨rfl, h⟩; obtain ⟨j1, j2, j3, jp, i2, i3⟩ := met_cells h HN.out HL.out; have HM2 := Aside0.mk h; clear h)
              go_end0
              exact ⟨rfl, by rw [HW2.out]; exact met_close HM2.out⟩
            · by_cases hv : v = 48
              · have HW2 : Aside0 (writeR s p v bn true = beginR (app s p v) 2 (p - p % 256) 256 0 100) := ⟨by unfold writeR; rw [if_neg hl0, if_neg hc, if_neg hgt, if_neg (by omega), if_neg (by omega), if_pos ⟨hQ, hv⟩]; rfl⟩
                have hvb : (v == 48) = true := beq_iff_eq.2 hv
                have hvc : (v == 16) = false := beq_eq_false_iff_ne.2 (by omega)
                clear hc hv
                go_wp2_with (first | (go_at_call 41; (with_reducible refine (goes_met HM.out HN.out HG.out).mono ?_); rintro e w1 ⟨rfl, h⟩; obtain ⟨j1, j2, j3, jp, i2, i3⟩ := met_cells h HN.out HL.out; have HM2 := Aside0.mk h; clear h) | (go_at_call 42; (with_reducible refine (rbegin_walk (met_close HM2.out) (2) (p - p % 256) (256) (0) (100)).mono ?_); rintro e w2 ⟨rfl, h⟩; have HE := Aside0.mk h; clear h))
                go_end0
                exact ⟨rfl, by rw [HW2.out]; exact HE.out⟩
              · by_cases hv2 : v = 16
                · have HW2 : Aside0 (writeR s p v bn true = beginR (app s p v) 2 0 L 0 200) := ⟨by unfold writeR; rw [if_neg hl0, if_neg hc, if_neg hgt, if_neg (by omega), if_neg (by omega), if_neg (fun h => hv h.2), if_pos ⟨hQ, hv2⟩, hD]; rfl⟩
                  have hvb : (v == 48) = false := beq_eq_false_iff_ne.2 hv
                  have hvc : (v == 16) = true := beq_iff_eq.2 hv2
                  clear hc hv hv2
                  go_wp2_with (first | (go_at_call 41; (with_reducible refine (goes_met HM.out HN.out HG.out).mono ?_); rintro e w1 ⟨rfl, h⟩; obtain ⟨j1, j2, j3, jp, i2, i3⟩ := met_cells h HN.out HL.out; have HM2 := Aside0.mk h; clear h) | (go_at_call 42; (with_reducible refine (rbegin_walk (met_close HM2.out) (2) (0) (L) (0) (200)).mono ?_); rintro e w2 ⟨rfl, h⟩; have HE := Aside0.mk h; clear h))
                  go_end0
                  exact ⟨rfl, by rw [HW2.out]; exact HE.out⟩
                · have HW2 : Aside0 (writeR s p v bn true = app s p v) := ⟨by unfold writeR; rw [if_neg hl0, if_neg hc, if_neg hgt, if_neg (by omega), if_neg (by omega), if_neg (fun h => hv h.2), if_neg (fun h => hv2 h.2)]; rfl⟩
                  have hvb : (v == 48) = false := beq_eq_false_iff_ne.2 hv
                  have hvc : (v == 16) = false := beq_eq_false_iff_ne.2 hv2
                  clear hc hv hv2
                  go_wp2_with (go_at_call 41; (with_reducible refine (goes_met HM.out HN.out HG.out).mono ?_); rintro e w1 ⟨rfl, h⟩; obtain ⟨j1, j2, j3, jp, i2, i3⟩ := met_cells h HN.out HL.out; have HM2 := Aside0.mk h; clear h)
                  go_end0
                  exact ⟨rfl, by rw [HW2.out]; exact met_close HM2.out⟩
theorem rwrite_walk (h : RHeld w0 w r s ts) (a v : Int) (hd0 : 0 < s.data.length) (hd1 : s.data.length ≤ 1100) (hq : s.seq.length ≤ 5) (bn gs : Bool) (hl : 0 ≤ s.left)
    (hb3 : s.seq.length = 3 → keepsakeref11_Put_is.f (rd_T47 s.seq 2).f0 (rd_T47 s.seq 2).f1 85 160 = some bn) (hbn : s.seq.length ≠ 3 → bn = false)
    (hgs : keepsakeref11_goes.f (s.seq ++ [⟨place s.data a, v⟩]) = some gs) :
    Calls Try.prog 29 #[ptr r, .int .i64 a, .int .u8 v] w fun e w' => e = .returned (.tuple #[]) ∧ RHeld w0 w' r (writeR s (place s.data a) v bn gs) ts := by
  by_cases h0 : 0 < s.left
  · have e : writeR s (place s.data a) v bn gs = s := if_pos h0
    rw [e]
    exact rwrite_busy h a v h0
  · exact rwrite_main h a v hd0 hd1 hq bn gs (by omega) hb3 hbn hgs
end
end Go.Proofs.Ytpkgpcolngoicaa.Given
