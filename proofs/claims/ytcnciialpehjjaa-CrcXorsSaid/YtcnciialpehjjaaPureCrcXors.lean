/- Of three texts of one length the sums, put together bit by bit by what differs, are the sum of the texts put together so: for every three lists of bytes. -/
import Derived.Test.YtcnciialpehjjaaAx11
import Derived.Test.YtcnciialpehjjaaSums
set_option linter.unusedVariables false
set_option linter.unusedSimpArgs false
namespace Go.Proofs.Ytcnciialpehjjaa.Pure
open Go.RowKit Go.Proofs.Ytcnciialpehjjaa.All Go.Proofs.Ytcnciialpehjjaa.Given Go.Proofs.Ytcnciialpehjjaa.Sums Go.Proofs.Ytcnciialpehjjaa.Math Go.Proofs.YtcnciialpehjjaaW.PrintWords Go.Proofs.YtcnciialpehjjaaW.PrintLast

theorem u8_xor (x y : Int) (hx : 0 ≤ x ∧ x ≤ 255) (hy : 0 ≤ y ∧ y ≤ 255) :
    bv (Go.bits .xor .u8 x y) = bv x ^^^ bv y ∧ 0 ≤ Go.bits .xor .u8 x y ∧ Go.bits .xor .u8 x y ≤ 255 := by
  have e : Go.bits .xor .u8 x y = ((BitVec.ofInt 8 x ^^^ BitVec.ofInt 8 y).toNat : Int) := by
    have h := (BitVec.ofInt 8 x ^^^ BitVec.ofInt 8 y).isLt
    show IntKind.u8.wrap _ = _
    rw [IntKind.wrap_u8]
    show ((BitVec.ofInt 8 x ^^^ BitVec.ofInt 8 y).toNat : Int) % 256 = _
    omega
  have h := (BitVec.ofInt 8 x ^^^ BitVec.ofInt 8 y).isLt
  refine ⟨?_, by rw [e]; omega, by rw [e]; omega⟩
  obtain ⟨a, rfl⟩ := Int.eq_ofNat_of_zero_le hx.1
  obtain ⟨b, rfl⟩ := Int.eq_ofNat_of_zero_le hy.1
  rw [e]
  apply BitVec.eq_of_toNat_eq
  unfold bv
  rw [BitVec.toNat_xor, BitVec.toNat_ofInt, BitVec.toNat_ofInt, BitVec.toNat_ofInt, BitVec.toNat_xor, BitVec.toNat_ofInt, BitVec.toNat_ofInt]
  have h1 : ((a : Int) % ((2 ^ 8 : Nat) : Int)).toNat = a := by omega
  have h2 : ((b : Int) % ((2 ^ 8 : Nat) : Int)).toNat = b := by omega
  have h3 : ((a : Int) % ((2 ^ 32 : Nat) : Int)).toNat = a := by omega
  have h4 : ((b : Int) % ((2 ^ 32 : Nat) : Int)).toNat = b := by omega
  rw [h1, h2, h3, h4]
  have h5 : a ^^^ b < 2 ^ 8 := Nat.xor_lt_two_pow (by omega) (by omega)
  omega
def tx (x y z : Int) : Int := Go.bits .xor .u8 (Go.bits .xor .u8 x y) z
theorem tx_bd (x y z : Int) (hx : 0 ≤ x ∧ x ≤ 255) (hy : 0 ≤ y ∧ y ≤ 255) (hz : 0 ≤ z ∧ z ≤ 255) : bv (tx x y z) = bv x ^^^ bv y ^^^ bv z ∧ 0 ≤ tx x y z ∧ tx x y z ≤ 255 := by
  obtain ⟨a, b⟩ := u8_xor x y hx hy
  obtain ⟨c, d⟩ := u8_xor _ z b hz
  exact ⟨by unfold tx; rw [c, a], d⟩
def x3 : List Int → List Int → List Int → List Int
  | x :: a, y :: b, z :: c => tx x y z :: x3 a b c
  | _, _, _ => []
theorem x3_fold (a : List Int) : ∀ (b c : List Int) (s t u : W), Bytes a → Bytes b → Bytes c → b.length = a.length → c.length = a.length →
    fold (s ^^^ t ^^^ u) (x3 a b c) = fold s a ^^^ fold t b ^^^ fold u c := by
  induction a with
  | nil =>
    intro b c s t u _ _ _ hb hc
    obtain rfl := List.eq_nil_of_length_eq_zero hb
    obtain rfl := List.eq_nil_of_length_eq_zero hc
    rfl
  | cons x a ih =>
    intro b c s t u ha hb hc lb lc
    match b, c, lb, lc with
    | y :: b, z :: c, lb, lc =>
      simp only [List.length_cons] at lb lc
      have e := (tx_bd x y z (ha x (by simp)) (hb y (by simp)) (hc z (by simp))).1
      simp only [x3, fold_cons]
      rw [← ih b c _ _ _ (fun v hv => ha v (by simp [hv])) (fun v hv => hb v (by simp [hv])) (fun v hv => hc v (by simp [hv])) (by omega) (by omega)]
      congr 1
      unfold upd
      rw [← Tn_xor, ← Tn_xor, e]
      congr 1
      ac_rfl
theorem x3_bytes (a : List Int) : ∀ (b c : List Int), Bytes a → Bytes b → Bytes c → Bytes (x3 a b c) := by
  induction a with
  | nil => intro b c _ _ _ v hv; cases b <;> simp [x3] at hv
  | cons x a ih =>
    intro b c ha hb hc
    match b, c with
    | [], _ => intro v hv; simp [x3] at hv
    | _ :: _, [] => intro v hv; simp [x3] at hv
    | y :: b, z :: c =>
      intro v hv
      simp only [x3, List.mem_cons] at hv
      rcases hv with rfl | hv
      · exact (tx_bd x y z (ha x (by simp)) (hb y (by simp)) (hc z (by simp))).2
      · exact ih b c (fun v hv => ha v (by simp [hv])) (fun v hv => hb v (by simp [hv])) (fun v hv => hc v (by simp [hv])) v hv
theorem x3_len (a : List Int) : ∀ (b c : List Int), (x3 a b c).length ≤ a.length := by
  induction a with
  | nil => intro b c; cases b <;> simp [x3]
  | cons x a ih =>
    intro b c
    match b, c with
    | [], _ => simp [x3]
    | _ :: _, [] => simp [x3]
    | y :: b, z :: c => simp only [x3, List.length_cons]; have := ih b c; omega
def last (k : Nat) (a b c d : List Int) : Option Bool := (crc_Sum.f k d).bind fun t => (crc_Sum.f k a).bind fun t1 => (crc_Sum.f k b).bind fun t2 => (crc_Sum.f k c).bind fun t3 => some (t == Go.bits .xor .u32 (Go.bits .xor .u32 t1 t2) t3)
theorem l0_step (k : Nat) (a b c d : List Int) (i : Nat) (h0 : i < a.length) (h1 : i < b.length) (h2 : i < c.length) (hd : d.length < 140737488355328) (hi : i < 1000) :
    keepsakelaw01_CrcXors.l0 (k + 1) a b c true d i = keepsakelaw01_CrcXors.l0 k a b c true (d ++ [tx (rd a i) (rd b i) (rd c i)]) ((i + 1 : Nat) : Int) := by
  rw [keepsakelaw01_CrcXors.l0, if_pos (by omega), if_pos (by omega), if_pos (by omega), if_pos (by omega), if_pos hd, w64 _ (by omega) (by omega)]
  rfl
theorem l0_end (k : Nat) (a b c d : List Int) (i : Nat) (h0 : ¬ i < a.length) : keepsakelaw01_CrcXors.l0 (k + 1) a b c true d i = last k a b c d := by
  rw [keepsakelaw01_CrcXors.l0, if_neg (by omega), if_pos rfl]
  rfl
theorem l0_all (a b c : List Int) (hb : b.length = a.length) (hc : c.length = a.length) (hl : a.length ≤ 100) (n : Nat) : ∀ (k i : Nat) (d : List Int), i + n = a.length → d.length = i →
    keepsakelaw01_CrcXors.l0 (k + n + 1) a b c true d i = last k a b c (d ++ x3 (a.drop i) (b.drop i) (c.drop i)) := by
  induction n with
  | zero =>
    intro k i d hi hd
    rw [Nat.add_zero, l0_end _ _ _ _ _ _ (by omega), List.drop_of_length_le (show a.length ≤ i by omega)]
    simp [x3]
  | succ n ih =>
    intro k i d hi hd
    rw [show k + (n + 1) + 1 = (k + n + 1) + 1 from by omega, l0_step _ _ _ _ _ _ (by omega) (by omega) (by omega) (by omega) (by omega),
      ih k (i + 1) _ (by omega) (by simp; omega), rd_drop a i (by omega), rd_drop b i (by omega), rd_drop c i (by omega), x3, List.append_assoc]
    rfl
theorem CrcXors : keepsakelaw01_CrcXors.Pure := by
  intro a b c hla _ hwa hlb _ hwb hlc _ hwc
  have ha := bytes_of_wf hwa
  have hb := bytes_of_wf hwb
  have hc := bytes_of_wf hwc
  refine ⟨3000 + a.length + 1 + 1, ?_⟩
  unfold keepsakelaw01_CrcXors.f keepsakelaw01_awake.f
  rw [Option.bind_some]
  have yes : keepsakelaw01_CrcXors.j0 (3000 + a.length + 1 + 1) a b c true true = some true := by rw [keepsakelaw01_CrcXors.j0, if_pos rfl]
  by_cases h1 : (a.length : Int) > 100
  · rw [if_pos h1, yes]
  · rw [if_neg h1]
    by_cases h2 : (b.length : Int) = (a.length : Int)
    · rw [if_pos h2]
      by_cases h3 : (c.length : Int) = (a.length : Int)
      · have e : ((c.length : Int) != (a.length : Int)) = false := by simp [h3]
        rw [e, keepsakelaw01_CrcXors.j0, if_neg (by simp)]
        have := l0_all a b c (by omega) (by omega) (by omega) a.length 3000 0 [] (by omega) rfl
        simp only [List.nil_append, List.drop_zero] at this
        rw [show ((0 : Nat) : Int) = 0 from rfl] at this
        rw [this]
        unfold last
        have hx := x3_len a b c
        rw [sum_f _ (x3_bytes a b c ha hb hc) (by omega) _ (by omega), sum_f a ha (by omega) _ (by omega), sum_f b hb (by omega) _ (by omega), sum_f c hc (by omega) _ (by omega)]
        simp only [Option.bind_some]
        rw [xor_iv, xor_iv]
        have key : crc (x3 a b c) = crc a ^^^ crc b ^^^ crc c := by
          unfold crc
          have := x3_fold a b c (~~~ 0#32) (~~~ 0#32) (~~~ 0#32) ha hb hc (by omega) (by omega)
          rw [show (~~~ 0#32 : W) ^^^ ~~~ 0#32 ^^^ ~~~ 0#32 = ~~~ 0#32 from by decide] at this
          rw [this]
          generalize fold (~~~ 0#32) a = x
          generalize fold (~~~ 0#32) b = y
          generalize fold (~~~ 0#32) c = z
          simp only [← BitVec.xor_allOnes]
          rw [show x ^^^ BitVec.allOnes 32 ^^^ (y ^^^ BitVec.allOnes 32) ^^^ (z ^^^ BitVec.allOnes 32) = (x ^^^ y ^^^ z ^^^ BitVec.allOnes 32) ^^^ (BitVec.allOnes 32 ^^^ BitVec.allOnes 32) from by ac_rfl, BitVec.xor_self, BitVec.xor_zero]
        rw [key]
        simp
      · have e : ((c.length : Int) != (a.length : Int)) = true := by simpa using h3
        rw [e, yes]
    · rw [if_neg h2, yes]

end Go.Proofs.Ytcnciialpehjjaa.Pure
