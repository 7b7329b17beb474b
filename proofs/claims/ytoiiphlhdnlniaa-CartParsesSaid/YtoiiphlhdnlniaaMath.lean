/- Plain laws on 32-bit words: the step 'times x', the product, and powers of x. No Go in sight. -/
set_option linter.unusedVariables false
set_option linter.unusedSimpArgs false
namespace Go.Proofs.Ytoiiphlhdnlniaa.Math

abbrev W := BitVec 32
def P : W := 0xedb88320#32
def one : W := 0x80000000#32
/-- A polynomial times x. -/
def T (a : W) : W := (a >>> 1) ^^^ (if a.getLsbD 0 then P else 0#32)

theorem T_xor (a b : W) : T (a ^^^ b) = T a ^^^ T b := by
  unfold T
  rw [BitVec.ushiftRight_xor_distrib, BitVec.getLsbD_xor]
  cases a.getLsbD 0 <;> cases b.getLsbD 0 <;> simp
  · ac_rfl
  · ac_rfl
  · rw [show a >>> 1 ^^^ P ^^^ (b >>> 1 ^^^ P) = (a >>> 1 ^^^ b >>> 1) ^^^ (P ^^^ P) from by ac_rfl, BitVec.xor_self, BitVec.xor_zero]

theorem T_zero : T 0#32 = 0#32 := by decide

/-- n steps. -/
def Tn : Nat → W → W
  | 0, a => a
  | n + 1, a => Tn n (T a)

theorem Tn_xor (n : Nat) : ∀ a b, Tn n (a ^^^ b) = Tn n a ^^^ Tn n b := by
  induction n with
  | zero => intro a b; rfl
  | succ n ih => intro a b; simp only [Tn, T_xor, ih]
theorem Tn_zero (n : Nat) : Tn n 0#32 = 0#32 := by
  induction n with
  | zero => rfl
  | succ n ih => simp only [Tn, T_zero, ih]
theorem Tn_add (m n : Nat) : ∀ a, Tn (m + n) a = Tn n (Tn m a) := by
  induction m with
  | zero => intro a; simp [Tn]
  | succ m ih => intro a; rw [Nat.succ_add]; simp only [Tn, ih]
theorem Tn_succ (n : Nat) (a : W) : Tn (n + 1) a = T (Tn n a) := by rw [Tn_add]; rfl
theorem Tn_T (n : Nat) (a : W) : Tn n (T a) = T (Tn n a) := by rw [← Tn_succ]; rfl

/-- The step loses nothing. -/
theorem T_eq_zero (a : W) (h : T a = 0#32) : a = 0#32 := by
  have h31 : (T a).getLsbD 31 = a.getLsbD 0 := by
    unfold T
    rw [BitVec.getLsbD_xor, BitVec.getLsbD_ushiftRight, BitVec.getLsbD_of_ge _ _ (by omega)]
    cases a.getLsbD 0 <;> decide
  have h0 : a.getLsbD 0 = false := by rw [← h31, h]; simp
  have hs : a >>> 1 = 0#32 := by
    have := h
    unfold T at this
    rw [h0] at this
    simpa using this
  apply BitVec.eq_of_getLsbD_eq
  intro i hi
  cases i with
  | zero => rw [h0]; simp
  | succ i =>
    have := congrArg (fun x => BitVec.getLsbD x i) hs
    simpa [BitVec.getLsbD_ushiftRight, Nat.add_comm] using this
theorem xor_eq_zero (a b : W) (h : a ^^^ b = 0#32) : a = b := by
  have := congrArg (· ^^^ b) h
  simpa [BitVec.xor_assoc] using this
theorem T_inj (a b : W) (h : T a = T b) : a = b := xor_eq_zero _ _ (T_eq_zero _ (by rw [T_xor, h, BitVec.xor_self]))
theorem Tn_inj (n : Nat) : ∀ a b, Tn n a = Tn n b → a = b := by
  induction n with
  | zero => intro a b h; exact h
  | succ n ih => intro a b h; exact T_inj _ _ (ih _ _ h)

/-- The product's n lowest bits' part. -/
def prodFrom : Nat → W → W → W
  | 0, _, _ => 0#32
  | n + 1, a, b => (if a.getLsbD n then b else 0#32) ^^^ prodFrom n a (T b)
def prod (a b : W) : W := prodFrom 32 a b

theorem ite_xor (c : Bool) (a b : W) : (if c then a ^^^ b else 0#32) = (if c then a else 0#32) ^^^ (if c then b else 0#32) := by cases c <;> simp
theorem xor4 (a b c d : W) : (a ^^^ b) ^^^ (c ^^^ d) = (a ^^^ c) ^^^ (b ^^^ d) := by ac_rfl
theorem prodFrom_right (n : Nat) : ∀ a b c, prodFrom n a (b ^^^ c) = prodFrom n a b ^^^ prodFrom n a c := by
  induction n with
  | zero => intro a b c; simp [prodFrom]
  | succ n ih => intro a b c; simp only [prodFrom, T_xor, ih, ite_xor]; exact xor4 _ _ _ _
theorem prodFrom_left (n : Nat) : ∀ a b c, prodFrom n (a ^^^ b) c = prodFrom n a c ^^^ prodFrom n b c := by
  induction n with
  | zero => intro a b c; simp [prodFrom]
  | succ n ih =>
    intro a b c
    simp only [prodFrom, ih, BitVec.getLsbD_xor]
    rw [← xor4]
    congr 1
    cases a.getLsbD n <;> cases b.getLsbD n <;> simp
theorem prodFrom_T (n : Nat) : ∀ a b, prodFrom n a (T b) = T (prodFrom n a b) := by
  induction n with
  | zero => intro a b; simp [prodFrom, T_zero]
  | succ n ih =>
    intro a b
    simp only [prodFrom, ih, T_xor]
    congr 1
    cases a.getLsbD n <;> simp [T_zero]
theorem prod_right (a b c : W) : prod a (b ^^^ c) = prod a b ^^^ prod a c := prodFrom_right _ _ _ _
theorem prod_left (a b c : W) : prod (a ^^^ b) c = prod a c ^^^ prod b c := prodFrom_left _ _ _ _
theorem prod_T (a b : W) : prod a (T b) = T (prod a b) := prodFrom_T _ _ _

theorem T_two (n : Nat) (h : n + 1 < 32) : T (BitVec.twoPow 32 (n + 1)) = BitVec.twoPow 32 n := by
  unfold T
  have : (BitVec.twoPow 32 (n + 1)).getLsbD 0 = false := by rw [BitVec.getLsbD_twoPow]; simp
  rw [this]
  apply BitVec.eq_of_getLsbD_eq
  intro i hi
  simp only [BitVec.getLsbD_xor, BitVec.getLsbD_ushiftRight, BitVec.getLsbD_twoPow, Bool.false_eq_true, if_false, BitVec.getLsbD_zero, Bool.xor_false]
  rw [Bool.eq_iff_iff]
  simp only [Bool.and_eq_true, decide_eq_true_eq]
  omega
/-- The n + 1 lowest bits. -/
theorem prodFrom_two (n : Nat) : ∀ (a : W), n < 32 → ∀ i, i < 32 → (prodFrom (n + 1) a (BitVec.twoPow 32 n)).getLsbD i = (decide (i ≤ n) && a.getLsbD i) := by
  induction n with
  | zero =>
    intro a _ i hi
    simp only [prodFrom, BitVec.getLsbD_xor]
    cases h : a.getLsbD 0
    · simp; intro h0; subst h0; exact h
    · simp [BitVec.getLsbD_twoPow]
      by_cases h0 : i = 0
      · subst h0; simp [h]
      · simp [h0]; omega
  | succ n ih =>
    intro a hn i hi
    rw [prodFrom, T_two n hn, BitVec.getLsbD_xor, ih a (by omega) i hi]
    by_cases h1 : i = n + 1
    · subst h1
      cases h : a.getLsbD (n + 1) <;> simp [BitVec.getLsbD_twoPow]
      omega
    · have hne : ¬ (n + 1 = i) := fun e => h1 e.symm
      have e1 : (if a.getLsbD (n + 1) = true then BitVec.twoPow 32 (n + 1) else 0#32).getLsbD i = false := by
        cases a.getLsbD (n + 1) <;> simp [BitVec.getLsbD_twoPow, hne]
      rw [e1, Bool.false_xor]
      congr 1
      simp; omega
theorem one_two : one = BitVec.twoPow 32 31 := by decide
theorem prod_one (a : W) : prod a one = a := by
  apply BitVec.eq_of_getLsbD_eq
  intro i hi
  unfold prod
  rw [one_two, prodFrom_two 31 a (by omega) i hi]
  have : decide (i ≤ 31) = true := by simp; omega
  simp [this]
theorem prodFrom_low (n : Nat) : ∀ (a b : W), (∀ i, i < n → a.getLsbD i = false) → prodFrom n a b = 0#32 := by
  induction n with
  | zero => intro a b _; rfl
  | succ n ih => intro a b h; simp [prodFrom, h n (by omega), ih a (T b) (fun i hi => h i (by omega))]
theorem one_prod (b : W) : prod one b = b := by
  unfold prod
  rw [prodFrom, prodFrom_low 31 one (T b) (by decide)]
  have : one.getLsbD 31 = true := by decide
  simp [this]

/-- What goes through xor and through the step is told by what it makes of one. -/
theorem span (f : W → W) (hx : ∀ a b, f (a ^^^ b) = f a ^^^ f b) (hT : ∀ a, f (T a) = T (f a)) (h1 : f one = 0#32) (a : W) : f a = 0#32 := by
  have h0 : f 0#32 = 0#32 := by have := hx 0#32 0#32; simpa using this
  have key : ∀ n a c, f c = 0#32 → f (prodFrom n a c) = 0#32 := by
    intro n
    induction n with
    | zero => intro a c _; exact h0
    | succ n ih =>
      intro a c hc
      rw [prodFrom, hx, ih a (T c) (by rw [hT, hc, T_zero])]
      cases a.getLsbD n <;> simp [h0, hc]
  have := key 32 a one h1
  rwa [show prodFrom 32 a one = a from prod_one a] at this
theorem lin_ext (f g : W → W) (hx : ∀ a b, f (a ^^^ b) = f a ^^^ f b) (hT : ∀ a, f (T a) = T (f a)) (gx : ∀ a b, g (a ^^^ b) = g a ^^^ g b) (gT : ∀ a, g (T a) = T (g a))
    (h1 : f one = g one) (a : W) : f a = g a := by
  refine xor_eq_zero _ _ (span (fun a => f a ^^^ g a) (fun a b => ?_) (fun a => ?_) ?_ a)
  · simp only [hx, gx]; exact xor4 _ _ _ _
  · simp only [hT, gT, T_xor]
  · simp only [h1, BitVec.xor_self]

/-- 32 steps are the product with the divisor's lower part. -/
theorem T32 (b : W) : Tn 32 b = prod P b :=
  lin_ext (Tn 32) (prod P) (Tn_xor 32) (Tn_T 32) (prod_right P) (prod_T P) (by decide +kernel) b

theorem T_bit (a : W) (i : Nat) (hi : i < 32) : (T a).getLsbD i = ((a.getLsbD (i + 1)) ^^ (a.getLsbD 0 && P.getLsbD i)) := by
  unfold T
  rw [BitVec.getLsbD_xor, BitVec.getLsbD_ushiftRight, Nat.add_comm 1 i]
  cases a.getLsbD 0 <;> simp
/-- The bits from 1 on, one place lower. -/
theorem prodFrom_down (n : Nat) : ∀ (a b : W), n < 32 → prodFrom (n + 1) a b = prodFrom n (a >>> 1) b ^^^ (if a.getLsbD 0 then Tn n b else 0#32) := by
  induction n with
  | zero => intro a b _; simp [prodFrom, Tn]
  | succ n ih =>
    intro a b hn
    rw [prodFrom, ih a (T b) (by omega), prodFrom]
    rw [show (a >>> 1).getLsbD n = a.getLsbD (n + 1) from by rw [BitVec.getLsbD_ushiftRight, Nat.add_comm]]
    rw [Tn, BitVec.xor_assoc]
theorem T_prod (a b : W) : prod (T a) b = T (prod a b) := by
  have e1 : prod (T a) b = prod (a >>> 1) b ^^^ (if a.getLsbD 0 then prod P b else 0#32) := by
    unfold T
    rw [prod_left]
    cases a.getLsbD 0
    · simp only [Bool.false_eq_true, if_false]; congr 1; exact prodFrom_low 32 _ _ (by simp)
    · simp
  have e2 : prod (a >>> 1) b = prodFrom 31 (a >>> 1) (T b) := by
    unfold prod
    rw [prodFrom]
    have : (a >>> 1).getLsbD 31 = false := by rw [BitVec.getLsbD_ushiftRight]; exact BitVec.getLsbD_of_ge _ _ (by omega)
    rw [this]; simp
  have e3 : T (prod a b) = prod a (T b) := (prod_T a b).symm
  rw [e1, e2, e3, show prod a (T b) = prodFrom (31 + 1) a (T b) from rfl, prodFrom_down 31 a (T b) (by omega), ← T32]
  rfl
theorem prod_comm (a b : W) : prod a b = prod b a :=
  lin_ext (fun a => prod a b) (fun a => prod b a) (fun x y => prod_left x y b) (fun x => T_prod x b) (fun x y => prod_right b x y) (fun x => prod_T b x) (by simp only [one_prod, prod_one]) a
theorem prod_assoc (a b c : W) : prod (prod a b) c = prod a (prod b c) :=
  lin_ext (fun a => prod (prod a b) c) (fun a => prod a (prod b c)) (fun x y => by simp only [prod_left]) (fun x => by simp only [T_prod]) (fun x y => by simp only [prod_left]) (fun x => by simp only [T_prod])
    (by simp only [one_prod]) a

/-- x to a number. -/
def xp (n : Nat) : W := Tn n one
theorem Tn_prod (n : Nat) : ∀ a b, prod (Tn n a) b = Tn n (prod a b) := by
  induction n with
  | zero => intro a b; rfl
  | succ n ih => intro a b; simp only [Tn, ih, T_prod]
theorem xp_prod (n : Nat) (b : W) : prod (xp n) b = Tn n b := by unfold xp; rw [Tn_prod, one_prod]
theorem prod_xp (n : Nat) (b : W) : prod b (xp n) = Tn n b := by rw [prod_comm, xp_prod]
theorem xp_add (m n : Nat) : prod (xp m) (xp n) = xp (m + n) := by rw [xp_prod, xp, xp, ← Tn_add, Nat.add_comm]
theorem xp_succ (n : Nat) : T (xp n) = xp (n + 1) := by unfold xp; rw [Tn_succ]

end Go.Proofs.Ytoiiphlhdnlniaa.Math
