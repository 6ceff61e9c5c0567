/-
  The field of 256 elements, on bytes: sums, products, powers, inverses, logarithms. Plain Lean, no program in sight.
-/
namespace Go.Proofs.Ytgphfhpobppmeaa.GfM
/-- x times the polynomial x, reduced. -/
def xt (x : Nat) : Nat := if 2 * x > 255 then (2 * x) ^^^ 285 else 2 * x
def gm : Nat → Nat → Nat → Nat → Nat
  | 0, _, _, out => out
  | k + 1, x, b, out => gm k (xt x) (b / 2) (if b % 2 = 1 then out ^^^ x else out)
def gmul (a b : Nat) : Nat := gm 8 a b 0
def xts : Nat → Nat → Nat
  | 0, x => x
  | k + 1, x => xts k (xt x)

theorem xt_lt : ∀ x, x < 256 → xt x < 256 := by decide +kernel
theorem two_xor (x y : Nat) : 2 * (x ^^^ y) = (2 * x) ^^^ (2 * y) := by
  apply Nat.eq_of_testBit_eq
  intro i
  cases i with
  | zero => simp [Nat.testBit_zero, Nat.mul_mod_right]
  | succ i => simp [Nat.testBit_succ, Nat.xor_div_two]
theorem xt_eq : ∀ x, x < 256 → xt x = (2 * x) ^^^ (if x.testBit 7 = true then 285 else 0) := by decide +kernel
theorem xor_lt {x y : Nat} (h : x < 256) (k : y < 256) : x ^^^ y < 256 := Nat.xor_lt_two_pow (n := 8) h k
theorem xor_four (a b c d : Nat) : (a ^^^ b) ^^^ (c ^^^ d) = (a ^^^ c) ^^^ (b ^^^ d) := by
  rw [Nat.xor_assoc, Nat.xor_assoc, ← Nat.xor_assoc b c d, Nat.xor_comm b c, Nat.xor_assoc c b d]
theorem if_xor (p q : Bool) (v : Nat) : (if (p ^^ q) = true then v else 0) = (if p = true then v else 0) ^^^ (if q = true then v else 0) := by
  cases p <;> cases q <;> simp
theorem xt_lin (x : Nat) (hx : x < 256) (y : Nat) (hy : y < 256) : xt (x ^^^ y) = xt x ^^^ xt y := by
  rw [xt_eq x hx, xt_eq y hy, xt_eq _ (xor_lt hx hy), Nat.testBit_xor, if_xor, two_xor, xor_four]

theorem gm_lt (k : Nat) : ∀ x b o, x < 256 → o < 256 → gm k x b o < 256 := by
  induction k with
  | zero => intro x b o _ h; exact h
  | succ k ih =>
    intro x b o hx ho
    refine ih _ _ _ (xt_lt x hx) ?_
    split
    · exact xor_lt ho hx
    · exact ho
theorem gm_xt (k : Nat) : ∀ x b o, x < 256 → o < 256 → gm k (xt x) b (xt o) = xt (gm k x b o) := by
  induction k with
  | zero => intro x b o _ _; rfl
  | succ k ih =>
    intro x b o hx ho
    show gm k (xt (xt x)) (b / 2) _ = xt (gm k (xt x) (b / 2) _)
    by_cases h : b % 2 = 1
    · rw [if_pos h, if_pos h, ← xt_lin o ho x hx]
      exact ih _ _ _ (xt_lt x hx) (xor_lt ho hx)
    · rw [if_neg h, if_neg h]
      exact ih _ _ _ (xt_lt x hx) ho
/-- additive in x. -/
theorem gm_add (k : Nat) : ∀ x y b o p, x < 256 → y < 256 → gm k (x ^^^ y) b (o ^^^ p) = gm k x b o ^^^ gm k y b p := by
  induction k with
  | zero => intro x y b o p _ _; rfl
  | succ k ih =>
    intro x y b o p hx hy
    show gm k (xt (x ^^^ y)) (b / 2) _ = gm k (xt x) (b / 2) _ ^^^ gm k (xt y) (b / 2) _
    rw [xt_lin x hx y hy]
    by_cases h : b % 2 = 1
    · simp only [h, if_true]; rw [xor_four]
      exact ih _ _ _ _ _ (xt_lt x hx) (xt_lt y hy)
    · simp only [h, if_false]
      exact ih _ _ _ _ _ (xt_lt x hx) (xt_lt y hy)
theorem gmul_lt {a b : Nat} (h : a < 256) : gmul a b < 256 := gm_lt 8 a b 0 h (by decide)
theorem gmul_xt {a b : Nat} (h : a < 256) : gmul (xt a) b = xt (gmul a b) := gm_xt 8 a b 0 h (by decide)
theorem gmul_add {x y : Nat} (b : Nat) (hx : x < 256) (hy : y < 256) : gmul (x ^^^ y) b = gmul x b ^^^ gmul y b := gm_add 8 x y b 0 0 hx hy
theorem one_gmul : ∀ b, b < 256 → gmul 1 b = b := by decide +kernel
theorem zero_gmul : ∀ b, b < 256 → gmul 0 b = 0 := by decide +kernel
theorem gmul_zero : ∀ b, b < 256 → gmul b 0 = 0 := by decide +kernel
theorem xts_lt (k : Nat) : ∀ x, x < 256 → xts k x < 256 := by
  induction k with
  | zero => intro x h; exact h
  | succ k ih => intro x h; exact ih _ (xt_lt x h)
theorem xts_add (j k : Nat) : ∀ x, xts (j + k) x = xts j (xts k x) := by
  induction k with
  | zero => intro x; rfl
  | succ k ih => intro x; exact ih (xt x)
theorem gmul_xts (k : Nat) : ∀ a b, a < 256 → gmul (xts k a) b = xts k (gmul a b) := by
  induction k with
  | zero => intro a b _; rfl
  | succ k ih =>
    intro a b h
    show gmul (xts k (xt a)) b = xts k (xt (gmul a b))
    rw [ih _ _ (xt_lt a h), gmul_xt h]
theorem exp_gmul (k b : Nat) (h : b < 256) : gmul (xts k 1) b = xts k b := by
  rw [gmul_xts k 1 b (by decide), one_gmul b h]
theorem exp_add (j k : Nat) : gmul (xts j 1) (xts k 1) = xts (j + k) 1 := by
  rw [exp_gmul _ _ (xts_lt k 1 (by decide)), ← xts_add]
theorem exp_255 : xts 255 1 = 1 := by decide +kernel
theorem exp_mod (k : Nat) : xts (k % 255) 1 = xts k 1 := by
  have h : ∀ q r, xts (255 * q + r) 1 = xts r 1 := by
    intro q r
    induction q with
    | zero => simp
    | succ q ih =>
      have e : 255 * (q + 1) + r = (255 * q + r) + 255 := by omega
      rw [e, xts_add, exp_255]; exact ih
  conv => rhs; rw [← Nat.div_add_mod k 255]
  exact (h _ _).symm
/-- the exponent of an element. -/
def lgr : Nat → Nat → Nat → Nat → Nat
  | 0, _, i, _ => i
  | k + 1, p, i, a => if p = a then i else lgr k (xt p) (i + 1) a
def lg (a : Nat) : Nat := lgr 255 1 0 a
theorem lg_exp : ∀ a, a < 256 → a ≠ 0 → xts (lg a) 1 = a ∧ lg a < 255 := by decide +kernel
theorem exp_lg : ∀ i, i < 255 → lg (xts i 1) = i ∧ xts i 1 ≠ 0 := by decide +kernel
end Go.Proofs.Ytgphfhpobppmeaa.GfM

/-! ### on bytes -/
namespace Go.Proofs.Ytgphfhpobppmeaa.GfM
/-- The product of two elements. -/
def mul (a b : UInt8) : UInt8 := UInt8.ofNat (gmul a.toNat b.toNat)
theorem u_lt (a : UInt8) : a.toNat < 256 := a.toNat_lt
theorem toNat_mul (a b : UInt8) : (mul a b).toNat = gmul a.toNat b.toNat := by
  unfold mul; rw [UInt8.toNat_ofNat']; exact Nat.mod_eq_of_lt (gmul_lt (u_lt a))
/-- the generator to a power. -/
def ex (k : Nat) : UInt8 := UInt8.ofNat (xts k 1)
theorem toNat_ex (k : Nat) : (ex k).toNat = xts k 1 := by
  unfold ex; rw [UInt8.toNat_ofNat']; exact Nat.mod_eq_of_lt (xts_lt k 1 (by decide))
theorem ex_add (j k : Nat) : mul (ex j) (ex k) = ex (j + k) := by
  apply UInt8.toNat_inj.1; rw [toNat_mul, toNat_ex, toNat_ex, toNat_ex, exp_add]
theorem ex_zero : ex 0 = 1 := by decide
theorem ex_mod (k : Nat) : ex (k % 255) = ex k := by unfold ex; rw [exp_mod]
theorem ex_255 : ex 255 = 1 := by rw [← ex_mod]; rfl
def lo (a : UInt8) : Nat := lg a.toNat
theorem toNat_ne {a : UInt8} (h : a ≠ 0) : a.toNat ≠ 0 := fun e => h (UInt8.toNat_inj.1 (by rw [e]; rfl))
theorem ex_lo {a : UInt8} (h : a ≠ 0) : ex (lo a) = a := by
  apply UInt8.toNat_inj.1; rw [toNat_ex]; exact (lg_exp _ (u_lt a) (toNat_ne h)).1
theorem lo_lt {a : UInt8} (h : a ≠ 0) : lo a < 255 := (lg_exp _ (u_lt a) (toNat_ne h)).2
theorem lo_ex {i : Nat} (h : i < 255) : lo (ex i) = i := by unfold lo; rw [toNat_ex]; exact (exp_lg i h).1
theorem ex_ne (i : Nat) : ex i ≠ 0 := by
  rw [← ex_mod]; intro h
  have := congrArg UInt8.toNat h
  rw [toNat_ex] at this
  exact (exp_lg _ (Nat.mod_lt _ (by decide))).2 this
theorem zero_mul (a : UInt8) : mul 0 a = 0 := by
  apply UInt8.toNat_inj.1; rw [toNat_mul]; exact zero_gmul _ (u_lt a)
theorem mul_zero (a : UInt8) : mul a 0 = 0 := by
  apply UInt8.toNat_inj.1; rw [toNat_mul]; exact gmul_zero _ (u_lt a)
theorem one_mul (a : UInt8) : mul 1 a = a := by
  apply UInt8.toNat_inj.1; rw [toNat_mul]; exact one_gmul _ (u_lt a)
theorem mul_comm (a b : UInt8) : mul a b = mul b a := by
  by_cases ha : a = 0
  · rw [ha, zero_mul, mul_zero]
  by_cases hb : b = 0
  · rw [hb, zero_mul, mul_zero]
  rw [← ex_lo ha, ← ex_lo hb, ex_add, ex_add, Nat.add_comm]
theorem mul_one (a : UInt8) : mul a 1 = a := by rw [mul_comm, one_mul]
theorem mul_assoc (a b c : UInt8) : mul (mul a b) c = mul a (mul b c) := by
  by_cases ha : a = 0
  · rw [ha, zero_mul, zero_mul, zero_mul]
  by_cases hb : b = 0
  · rw [hb, mul_zero, zero_mul, mul_zero]
  by_cases hc : c = 0
  · rw [hc, mul_zero, mul_zero, mul_zero]
  rw [← ex_lo ha, ← ex_lo hb, ← ex_lo hc, ex_add, ex_add, ex_add, ex_add, Nat.add_assoc]
theorem add_mul (a b c : UInt8) : mul (a ^^^ b) c = mul a c ^^^ mul b c := by
  apply UInt8.toNat_inj.1
  rw [toNat_mul, UInt8.toNat_xor, UInt8.toNat_xor, toNat_mul, toNat_mul, gmul_add _ (u_lt a) (u_lt b)]
theorem mul_add (a b c : UInt8) : mul a (b ^^^ c) = mul a b ^^^ mul a c := by
  rw [mul_comm, add_mul, mul_comm b, mul_comm c]
theorem mul_ne {a b : UInt8} (ha : a ≠ 0) (hb : b ≠ 0) : mul a b ≠ 0 := by
  rw [← ex_lo ha, ← ex_lo hb, ex_add]; exact ex_ne _
theorem mul_eq_zero (a b : UInt8) : mul a b = 0 ↔ a = 0 ∨ b = 0 := by
  constructor
  · intro h
    by_cases ha : a = 0
    · exact .inl ha
    by_cases hb : b = 0
    · exact .inr hb
    exact absurd h (mul_ne ha hb)
  · rintro (rfl | rfl)
    · exact zero_mul b
    · exact mul_zero a
/-- the inverse; of 0: 0. -/
def inv (a : UInt8) : UInt8 := if a = 0 then 0 else ex (255 - lo a)
theorem inv_zero : inv 0 = 0 := rfl
theorem mul_inv {a : UInt8} (h : a ≠ 0) : mul a (inv a) = 1 := by
  unfold inv; rw [if_neg h]
  conv => lhs; lhs; rw [← ex_lo h]
  rw [ex_add, show lo a + (255 - lo a) = 255 by have := lo_lt h; omega, ex_255]
theorem inv_mul {a : UInt8} (h : a ≠ 0) : mul (inv a) a = 1 := by rw [mul_comm, mul_inv h]
theorem mul_cancel {a b c : UInt8} (h : a ≠ 0) (e : mul a b = mul a c) : b = c := by
  have := congrArg (mul (inv a)) e
  rwa [← mul_assoc, ← mul_assoc, inv_mul h, one_mul, one_mul] at this
theorem inv_unique {a b : UInt8} (h : mul a b = 1) : b = inv a := by
  have ha : a ≠ 0 := by
    rintro rfl
    rw [zero_mul] at h
    exact absurd h (by decide)
  exact mul_cancel ha (h.trans (mul_inv ha).symm)
theorem inv_ne {a : UInt8} (h : a ≠ 0) : inv a ≠ 0 := by
  intro e
  have := mul_inv h
  rw [e, mul_zero] at this
  exact absurd this (by decide)
/-- powers. -/
def pw (a : UInt8) : Nat → UInt8
  | 0 => 1
  | k + 1 => mul (pw a k) a
theorem pw_zero (a : UInt8) : pw a 0 = 1 := rfl
theorem pw_one (a : UInt8) : pw a 1 = a := one_mul a
theorem pw_add (a : UInt8) (j k : Nat) : pw a (j + k) = mul (pw a j) (pw a k) := by
  induction k with
  | zero => rw [pw_zero, mul_one]; rfl
  | succ k ih => show mul (pw a (j + k)) a = mul (pw a j) (mul (pw a k) a); rw [ih, mul_assoc]
theorem pw_mul (a : UInt8) (j k : Nat) : pw a (j * k) = pw (pw a j) k := by
  induction k with
  | zero => rfl
  | succ k ih => rw [Nat.mul_succ, pw_add, ih]; rfl
theorem pw_two (k : Nat) : pw 2 k = ex k := by
  induction k with
  | zero => rfl
  | succ k ih => show mul (pw 2 k) 2 = _; rw [ih, show (2 : UInt8) = ex 1 by decide, ex_add]
theorem pw_ex (i k : Nat) : pw (ex i) k = ex (i * k) := by
  rw [← pw_two, ← pw_mul, pw_two]
theorem one_pw (k : Nat) : pw 1 k = 1 := by
  induction k with
  | zero => rfl
  | succ k ih => show mul (pw 1 k) 1 = 1; rw [ih]; rfl
theorem pw_255 {a : UInt8} (h : a ≠ 0) : pw a 255 = 1 := by
  rw [← ex_lo h, pw_ex, Nat.mul_comm, ← pw_ex, ex_255, one_pw]
theorem pw_mod {a : UInt8} (h : a ≠ 0) (k : Nat) : pw a (k % 255) = pw a k := by
  conv => rhs; rw [← Nat.div_add_mod k 255, pw_add, pw_mul, pw_255 h, one_pw, one_mul]
theorem pw_ne {a : UInt8} (h : a ≠ 0) (k : Nat) : pw a k ≠ 0 := by rw [← ex_lo h, pw_ex]; exact ex_ne _
theorem zero_pw (k : Nat) (h : 0 < k) : pw 0 k = 0 := by
  obtain ⟨j, rfl⟩ : ∃ j, k = j + 1 := ⟨k - 1, by omega⟩
  exact mul_zero _
theorem pw_succ (a : UInt8) (k : Nat) : pw a (k + 1) = mul (pw a k) a := rfl
theorem inv_pw (a : UInt8) (h : a ≠ 0) : inv a = pw a 254 := by
  refine (inv_unique ?_).symm
  rw [mul_comm, ← pw_succ]; exact pw_255 h
theorem sq_pw (a : UInt8) (k : Nat) : pw (mul a a) k = pw a (2 * k) := by
  have e : mul a a = pw a 2 := by rw [pw_succ, pw_succ, pw_zero, one_mul]
  rw [e, pw_mul]
end Go.Proofs.Ytgphfhpobppmeaa.GfM
