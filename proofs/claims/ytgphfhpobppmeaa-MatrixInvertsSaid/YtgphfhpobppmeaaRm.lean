/-
  The document's product of two elements (ref02.Mul): by the coefficients, and the remainder. Plain part.
-/
import Derived.Test.YtgphfhpobppmeaaGf
namespace Go.Proofs.Ytgphfhpobppmeaa.GfM
/-- the product of polynomials, joined to p. -/
def clm : Nat → Nat → Nat → Nat → Nat
  | 0, _, _, p => p
  | k + 1, a, b, p => clm k (a / 2) (2 * b) (if a % 2 = 1 then p ^^^ b else p)
/-- the remainder, from the highest bit down. -/
def redc : Nat → Nat → Nat
  | 0, p => p
  | k + 1, p => redc k (if p.testBit (k + 8) = true then p ^^^ (285 * 2 ^ k) else p)
theorem clm_add (k : Nat) : ∀ a b c p q, clm k a (b ^^^ c) (p ^^^ q) = clm k a b p ^^^ clm k a c q := by
  induction k with
  | zero => intros; rfl
  | succ k ih =>
    intro a b c p q
    show clm k (a / 2) (2 * (b ^^^ c)) _ = clm k (a / 2) (2 * b) _ ^^^ clm k (a / 2) (2 * c) _
    rw [two_xor]
    by_cases h : a % 2 = 1
    · simp only [h, if_true]; rw [xor_four]; exact ih _ _ _ _ _
    · simp only [h, if_false]; exact ih _ _ _ _ _
theorem redc_add (k : Nat) : ∀ p q, redc k (p ^^^ q) = redc k p ^^^ redc k q := by
  induction k with
  | zero => intros; rfl
  | succ k ih =>
    intro p q
    show redc k _ = redc k _ ^^^ redc k _
    rw [← ih]
    congr 1
    rw [Nat.testBit_xor]
    have e0 : ∀ x y : Nat, (x ^^^ y) ^^^ y = x := fun x y => by rw [Nat.xor_assoc, Nat.xor_self, Nat.xor_zero]
    generalize 285 * 2 ^ k = m
    cases p.testBit (k + 8) <;> cases q.testBit (k + 8) <;> simp only [Bool.xor_false, Bool.xor_true, Bool.not_true, Bool.not_false, if_true, if_false, Bool.false_eq_true]
    · rw [Nat.xor_assoc]
    · rw [Nat.xor_assoc, Nat.xor_comm q m, ← Nat.xor_assoc]
    · rw [xor_four, Nat.xor_self, Nat.xor_zero]
theorem bit_top : ∀ n, n < 8 → ∀ r, r < 2 ^ n → 2 ^ n + r = 2 ^ n ^^^ r := by decide +kernel
theorem add_ext (f g : Nat → Nat) (hf : ∀ x y, x < 256 → y < 256 → f (x ^^^ y) = f x ^^^ f y) (hg : ∀ x y, x < 256 → y < 256 → g (x ^^^ y) = g x ^^^ g y)
    (h0 : f 0 = g 0) (hb : ∀ j, j < 8 → f (2 ^ j) = g (2 ^ j)) : ∀ n, n ≤ 8 → ∀ x, x < 2 ^ n → f x = g x := by
  intro n
  induction n with
  | zero =>
    intro _ x hx
    obtain rfl : x = 0 := by simpa using hx
    exact h0
  | succ n ih =>
    intro hn x hx
    have hp : 2 ^ n ≤ 128 := Nat.pow_le_pow_right (by decide) (show n ≤ 7 by omega)
    by_cases hlt : x < 2 ^ n
    · exact ih (by omega) x hlt
    · have hr : x - 2 ^ n < 2 ^ n := by rw [Nat.pow_succ] at hx; omega
      have e : x = 2 ^ n ^^^ (x - 2 ^ n) := by rw [← bit_top n (by omega) _ hr]; omega
      rw [e, hf _ _ (by omega) (by omega), hg _ _ (by omega) (by omega), hb n (by omega), ih (by omega) _ hr]
theorem gmul_add_right {x y : Nat} (a : Nat) (ha : a < 256) (hx : x < 256) (hy : y < 256) : gmul a (x ^^^ y) = gmul a x ^^^ gmul a y := by
  have h := mul_add (UInt8.ofNat a) (UInt8.ofNat x) (UInt8.ofNat y)
  have h2 := congrArg UInt8.toNat h
  simp only [toNat_mul, UInt8.toNat_xor, UInt8.toNat_ofNat'] at h2
  rwa [Nat.mod_eq_of_lt (by simpa using ha), Nat.mod_eq_of_lt (by simpa using hx), Nat.mod_eq_of_lt (by simpa using hy)] at h2
theorem red_base : ∀ a, a < 256 → ∀ j, j < 8 → redc 8 (clm 8 a (2 ^ j) 0) = gmul a (2 ^ j) := by decide +kernel
theorem clm_zero (k : Nat) : ∀ a, clm k a 0 0 = 0 := by
  induction k with
  | zero => intro a; rfl
  | succ k ih =>
    intro a
    show clm k (a / 2) (2 * 0) (if a % 2 = 1 then 0 ^^^ 0 else 0) = 0
    have : (if a % 2 = 1 then 0 ^^^ 0 else 0) = 0 := by split <;> rfl
    rw [this]; exact ih _
theorem red_clm (a : Nat) (ha : a < 256) (b : Nat) (hb : b < 256) : redc 8 (clm 8 a b 0) = gmul a b := by
  refine add_ext (fun b => redc 8 (clm 8 a b 0)) (fun b => gmul a b) ?_ ?_ ?_ ?_ 8 (Nat.le_refl _) b hb
  · intro x y _ _
    show redc 8 (clm 8 a (x ^^^ y) (0 ^^^ 0)) = _
    rw [clm_add, redc_add]
  · intro x y hx hy; exact gmul_add_right a ha hx hy
  · show redc 8 (clm 8 a 0 0) = gmul a 0
    rw [clm_zero, gmul_zero a ha]; rfl
  · intro j hj; exact red_base a ha j hj
end Go.Proofs.Ytgphfhpobppmeaa.GfM
