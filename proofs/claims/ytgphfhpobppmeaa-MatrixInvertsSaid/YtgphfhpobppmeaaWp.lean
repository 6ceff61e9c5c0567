/-
  The walks of powers and inverses (gf.Pow, gf.Inv; ref02.Pow, ref02.Inv).
-/
import Derived.Test.YtgphfhpobppmeaaWr
namespace Go.Proofs.Ytgphfhpobppmeaa
open Go.RowKit GfM

/-- the power of the document, for every exponent. -/
def pwI (a : UInt8) (n : Int) : UInt8 := if n = 0 then 1 else if a = 0 then 0 else pw a (n % 255).toNat
theorem tmod_255 (n : Int) : (wrap64 (n.tmod 255 + 255)).tmod 255 = n % 255 := by
  have h := Int.tmod_eq_emod (a := n) (b := 255)
  have hw : wrap64 (n.tmod 255 + 255) = n.tmod 255 + 255 := by
    rw [h]; unfold wrap64; split <;> omega
  rw [hw, h]
  split
  · rw [Int.tmod_eq_emod_of_nonneg (by omega)]; omega
  · rw [Int.tmod_eq_emod_of_nonneg (by omega)]; omega
theorem and_one_i64 (k : Nat) (h : k < 2 ^ 62) : bits .and .i64 (k : Int) 1 = ((k % 2 : Nat) : Int) := by
  have := (bits_nat .i64 62 (by decide) wraps_i64 k 1 h (by decide)).1
  rw [Nat.and_one_is_mod] at this
  exact this
theorem pow_odd (o c : UInt8) (k : Nat) (h : k % 2 = 1) : mul (mul o c) (pw (mul c c) (k / 2)) = mul o (pw c k) := by
  rw [sq_pw, mul_assoc]
  congr 1
  have : k = 1 + 2 * (k / 2) := by omega
  conv => rhs; rw [this, pw_add, pw_one]
theorem pow_even (o c : UInt8) (k : Nat) (h : k % 2 = 0) : mul o (pw (mul c c) (k / 2)) = mul o (pw c k) := by
  rw [sq_pw, show 2 * (k / 2) = k by omega]
theorem ne_zero_beq {a : UInt8} (h : a ≠ 0) : (((a.toNat : Nat) : Int) == 0) = false := by
  have := toNat_ne h
  rw [beq_eq_false_iff_ne]; omega

set_option maxHeartbeats 400000 in
theorem pow_any (x n : Int) (a : UInt8) (hx : x = (a.toNat : Int)) (w : World) :
    Calls Try.prog 38 #[.int .u8 x, .int .i64 n] w fun e w' => e = .returned (.int .u8 ((pwI a n).toNat : Int)) ∧ w = w' := by
  subst hx
  by_cases hn : n = 0
  · subst hn
    go_enter Try.func38, Try.ntmps38
    go_wp2
    go_ret
    exact ⟨rfl, rfl⟩
  have hn' : (n == 0) = false := by simpa using hn
  by_cases ha : a = 0
  · subst ha
    have e : pwI 0 n = 0 := by unfold pwI; rw [if_neg hn, if_pos rfl]
    rw [e]
    have HN := Lib.hid hn; clear hn e
    go_enter Try.func38, Try.ntmps38
    go_wp2
    go_ret
    exact ⟨rfl, rfl⟩
  have ha' := ne_zero_beq ha
  have e : pwI a n = pw a (n % 255).toNat := by unfold pwI; rw [if_neg hn, if_neg ha]
  rw [e]
  have ht := tmod_255 n
  obtain ⟨k, hk⟩ : ∃ k : Nat, n % 255 = k := ⟨(n % 255).toNat, by omega⟩
  have hkl : k < 255 := by omega
  rw [hk] at ht ⊢
  simp only [Int.toNat_natCast]
  have HN := Lib.hid hn; clear hn e hk
  have HA := Lib.hid ha; clear ha
  go_enter Try.func38, Try.ntmps38
  go_wp2
  go_loop [0, 5, 6] (fun s0 s5 s6 => ∃ (c o : UInt8) (j : Nat), j < 255 ∧ mul o (pw c j) = pw a k ∧ s0 = .int .u8 (c.toNat : Int) ∧ s5 = .int .u8 (o.toNat : Int) ∧ s6 = .int .i64 j) (fun _ _ s6 => (intOf s6).toNat)
  case atStart => exact ⟨a, 1, k, hkl, one_mul _, rfl, rfl, rfl⟩
  case round =>
    obtain ⟨c, o, j, hj, hg, rfl, rfl, rfl⟩ := hrel
    have H := Lib.hid hg; clear hg
    by_cases h0 : 0 < j
    · by_cases hodd : j % 2 = 1
      · have hb : (bits .and .i64 (j : Int) 1 == 1) = true := by rw [and_one_i64 j (by omega), hodd]; rfl
        go_wp2_with (go_at_call 40; refine (mul_any _ _ _ _ rfl rfl _).mono ?_; rintro e w' ⟨rfl, rfl⟩)
        go_round
        case rel => exact ⟨mul c c, mul o c, j / 2, by omega, by rw [pow_odd o c j hodd]; exact H.out, rfl, rfl, rfl⟩
        case measure => simp [intOf]; omega
      · have hb : (bits .and .i64 (j : Int) 1 == 1) = false := by rw [and_one_i64 j (by omega), show j % 2 = 0 by omega]; rfl
        go_wp2_with (go_at_call 40; refine (mul_any _ _ _ _ rfl rfl _).mono ?_; rintro e w' ⟨rfl, rfl⟩)
        go_round
        case rel => exact ⟨mul c c, o, j / 2, by omega, by rw [pow_even o c j (by omega)]; exact H.out, rfl, rfl, rfl⟩
        case measure => simp [intOf]; omega
    · obtain rfl : j = 0 := by omega
      have hP : o = pw a k := by rw [← H.out, pw_zero, mul_one]
      have HP := Lib.hid hP; clear hP H
      go_wp2
      go_ret
      exact ⟨by rw [← HP.out]; rfl, rfl⟩
end Go.Proofs.Ytgphfhpobppmeaa
