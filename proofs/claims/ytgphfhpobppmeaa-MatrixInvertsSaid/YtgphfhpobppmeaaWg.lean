/-
  The walks of the field's functions (gf).
-/
import Derived.Test.YtgphfhpobppmeaaProg
import Derived.Test.YtgphfhpobppmeaaGf
import Derived.WalkKit
import Derived.WalkSpells
import Derived.WalkLawsBesides
import Derived.Laws.BitsLemmas
import Derived.Lib.Hide
namespace Go.Proofs.Ytgphfhpobppmeaa
open Go.RowKit GfM

theorem bits_xor_nat (k : IntKind) (j : Nat) (hj : j ≤ k.bits) (hk : ∀ n : Int, 0 ≤ n → n < 2 ^ j → k.wrap n = n) (a b : Nat) (ha : a < 2 ^ j) (hb : b < 2 ^ j) :
    bits .xor k (a : Int) (b : Int) = ((a ^^^ b : Nat) : Int) := by
  have hp : 2 ^ j ≤ 2 ^ k.bits := Nat.pow_le_pow_right (by decide) hj
  have ha' : a % 2 ^ k.bits = a := Nat.mod_eq_of_lt (Nat.lt_of_lt_of_le ha hp)
  have hb' : b % 2 ^ k.bits = b := Nat.mod_eq_of_lt (Nat.lt_of_lt_of_le hb hp)
  simp only [bits, BitVec.ofInt_natCast, BitVec.toNat_xor, BitVec.toNat_ofNat, ha', hb']
  exact hk _ (Int.natCast_nonneg _) (by exact_mod_cast Nat.xor_lt_two_pow ha hb)
theorem wraps_i64 (n : Int) (h₀ : 0 ≤ n) (h₁ : n < 2 ^ 62) : IntKind.i64.wrap n = n := by rw [IntKind.wrap_i64]; omega
theorem bits_xor_u8 (a b : UInt8) : bits .xor .u8 (a.toNat : Int) (b.toNat : Int) = ((a ^^^ b).toNat : Int) := by
  rw [bits_xor_nat .u8 8 (by decide) wraps_u8 _ _ a.toNat_lt b.toNat_lt, UInt8.toNat_xor]

set_option maxHeartbeats 400000 in
theorem add_any (a b : UInt8) (w : World) :
    Calls Try.prog 39 #[.int .u8 (a.toNat : Int), .int .u8 (b.toNat : Int)] w fun e w' => e = .returned (.int .u8 ((a ^^^ b).toNat : Int)) ∧ w = w' := by
  go_enter Try.func39, Try.ntmps39
  go_wp2
  go_ret
  exact ⟨by rw [← bits_xor_u8]; rfl, rfl⟩

theorem gm_more (k : Nat) : ∀ x b o, b < 2 ^ k → gm (k + 1) x b o = gm k x b o := by
  induction k with
  | zero =>
    intro x b o h
    obtain rfl : b = 0 := by simpa using h
    rfl
  | succ k ih =>
    intro x b o h
    show gm (k + 1) (xt x) (b / 2) _ = gm k (xt x) (b / 2) _
    exact ih _ _ _ (by rw [Nat.pow_succ] at h; omega)
theorem gm_step (x b o : Nat) (h : b < 256) : gm 8 x b o = gm 8 (xt x) (b / 2) (if b % 2 = 1 then o ^^^ x else o) :=
  (gm_more 7 (xt x) (b / 2) _ (show b / 2 < 2 ^ 7 by omega)).symm
theorem gm_end (x o : Nat) : gm 8 x 0 o = o := rfl

theorem and_one_u8 (b : Nat) (h : b < 256) : bits .and .u8 (b : Int) 1 = ((b % 2 : Nat) : Int) := by
  have := (bits_nat .u8 8 (by decide) wraps_u8 b 1 h (by decide)).1
  rw [Nat.and_one_is_mod] at this
  exact this
theorem xor_i64 (a b : Nat) (ha : a < 2 ^ 62) (hb : b < 2 ^ 62) : bits .xor .i64 (a : Int) (b : Int) = ((a ^^^ b : Nat) : Int) :=
  bits_xor_nat .i64 62 (by decide) wraps_i64 a b ha hb
theorem xt_big (x : Nat) (h : x < 256) (hx : 255 < (x : Int) * 2) : bits .xor .i64 ((x : Int) * 2) 285 = ((xt x : Nat) : Int) := by
  have e : ((x : Int) * 2) = ((2 * x : Nat) : Int) := by omega
  rw [e]
  have := xor_i64 (2 * x) 285 (by omega) (by decide)
  refine this.trans ?_
  unfold xt
  rw [if_pos (by omega)]
theorem xt_small (x : Nat) (hx : (x : Int) * 2 ≤ 255) : ((x : Int) * 2) = ((xt x : Nat) : Int) := by
  unfold xt
  rw [if_neg (by omega)]
  omega
theorem odd_of (b : Nat) (h : b < 256) {r : Bool} (e : (bits .and .u8 (b : Int) 1 == 1) = r) : (b % 2 = 1) ↔ r = true := by
  rw [and_one_u8 b h] at e
  subst e
  rw [beq_iff_eq]
  omega
theorem xor_i64_lt (o x : Nat) (ho : o < 256) (hx : x < 256) : bits .xor .i64 (o : Int) (x : Int) = ((o ^^^ x : Nat) : Int) :=
  xor_i64 o x (by omega) (by omega)

set_option maxHeartbeats 400000 in
theorem mul_nat (a b : Nat) (w : World) (ha : a < 256) (hb : b < 256) :
    Calls Try.prog 40 #[.int .u8 (a : Int), .int .u8 (b : Int)] w fun e w' => e = .returned (.int .u8 (gmul a b : Nat)) ∧ w = w' := by
  go_enter Try.func40, Try.ntmps40
  go_wp2
  go_loop [1, 5, 6] (fun s1 s5 s6 => ∃ b' x o : Nat, b' < 256 ∧ x < 256 ∧ o < 256 ∧ gm 8 x b' o = gmul a b ∧ s1 = .int .u8 b' ∧ s5 = .int .i64 x ∧ s6 = .int .i64 o) (fun s1 _ _ => (intOf s1).toNat)
  case atStart => exact ⟨b, a, 0, hb, ha, by decide, rfl, rfl, rfl, rfl⟩
  case round =>
    obtain ⟨b', x, o, hb', hx, ho, hg, rfl, rfl, rfl⟩ := hrel
    have H := Lib.hid hg; clear hg
    go_wp2
    · have hnz : ((b' : Int) != 0) = true := ‹_›
      rw [bne_iff_ne] at hnz
      have ho2 := (odd_of b' hb' ‹_›).2 rfl
      refine ⟨⟨b' / 2, xt x, o ^^^ x, by omega, xt_lt x hx, xor_lt ho hx, ?_, rfl, by rw [xt_big x hx ‹_›], by rw [xor_i64_lt o x ho hx]⟩, ?_⟩
      · rw [← H.out, gm_step x b' o hb', if_pos ho2]
      · simp [intOf]; omega
    · have hnz : ((b' : Int) != 0) = true := ‹_›
      rw [bne_iff_ne] at hnz
      have ho2 := (odd_of b' hb' ‹_›).2 rfl
      refine ⟨⟨b' / 2, xt x, o ^^^ x, by omega, xt_lt x hx, xor_lt ho hx, ?_, rfl, by rw [← xt_small x ‹_›], by rw [xor_i64_lt o x ho hx]⟩, ?_⟩
      · rw [← H.out, gm_step x b' o hb', if_pos ho2]
      · simp [intOf]; omega
    · have hnz : ((b' : Int) != 0) = true := ‹_›
      rw [bne_iff_ne] at hnz
      have ho2 : ¬ (b' % 2 = 1) := fun h => by have := (odd_of b' hb' ‹_›).1 h; cases this
      refine ⟨⟨b' / 2, xt x, o, by omega, xt_lt x hx, ho, ?_, rfl, by rw [xt_big x hx ‹_›], rfl⟩, ?_⟩
      · rw [← H.out, gm_step x b' o hb', if_neg ho2]
      · simp [intOf]; omega
    · have hnz : ((b' : Int) != 0) = true := ‹_›
      rw [bne_iff_ne] at hnz
      have ho2 : ¬ (b' % 2 = 1) := fun h => by have := (odd_of b' hb' ‹_›).1 h; cases this
      refine ⟨⟨b' / 2, xt x, o, by omega, xt_lt x hx, ho, ?_, rfl, by rw [← xt_small x ‹_›], rfl⟩, ?_⟩
      · rw [← H.out, gm_step x b' o hb', if_neg ho2]
      · simp [intOf]; omega
    · go_ret
      have h0 : b' = 0 := by have h : ((b' : Int) != 0) = false := ‹_›; simpa using h
      subst h0
      refine ⟨?_, rfl⟩
      rw [← H.out]
      rfl
theorem mul_any (x y : Int) (a b : UInt8) (hx : x = (a.toNat : Int)) (hy : y = (b.toNat : Int)) (w : World) :
    Calls Try.prog 40 #[.int .u8 x, .int .u8 y] w fun e w' => e = .returned (.int .u8 ((mul a b).toNat : Int)) ∧ w = w' := by
  subst hx hy
  refine (mul_nat a.toNat b.toNat w a.toNat_lt b.toNat_lt).mono fun e w' h => ?_
  rw [toNat_mul]; exact h
end Go.Proofs.Ytgphfhpobppmeaa
