/-
  The walks of the document's sum (ref01.unlike, ref01.Xor, ref02.Add).
-/
import Derived.Test.YtgphfhpobppmeaaWp
import Derived.Lib.ConvBytes
namespace Go.Proofs.Ytgphfhpobppmeaa
open Go.RowKit GfM

theorem mod_succ (x i : Nat) : x % 2 ^ (i + 1) = x % 2 ^ i + 2 ^ i * (x / 2 ^ i % 2) := by rw [Nat.pow_succ, Nat.mod_mul]
theorem unlike_step (x y i : Nat) (hi : i < 8) : (x % 2 ^ (i + 1)) ^^^ (y % 2 ^ (i + 1)) = (x % 2 ^ i ^^^ y % 2 ^ i) + if x / 2 ^ i % 2 = y / 2 ^ i % 2 then 0 else 2 ^ i := by
  have hr : x % 2 ^ i < 2 ^ i := Nat.mod_lt _ (Nat.two_pow_pos i)
  have hs : y % 2 ^ i < 2 ^ i := Nat.mod_lt _ (Nat.two_pow_pos i)
  have hrs : x % 2 ^ i ^^^ y % 2 ^ i < 2 ^ i := Nat.xor_lt_two_pow hr hs
  rw [mod_succ x, mod_succ y]
  have hx : x / 2 ^ i % 2 = 0 ∨ x / 2 ^ i % 2 = 1 := by omega
  have hy : y / 2 ^ i % 2 = 0 ∨ y / 2 ^ i % 2 = 1 := by omega
  generalize x % 2 ^ i = r at *
  generalize y % 2 ^ i = s at *
  rcases hx with hx | hx <;> rcases hy with hy | hy <;> rw [hx, hy] <;> simp only [Nat.mul_zero, Nat.mul_one, Nat.add_zero, if_true, Nat.zero_ne_one, Nat.one_ne_zero, if_false]
  · rw [Nat.add_comm s, bit_top i hi s hs, ← Nat.xor_assoc, Nat.xor_comm r, Nat.xor_assoc, ← bit_top i hi _ hrs, Nat.add_comm]
  · rw [Nat.add_comm r, bit_top i hi r hr, Nat.xor_assoc, ← bit_top i hi _ hrs, Nat.add_comm]
  · rw [Nat.add_comm r, Nat.add_comm s, bit_top i hi s hs, bit_top i hi r hr, xor_four, Nat.xor_self, Nat.zero_xor]

set_option maxHeartbeats 400000 in
theorem unlike_nat (a b : Nat) (w : World) (ha : a < 256) (hb : b < 256) :
    Calls Try.prog 50 #[.int .u8 (a : Int), .int .u8 (b : Int)] w fun e w' => e = .returned (.int .u8 ((a ^^^ b : Nat) : Int)) ∧ w = w' := by
  go_enter Try.func50, Try.ntmps50
  go_wp2
  go_loop [0, 1, 5, 6, 7] (fun s0 s1 s5 s6 s7 => ∃ i : Nat, i ≤ 8 ∧ s0 = .int .u8 (a / 2 ^ i : Nat) ∧ s1 = .int .u8 (b / 2 ^ i : Nat) ∧ s5 = .int .u8 ((a % 2 ^ i ^^^ b % 2 ^ i : Nat) : Int) ∧ s6 = .int .u8 (2 ^ i % 256 : Nat) ∧ s7 = .int .i64 i) (fun _ _ _ _ s7 => 8 - (intOf s7).toNat)
  case atStart => exact ⟨0, by omega, by simp, by simp, by simp [Nat.mod_one], rfl, rfl⟩
  case round =>
    obtain ⟨i, hi, rfl, rfl, rfl, rfl, rfl⟩ := hrel
    by_cases hlt : i < 8
    · have hst := unlike_step a b i hlt
      have hX : a / 2 ^ i < 256 := Nat.lt_of_le_of_lt (Nat.div_le_self _ _) ha
      have hY : b / 2 ^ i < 256 := Nat.lt_of_le_of_lt (Nat.div_le_self _ _) hb
      have hp : 2 ^ i ≤ 128 := Nat.pow_le_pow_right (by decide) (show i ≤ 7 by omega)
      have hxx := half_step a i
      have hyy := half_step b i
      have hpp : (2 * 2 ^ i) % 256 = 2 ^ (i + 1) % 256 := by rw [Nat.pow_succ, Nat.mul_comm]
      have hn : a % 2 ^ i ^^^ b % 2 ^ i < 2 ^ i := Nat.xor_lt_two_pow (Nat.mod_lt _ (Nat.two_pow_pos i)) (Nat.mod_lt _ (Nat.two_pow_pos i))
      rw [Nat.mod_eq_of_lt (show 2 ^ i < 256 by omega)]
      generalize hq1 : 2 ^ (i + 1) = q1 at *
      have HQ1 := Lib.hid hq1; clear hq1
      generalize a / 2 ^ i = X at *
      generalize b / 2 ^ i = Y at *
      generalize a % 2 ^ i ^^^ b % 2 ^ i = N at *
      generalize 2 ^ i = q at *
      have HST := Lib.hid hst; clear hst
      have HXX := Lib.hid hxx; clear hxx
      have HYY := Lib.hid hyy; clear hyy
      have HPP := Lib.hid hpp; clear hpp
      by_cases hc : X % 2 = Y % 2
      · have h1 : (((X : Int) % 2) != ((Y : Int) % 2)) = false := by rw [bne_eq_false_iff_eq]; omega
        have HC := Lib.hid hc; clear hc
        go_wp2
        go_round
        case rel =>
          refine ⟨i + 1, by omega, ?_, ?_, ?_, ?_, by go_num⟩
          · rw [HQ1.out, HXX.out]
          · rw [HQ1.out, HYY.out]
          · rw [HQ1.out, HST.out, if_pos HC.out, Nat.add_zero]
          · rw [HQ1.out, ← HPP.out]; simp
        case measure => simp [intOf]; omega
      · have h1 : (((X : Int) % 2) != ((Y : Int) % 2)) = true := by rw [bne_iff_ne]; omega
        have HC := Lib.hid hc; clear hc
        go_wp2
        go_round
        case rel =>
          refine ⟨i + 1, by omega, ?_, ?_, ?_, ?_, by go_num⟩
          · rw [HQ1.out, HXX.out]
          · rw [HQ1.out, HYY.out]
          · rw [HQ1.out, HST.out, if_neg HC.out]; simp
          · rw [HQ1.out, ← HPP.out]; simp
        case measure => simp [intOf]; omega
    · obtain rfl : i = 8 := by omega
      rw [Nat.mod_eq_of_lt (show a < 2 ^ 8 from ha), Nat.mod_eq_of_lt (show b < 2 ^ 8 from hb)]
      go_wp2
      go_ret
      exact ⟨rfl, rfl⟩
theorem unlike_any (x y : Int) (a b : UInt8) (hx : x = (a.toNat : Int)) (hy : y = (b.toNat : Int)) (w : World) :
    Calls Try.prog 50 #[.int .u8 x, .int .u8 y] w fun e w' => e = .returned (.int .u8 ((a ^^^ b).toNat : Int)) ∧ w = w' := by
  subst hx hy
  refine (unlike_nat a.toNat b.toNat w a.toNat_lt b.toNat_lt).mono fun e w' h => ?_
  rw [UInt8.toNat_xor]; exact h

/-- the document's Xor, on lists of bytes. -/
def xorL (a b : List UInt8) : List UInt8 := List.zipWith (· ^^^ ·) a b
theorem info5 : (Try.prog.info? 5).map (fun i => (i.zero, i.size, i.bytes)) = some (some (.int .u8 0), 1, 1) := by kernel_rfl

theorem xorL_take (a b : List UInt8) (i : Nat) (ha : i < a.length) (hb : i < b.length) : xorL (a.take (i + 1)) (b.take (i + 1)) = xorL (a.take i) (b.take i) ++ [a.getD i 0 ^^^ b.getD i 0] := by
  unfold xorL
  rw [List.take_succ_eq_append_getElem ha, List.take_succ_eq_append_getElem hb, List.zipWith_append (by simp; omega)]
  simp [ha, hb]
theorem xorL_all (a b : List UInt8) (i : Nat) (h : i = a.length ∨ i = b.length) (ha : i ≤ a.length) (hb : i ≤ b.length) : xorL (a.take i) (b.take i) = xorL a b := by
  unfold xorL
  rw [← List.take_zipWith, List.take_of_length_le]
  simp; omega
theorem xorL_take_length (a b : List UInt8) (i : Nat) : (xorL (a.take i) (b.take i)).length ≤ i := by
  unfold xorL; simp; omega

set_option maxHeartbeats 400000 in
theorem rxor_ba (s t : ByteArray) (a b : List UInt8) (hs : a = s.data.toList) (ht : b = t.data.toList) (w : World) (hls : s.size ≤ 140737488351232) :
    Calls Try.prog 48 #[.string s, .string t] w fun e w' => e = .returned (.string (bs (xorL a b))) ∧ Below w.heap.size w w' := by
  have hxs : ∀ i, ∀ h : i < s.size, ((s[i]'h).toNat : Int) = ((a.getD i 0).toNat : Int) := by subst hs; exact byte_at s
  have hxt : ∀ i, ∀ h : i < t.size, ((t[i]'h).toNat : Int) = ((b.getD i 0).toNat : Int) := by subst ht; exact byte_at t
  have hla : a.length = s.size := by subst hs; exact size_toList s
  have hlb : b.length = t.size := by subst ht; exact size_toList t
  have HS := Lib.hid hxs; clear hxs
  have HT := Lib.hid hxt; clear hxt
  have HLA := Lib.hid hla; clear hla
  have HLB := Lib.hid hlb; clear hlb
  clear hs ht
  go_enter Try.func48, Try.ntmps48
  go_wp2
  go_loopw [5, 6, 7] (fun s5 s6 _ wr => ∃ i : Nat, i ≤ s.size ∧ i ≤ t.size ∧ s6 = .int .i64 i ∧ Own wr w.heap.size 5 s5 (bv (xorL (a.take i) (b.take i))) ∧ Below w.heap.size w wr) (fun _ s6 _ _ => s.size - (intOf s6).toNat)
  case atStart => exact ⟨0, by omega, by omega, rfl, Own.nil_ _ _ _, Below.refl _ _⟩
  case round =>
    obtain ⟨i, hia, hib, rfl, hO, hB⟩ := hrel
    by_cases h1 : i < s.size
    · by_cases h2 : i < t.size
      · have hxa := HS.out i
        have hxb := HT.out i
        obtain ⟨x, hx⟩ : ∃ x, a.getD i 0 = x := ⟨_, rfl⟩
        obtain ⟨y, hy⟩ : ∃ y, b.getD i 0 = y := ⟨_, rfl⟩
        rw [hx] at hxa
        rw [hy] at hxb
        obtain ⟨z, hz⟩ : ∃ z, x ^^^ y = z := ⟨_, rfl⟩
        have hcall : ∀ W : World, Calls Try.prog 50 #[.int .u8 (x.toNat : Int), .int .u8 (y.toNat : Int)] W fun e w' => e = .returned (.int .u8 (z.toNat : Int)) ∧ w' = W := by
          intro W
          rw [← hz]
          exact (unlike_any _ _ x y rfl rfl W).mono fun _ _ h => ⟨h.1, h.2.symm⟩
        have hT := xorL_take a b i (by have := HLA.out; omega) (by have := HLB.out; omega)
        rw [hx, hy, hz] at hT
        have hL : ((bv (xorL (a.take i) (b.take i))).length + 1) * 1 ≤ 140737488355328 := by
          have := xorL_take_length a b i
          rw [bv_length]; omega
        have HL := Lib.hid hL; clear hL
        have HTK := Lib.hid hT
        have HC := Lib.hid hcall
        clear hT hcall hx hy hz
        go_wp2
        go_quiet ((go_at_call 50; exact Calls.quiet_of_same (HC.out _)))
        go_wp2_with (at_builtin; refine append_one w.heap.size rfl (.tmp 27) (.tmp 29) 37 5 (.int .u8 0) 1 rfl Try.underlying37 info5 rfl (by decide) _ _ (.int .u8 (z.toNat : Int)) rfl rfl rfl (hO.drewN _) (below_drewN hB _) hB.size HL.out ?_; intro v1 w1 hO1 hB1 _ _)
        go_roundw
        case rel =>
          refine ⟨i + 1, by omega, by omega, by go_num, ?_, hB1⟩
          rw [HTK.out, bv_append]
          exact hO1
        case measure => simp [intOf]; omega
      · have hcv := reads_string (P := Try.prog) (src := 37) (dst := 9) Try.underlying37 Try.underlying5 Try.underlying9 hO.reads
        go_wp2
        go_ret
        refine ⟨?_, hB⟩
        rw [← xorL_all a b i (.inr (by have := HLB.out; omega)) (by have := HLA.out; omega) (by have := HLB.out; omega)]
        rfl
    · have hcv := reads_string (P := Try.prog) (src := 37) (dst := 9) Try.underlying37 Try.underlying5 Try.underlying9 hO.reads
      go_wp2
      go_ret
      refine ⟨?_, hB⟩
      rw [← xorL_all a b i (.inl (by have := HLA.out; omega)) (by have := HLA.out; omega) (by have := HLB.out; omega)]
      rfl
end Go.Proofs.Ytgphfhpobppmeaa
