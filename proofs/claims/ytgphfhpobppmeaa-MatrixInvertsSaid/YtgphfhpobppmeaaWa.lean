/-
  The walks of ref02.Add, ref02.Pow, ref02.Inv, gf.Inv, cofferdamlaw02.wakes.
-/
import Derived.Test.YtgphfhpobppmeaaWx
namespace Go.Proofs.Ytgphfhpobppmeaa
open Go.RowKit GfM

theorem lit_string (a : UInt8) (W : World) : (convert 37 9 (.slice (some ⟨W.heap.size, 0, none⟩) 1 1)).run Try.prog (W.alloc (.cells #[.int .u8 (a.toNat : Int)] 5)) = .ok (.string (bs [a])) (W.alloc (.cells #[.int .u8 (a.toNat : Int)] 5)) :=
  reads_string (P := Try.prog) (src := 37) (dst := 9) Try.underlying37 Try.underlying5 Try.underlying9 (Own.lit_ W W.heap.size 5 #[.int .u8 (a.toNat : Int)] (Nat.le_refl _) (by simp [maxLen])).reads
theorem byte_of_one (a : UInt8) : ∀ h : 0 < (bs [a]).size, (((bs [a])[0]'h).toNat : Int) = (a.toNat : Int) := by intro h; rfl
set_option maxHeartbeats 400000 in
theorem radd_any (x y : Int) (a b : UInt8) (hx : x = (a.toNat : Int)) (hy : y = (b.toNat : Int)) (w : World) :
    Calls Try.prog 41 #[.int .u8 x, .int .u8 y] w fun e w' => e = .returned (.int .u8 ((a ^^^ b).toNat : Int)) ∧ Below w.heap.size w w' := by
  subst hx hy
  have h1 := lit_string a w
  have h2 := lit_string b (w.alloc (.cells #[.int .u8 (a.toNat : Int)] 5))
  simp only [World.size_alloc] at h2
  have hx := byte_of_one (a ^^^ b)
  have hz : (bs [a ^^^ b]).size = 1 := rfl
  have hcall : ∀ W : World, Calls Try.prog 48 #[.string (bs [a]), .string (bs [b])] W fun e w' => e = .returned (.string (bs [a ^^^ b])) ∧ Below W.heap.size W w' :=
    fun W => rxor_ba (bs [a]) (bs [b]) [a] [b] rfl rfl W (by rw [bs_size]; simp)
  generalize bs [a ^^^ b] = t at *
  generalize bs [a] = sa at *
  generalize bs [b] = sb at *
  generalize a ^^^ b = c at *
  have hlt : 0 < t.size := by omega
  have HC := Lib.hid hcall
  clear hcall hz
  go_enter Try.func41, Try.ntmps41
  go_wp2_with (go_at_call 48; refine (HC.out _).mono ?_; rintro e w1 ⟨rfl, hb1⟩)
  go_ret
  refine ⟨?_, ?_⟩
  · rfl
  · exact (((Below.refl _ _).alloc (Nat.le_refl _) _).alloc (by simp) _).trans (hb1.mono (by simp; omega))
set_option maxHeartbeats 400000 in
theorem inv_any (x : Int) (a : UInt8) (hx : x = (a.toNat : Int)) (w : World) :
    Calls Try.prog 29 #[.int .u8 x] w fun e w' => e = .returned (.tuple #[.int .u8 ((inv a).toNat : Int), .int .i64 (if a = 0 then 6 else 0)]) ∧ w = w' := by
  subst hx
  by_cases ha : a = 0
  · subst ha
    rw [if_pos rfl, inv_zero]
    go_enter Try.func29, Try.ntmps29
    go_wp2
    go_ret2
    exact ⟨rfl, rfl⟩
  · rw [if_neg ha]
    have ha' := ne_zero_beq ha
    have e : pwI a 254 = inv a := by
      rw [inv_pw a ha]; unfold pwI; rw [if_neg (by decide), if_neg ha]; rfl
    rw [← e]
    have HE := Lib.hid ha; clear ha e
    go_enter Try.func29, Try.ntmps29
    go_wp2_with (go_at_call 38; refine (pow_any _ _ a rfl _).mono ?_; rintro e w' ⟨rfl, rfl⟩)
    go_ret2
    exact ⟨rfl, rfl⟩
set_option maxHeartbeats 400000 in
theorem rpow_any (x n : Int) (a : UInt8) (hx : x = (a.toNat : Int)) (w : World) :
    Calls Try.prog 45 #[.int .u8 x, .int .i64 n] w fun e w' => e = .returned (.int .u8 ((pwI a n).toNat : Int)) ∧ Below w.heap.size w w' := by
  subst hx
  by_cases hn : n = 0
  · subst hn
    go_enter Try.func45, Try.ntmps45
    go_wp2
    go_ret
    exact ⟨rfl, Below.refl _ _⟩
  have hn' : (n == 0) = false := by simpa using hn
  by_cases ha : a = 0
  · subst ha
    have e : pwI 0 n = 0 := by unfold pwI; rw [if_neg hn, if_pos rfl]
    rw [e]
    have HN := Lib.hid hn; clear hn e
    go_enter Try.func45, Try.ntmps45
    go_wp2
    go_ret
    exact ⟨rfl, Below.refl _ _⟩
  have ha' := ne_zero_beq ha
  have e : pwI a n = pw a (n % 255).toNat := by unfold pwI; rw [if_neg hn, if_neg ha]
  rw [e]
  obtain ⟨k, hk⟩ : ∃ k : Nat, n % 255 = k := ⟨(n % 255).toNat, by omega⟩
  have hkl : k < 255 := by omega
  have ht : (n.tmod 255 = k) ∨ (n.tmod 255 = k - 255) := by
    rw [Int.tmod_eq_emod]; rw [hk]; split
    · left; omega
    · right; omega
  rw [hk]
  simp only [Int.toNat_natCast]
  have HN := Lib.hid hn; clear hn e hk
  have HA := Lib.hid ha; clear ha
  rcases ht with ht | ht
  · have hneg : ¬ n.tmod 255 < 0 := by omega
    go_enter Try.func45, Try.ntmps45
    go_wp2
    go_loopw [6, 7] (fun s6 s7 wr => ∃ i : Nat, i ≤ k ∧ s6 = .int .u8 ((pw a i).toNat : Int) ∧ s7 = .int .i64 i ∧ Below w.heap.size w wr) (fun _ s7 _ => k - (intOf s7).toNat)
    case atStart => exact ⟨0, by omega, rfl, rfl, Below.refl _ _⟩
    case round =>
      obtain ⟨i, hi, rfl, rfl, hB⟩ := hrel
      by_cases hlt : i < k
      · go_wp2_with (go_at_call 35; refine (rmul_any _ _ _ _ rfl rfl _).mono ?_; rintro e w1 ⟨rfl, hb1⟩)
        go_roundw
        case rel => exact ⟨i + 1, by omega, rfl, by go_num, below_then hB hB.size hb1⟩
        case measure => simp [intOf]; omega
      · obtain rfl : i = k := by omega
        go_wp2
        go_ret
        exact ⟨rfl, hB⟩
  · obtain ⟨m, hm⟩ : ∃ m : Int, (k : Int) - 255 = m := ⟨_, rfl⟩
    rw [hm] at ht
    have hm2 : m + 255 = k := by omega
    have hm0 : m < 0 := by omega
    clear hm
    go_enter Try.func45, Try.ntmps45
    go_wp2
    clear hm2 ht
    go_loopw [6, 7] (fun s6 s7 wr => ∃ i : Nat, i ≤ k ∧ s6 = .int .u8 ((pw a i).toNat : Int) ∧ s7 = .int .i64 i ∧ Below w.heap.size w wr) (fun _ s7 _ => k - (intOf s7).toNat)
    case atStart => exact ⟨0, by omega, rfl, rfl, Below.refl _ _⟩
    case round =>
      obtain ⟨i, hi, rfl, rfl, hB⟩ := hrel
      by_cases hlt : i < k
      · go_wp2_with (go_at_call 35; refine (rmul_any _ _ _ _ rfl rfl _).mono ?_; rintro e w1 ⟨rfl, hb1⟩)
        go_roundw
        case rel => exact ⟨i + 1, by omega, rfl, by go_num, below_then hB hB.size hb1⟩
        case measure => simp [intOf]; omega
      · obtain rfl : i = k := by omega
        go_wp2
        go_ret
        exact ⟨rfl, hB⟩

theorem byte_of (c : Nat) (h : c < 256) : (UInt8.ofNat c).toNat = c := by rw [UInt8.toNat_ofNat']; exact Nat.mod_eq_of_lt h
set_option maxRecDepth 100000 in
set_option maxHeartbeats 400000 in
theorem rinv_any (x : Int) (a : UInt8) (hx : x = (a.toNat : Int)) (w : World) :
    Calls Try.prog 33 #[.int .u8 x] w fun e w' => e = .returned (.int .u8 ((inv a).toNat : Int)) ∧ Below w.heap.size w w' := by
  subst hx
  go_enter Try.func33, Try.ntmps33
  go_wp2
  go_loopw [3, 4] (fun s3 _ wr => ∃ b : Nat, 1 ≤ b ∧ b ≤ 256 ∧ (∀ c, c < b → ¬ mul a (UInt8.ofNat c) = 1) ∧ s3 = .int .i64 b ∧ Below w.heap.size w wr) (fun s3 _ _ => 256 - (intOf s3).toNat)
  case atStart => exact ⟨1, by omega, by omega, fun c hc => by obtain rfl : c = 0 := by omega
                                                               show ¬ mul a 0 = 1
                                                               rw [mul_zero]; decide, rfl, Below.refl _ _⟩
  case round =>
    obtain ⟨b, h1, h2, hno, rfl, hB⟩ := hrel
    have HNO := Lib.hid hno; clear hno
    by_cases hlt : b < 256
    · obtain ⟨u, hu⟩ : ∃ u : UInt8, u = UInt8.ofNat b := ⟨_, rfl⟩
      have hub : (b : Int) = (u.toNat : Int) := by rw [hu, byte_of b hlt]
      have HUB := Lib.hid hub; clear hub
      have HU := Lib.hid hu; clear hu
      by_cases hm : mul a u = 1
      · have e1 : (((mul a u).toNat : Int) == 1) = true := by rw [hm]; rfl
        have HM := Lib.hid hm; clear hm
        go_wp2_with (go_at_call 35; refine (rmul_any _ _ a u rfl HUB.out _).mono ?_; rintro e w1 ⟨rfl, hb1⟩)
        go_ret
        refine ⟨?_, below_then hB hB.size hb1⟩
        rw [← inv_unique HM.out, ← HUB.out]
        rfl
      · have e1 : (((mul a u).toNat : Int) == 1) = false := by
          rw [beq_eq_false_iff_ne]
          intro h
          apply hm
          apply UInt8.toNat_inj.1
          have h2 : (mul a u).toNat = 1 := by omega
          rw [h2]; rfl
        have HM := Lib.hid hm; clear hm
        go_wp2_with (go_at_call 35; refine (rmul_any _ _ a u rfl HUB.out _).mono ?_; rintro e w1 ⟨rfl, hb1⟩)
        go_roundw
        case rel =>
          refine ⟨b + 1, by omega, by omega, fun c hc => ?_, by go_num, below_then hB hB.size hb1⟩
          by_cases hcb : c < b
          · exact HNO.out c hcb
          · obtain rfl : c = b := by omega
            rw [← HU.out]; exact HM.out
        case measure => simp [intOf]; omega
    · have ha : a = 0 := by
        apply Classical.byContradiction
        intro ha
        have := HNO.out (inv a).toNat (by have := (inv a).toNat_lt; omega)
        apply this
        rw [UInt8.ofNat_toNat]
        exact mul_inv ha
      subst ha
      go_wp2
      go_ret
      exact ⟨rfl, hB⟩
end Go.Proofs.Ytgphfhpobppmeaa
