/-
  The walks of the laws GfTables, GfExponents, GfGenerates.
-/
import Derived.Test.YtfdmakihobhhnaaWt
namespace Go.Proofs.Ytfdmakihobhhnaa
open Go.RowKit GfM

theorem i64_of_wf {n : Int} (h : (Lit.int .i64 n).wf = true) : -9223372036854775808 ≤ n ∧ n ≤ 9223372036854775807 := by
  simp [Lit.wf, IntKind.min, IntKind.max, IntKind.signed, IntKind.bits] at h
  omega

set_option maxRecDepth 100000 in
set_option maxHeartbeats 2000000 in
theorem gfTables_walk (a b : UInt8) (n : Int) (_ : (Lit.int .i64 n).wf = true) (w : World) :
    Calls Try.prog 10 #[.int .u8 (a.toNat : Int), .int .u8 (b.toNat : Int), .int .i64 n] w fun e w' => e = .returned (.bool true) ∧ Below w.heap.size w w' := by
  have hlog := fun W g (hT : IsTable W g) => log_any hT _ a rfl
  have hrlog := fun W => rlog_any _ a rfl W
  have hdiv := fun W g (hT : IsTable W g) => tdiv_any hT _ _ a b rfl rfl
  have hmul := fun W g (hT : IsTable W g) => tmul_any hT _ _ a b rfl rfl
  have hrmul := fun W => rmul_any _ _ a b rfl rfl W
  have hrinv := fun W => rinv_any _ b rfl W
  have hrmi := fun W => rmul_any _ _ a (inv b) rfl rfl W
  have hexp := fun W g (hT : IsTable W g) => exp_any hT n
  have hrpow := fun W => rpow_any 2 n 2 rfl W
  simp only [exI_pw] at hexp
  have hz0 : b = 0 → mul a (inv b) = 0 ∧ zE b = 6 := by rintro rfl; exact ⟨by rw [inv_zero, mul_zero], rfl⟩
  have hz1 : b ≠ 0 → zE b = 0 := zE_ne
  generalize loI a = l at *
  generalize zE a = z at *
  generalize mul a (inv b) = q at *
  generalize mul a b = r at *
  generalize pwI 2 n = x at *
  generalize inv b = ib at *
  have H1 := Lib.hid hlog; clear hlog
  have H2 := Lib.hid hrlog; clear hrlog
  have H4 := Lib.hid hmul; clear hmul
  have H5 := Lib.hid hrmul; clear hrmul
  have H6 := Lib.hid hrinv; clear hrinv
  have H7 := Lib.hid hrmi; clear hrmi
  have H8 := Lib.hid hexp; clear hexp
  have H9 := Lib.hid hrpow; clear hrpow
  by_cases hb : b = 0
  · have eb : (((b.toNat : Nat) : Int) == 0) = true := by rw [hb]; rfl
    obtain ⟨hq, hzb⟩ := hz0 hb
    rw [hq, hzb] at hdiv
    have H3 := Lib.hid hdiv
    clear hdiv hz0 hz1 hq hzb hb H7
    go_enter Try.func10, Try.ntmps10
    go_wp2_with fail
    refine (tables_any _).mono ?_
    rintro e w1 ⟨g, rfl, _, hT1, hB1⟩
    go_wp2_with fail
    refine (H1.out _ _ hT1).mono ?_
    rintro e w' ⟨rfl, rfl⟩
    go_wp2_with fail
    refine (H2.out _).mono ?_
    rintro e w2 ⟨rfl, hb2⟩
    have hB2 := below_then hB1 hB1.size hb2
    have hT2 := hT1.below hb2
    clear hT1 hB1 hb2
    go_wp2_with fail
    refine (H3.out _ _ hT2).mono ?_
    rintro e w3 ⟨rfl, hb3⟩
    have hB3 := below_then hB2 hB2.size hb3
    have hT3 := hT2.below hb3
    clear hT2 hB2 hb3
    go_wp2_with fail
    refine (H8.out _ _ hT3).mono ?_
    rintro e w' ⟨rfl, rfl⟩
    go_wp2_with fail
    refine (H9.out _).mono ?_
    rintro e w4 ⟨rfl, hb4⟩
    have hB4 := below_then hB3 hB3.size hb4
    have hT4 := hT3.below hb4
    clear hT3 hB3 hb4
    go_wp2_with fail
    refine (H4.out _ _ hT4).mono ?_
    rintro e w5 ⟨rfl, hb5⟩
    have hB5 := below_then hB4 hB4.size hb5
    clear hT4 hB4 hb5
    go_wp2_with fail
    refine (H5.out _).mono ?_
    rintro e w6 ⟨rfl, hb6⟩
    have hB6 := below_then hB5 hB5.size hb6
    clear hB5 hb6
    go_wp2
    go_ret
    exact ⟨rfl, hB6⟩
  · have eb := ne_zero_beq hb
    rw [hz1 hb] at hdiv
    have H3 := Lib.hid hdiv
    clear hdiv hz0 hz1 hb
    go_enter Try.func10, Try.ntmps10
    go_wp2_with fail
    refine (tables_any _).mono ?_
    rintro e w1 ⟨g, rfl, _, hT1, hB1⟩
    go_wp2_with fail
    refine (H1.out _ _ hT1).mono ?_
    rintro e w' ⟨rfl, rfl⟩
    go_wp2_with fail
    refine (H2.out _).mono ?_
    rintro e w2 ⟨rfl, hb2⟩
    have hB2 := below_then hB1 hB1.size hb2
    have hT2 := hT1.below hb2
    clear hT1 hB1 hb2
    go_wp2_with fail
    refine (H3.out _ _ hT2).mono ?_
    rintro e w3 ⟨rfl, hb3⟩
    have hB3 := below_then hB2 hB2.size hb3
    have hT3 := hT2.below hb3
    clear hT2 hB2 hb3
    go_wp2_with fail
    refine (H8.out _ _ hT3).mono ?_
    rintro e w' ⟨rfl, rfl⟩
    go_wp2_with fail
    refine (H9.out _).mono ?_
    rintro e w4 ⟨rfl, hb4⟩
    have hB4 := below_then hB3 hB3.size hb4
    have hT4 := hT3.below hb4
    clear hT3 hB3 hb4
    go_wp2_with fail
    refine (H4.out _ _ hT4).mono ?_
    rintro e w5 ⟨rfl, hb5⟩
    have hB5 := below_then hB4 hB4.size hb5
    clear hT4 hB4 hb5
    go_wp2_with fail
    refine (H5.out _).mono ?_
    rintro e w6 ⟨rfl, hb6⟩
    have hB6 := below_then hB5 hB5.size hb6
    clear hB5 hb6
    go_wp2_with fail
    refine (H6.out _).mono ?_
    rintro e w7 ⟨rfl, hb7⟩
    have hB7 := below_then hB6 hB6.size hb7
    clear hB6 hb7
    go_wp2_with fail
    refine (H7.out _).mono ?_
    rintro e w8 ⟨rfl, hb8⟩
    have hB8 := below_then hB7 hB7.size hb8
    go_wp2
    go_ret
    exact ⟨rfl, hB8⟩

/-! ### GfExponents -/
theorem and_low (n : Int) (j : Nat) (hj : j < 62) : bits .and .i64 n (((2 ^ j - 1 : Nat)) : Int) = (((BitVec.ofInt 64 n).toNat % 2 ^ j : Nat) : Int) := by
  have hp : 2 ^ j ≤ 2 ^ 61 := Nat.pow_le_pow_right (by decide) (by omega)
  have h1 : 0 < 2 ^ j := Nat.two_pow_pos j
  have e : (BitVec.ofInt IntKind.i64.bits (((2 ^ j - 1 : Nat)) : Int)).toNat = 2 ^ j - 1 := by
    rw [BitVec.ofInt_natCast, BitVec.toNat_ofNat]
    exact Nat.mod_eq_of_lt (by show _ < 2 ^ 64; omega)
  simp only [bits, BitVec.toNat_and, e, Nat.and_two_pow_sub_one_eq_mod]
  have hm : (BitVec.ofInt IntKind.i64.bits n).toNat % 2 ^ j < 2 ^ j := Nat.mod_lt _ h1
  exact wraps_i64 _ (Int.natCast_nonneg _) (by
    have : ((BitVec.ofInt IntKind.i64.bits n).toNat % 2 ^ j : Nat) < 2 ^ 62 := by omega
    exact_mod_cast this)
theorem and_1023 (n : Int) : ∃ m : Nat, m < 1024 ∧ bits .and .i64 n 1023 = (m : Int) :=
  ⟨_, Nat.mod_lt _ (by decide), and_low n 10 (by decide)⟩
theorem and_mask (n : Int) : ∃ m : Nat, m < 1048576 ∧ bits .and .i64 n 1048575 = (m : Int) :=
  ⟨_, Nat.mod_lt _ (by decide), and_low n 20 (by decide)⟩
theorem pwI_add (a : UInt8) (h : a ≠ 0) (m n : Int) : mul (pwI a m) (pwI a n) = pwI a (m + n) := by
  have key : ∀ k : Int, pwI a k = pw a (k % 255).toNat := by
    intro k
    unfold pwI
    by_cases hk : k = 0
    · subst hk; rw [if_pos rfl]; rfl
    · rw [if_neg hk, if_neg h]
  rw [key, key, key, ← pw_add, ← pw_mod h]
  congr 1
  omega
theorem exI_mul (a : UInt8) (h : a ≠ 0) (n : Int) : exI ((lo a : Int) * n) = pwI a n := by
  have key : ∀ k : Int, pwI a k = pw a (k % 255).toNat := by
    intro k
    unfold pwI
    by_cases hk : k = 0
    · subst hk; rw [if_pos rfl]; rfl
    · rw [if_neg hk, if_neg h]
  rw [key]
  conv => rhs; rw [← ex_lo h]
  rw [pw_ex]
  unfold exI
  rw [← ex_mod (lo a * _)]
  congr 1
  have e : (((lo a : Int) * n) % 255) = (((lo a * (n % 255).toNat : Nat) : Int) % 255) := by
    rw [Int.natCast_mul, Int.toNat_of_nonneg (Int.emod_nonneg _ (by decide)), Int.mul_emod, Int.mul_emod (lo a : Int) (n % 255), Int.emod_emod_of_dvd _ (by decide)]
  rw [e]
  omega
set_option maxRecDepth 100000 in
set_option maxHeartbeats 2000000 in
theorem gfExponents_walk (a : UInt8) (m : Int) (_ : (Lit.int .i64 m).wf = true) (n : Int) (_ : (Lit.int .i64 n).wf = true) (w : World) :
    Calls Try.prog 9 #[.int .u8 (a.toNat : Int), .int .i64 m, .int .i64 n] w fun e w' => e = .returned (.bool true) ∧ Below w.heap.size w w' := by
  obtain ⟨m', hm, em⟩ := and_1023 m
  obtain ⟨n', hn, en⟩ := and_1023 n
  by_cases ha : a = 0
  · subst ha
    go_enter Try.func9, Try.ntmps9
    go_wp2_with fail
    refine (tables_any _).mono ?_
    rintro e w1 ⟨g, rfl, _, hT1, hB1⟩
    go_wp2
    go_ret
    exact ⟨rfl, hB1⟩
  · have ea := ne_zero_beq ha
    have hll := lo_lt ha
    have hlog := fun W g (hT : IsTable W g) => log_any hT _ a rfl
    rw [loI_ne ha, zE_ne ha] at hlog
    obtain ⟨M, hM⟩ : ∃ M : Int, (m' : Int) - 512 = M := ⟨_, rfl⟩
    obtain ⟨N, hN⟩ : ∃ N : Int, (n' : Int) - 512 = N := ⟨_, rfl⟩
    have hM0 : -512 ≤ M := by omega
    have hM1 : M ≤ 511 := by omega
    have hN0 : -512 ≤ N := by omega
    have hN1 : N ≤ 511 := by omega
    have hp1 := fun W => pow_any _ M a rfl W
    have hp2 := fun W => pow_any _ N a rfl W
    have hp3 := fun W => pow_any _ (M + N) a rfl W
    have hmul := fun W => mul_any _ _ (pwI a M) (pwI a N) rfl rfl W
    rw [pwI_add a ha] at hmul
    have hexp := fun W g (hT : IsTable W g) => exp_any hT ((lo a : Int) * (M + N))
    rw [exI_mul a ha] at hexp
    have hprod : wrap64 ((lo a : Int) * (M + N)) = (lo a : Int) * (M + N) := by
      have h1 : -261120 ≤ (lo a : Int) * (M + N) ∧ (lo a : Int) * (M + N) ≤ 261120 := by
        constructor
        · have : (lo a : Int) * (M + N) ≥ (lo a : Int) * (-1024) := Int.mul_le_mul_of_nonneg_left (by omega) (by omega)
          omega
        · have : (lo a : Int) * (M + N) ≤ (lo a : Int) * 1024 := Int.mul_le_mul_of_nonneg_left (by omega) (by omega)
          omega
      unfold wrap64; omega
    generalize pwI a (M + N) = r at *
    generalize pwI a M = p at *
    generalize pwI a N = q at *
    have H1 := Lib.hid hlog; clear hlog
    have H2 := Lib.hid hp1; clear hp1
    have H3 := Lib.hid hp2; clear hp2
    have H4 := Lib.hid hp3; clear hp3
    have H5 := Lib.hid hmul; clear hmul
    have H6 := Lib.hid hexp; clear hexp
    generalize lo a = l at *
    clear ha hm hn
    go_enter Try.func9, Try.ntmps9
    go_wp2_with fail
    refine (tables_any _).mono ?_
    rintro e w1 ⟨g, rfl, _, hT1, hB1⟩
    go_wp2_with fail
    refine (H1.out _ _ hT1).mono ?_
    rintro e w' ⟨rfl, rfl⟩
    go_wp2_with fail
    clear hM hN em en
    refine (H2.out _).mono ?_
    rintro e w' ⟨rfl, rfl⟩
    go_wp2_with fail
    refine (H3.out _).mono ?_
    rintro e w' ⟨rfl, rfl⟩
    go_wp2_with fail
    refine (H5.out _).mono ?_
    rintro e w' ⟨rfl, rfl⟩
    go_wp2_with fail
    refine (H4.out _).mono ?_
    rintro e w' ⟨rfl, rfl⟩
    go_wp2_with fail
    refine (H6.out _ _ hT1).mono ?_
    rintro e w' ⟨rfl, rfl⟩
    go_wp2_with fail
    refine (H4.out _).mono ?_
    rintro e w' ⟨rfl, rfl⟩
    go_wp2
    go_ret
    exact ⟨rfl, hB1⟩

/-! ### GfGenerates -/
/-- which elements were met. -/
def metF (n i j : Nat) : Value := .bool (decide (∃ k, k < i ∧ (ex (n + k)).toNat = j))
def metZero : Array Value := (List.replicate 256 (Value.bool false)).toArray
set_option maxRecDepth 100000 in
theorem metZero_at (n j : Nat) (h : j < 256) : metZero[j]? = some (metF n 0 j) := by
  unfold metZero metF
  rw [List.getElem?_toArray, List.getElem?_replicate, if_pos h]
  simp
theorem zero_met : ∀ W, (zeroValue 38).run Try.prog W = .ok (.agg metZero) W := fun W => by kernel_rfl
theorem metF_no (n i : Nat) (hi : i < 255) : metF n i (ex (n + i)).toNat = .bool false := by
  unfold metF
  congr 1
  rw [decide_eq_false_iff_not]
  rintro ⟨k, hk, he⟩
  have h := UInt8.toNat_inj.1 he
  rw [← ex_mod (n + k), ← ex_mod (n + i)] at h
  have h2 := congrArg lo h
  rw [lo_ex (Nat.mod_lt _ (by decide)), lo_ex (Nat.mod_lt _ (by decide))] at h2
  omega
theorem metF_step (n i j : Nat) : (if j = (ex (n + i)).toNat then Value.bool true else metF n i j) = metF n (i + 1) j := by
  unfold metF
  by_cases h : j = (ex (n + i)).toNat
  · rw [if_pos h, decide_eq_true (show ∃ k, k < i + 1 ∧ (ex (n + k)).toNat = j from ⟨i, by omega, h.symm⟩)]
  · rw [if_neg h]
    congr 1
    rw [decide_eq_decide]
    constructor
    · rintro ⟨k, hk, he⟩; exact ⟨k, by omega, he⟩
    · rintro ⟨k, hk, he⟩
      refine ⟨k, ?_, he⟩
      rcases Nat.lt_or_ge k i with h2 | h2
      · exact h2
      · obtain rfl : k = i := by omega
        exact absurd he.symm h
theorem exI_nat (k : Nat) : exI (k : Int) = ex k := by
  unfold exI
  rw [← ex_mod k]
  congr 1
set_option maxRecDepth 100000 in
set_option maxHeartbeats 2000000 in
theorem gfGenerates_walk (n : Int) (_ : (Lit.int .i64 n).wf = true) (w : World) :
    Calls Try.prog 8 #[.int .i64 n] w fun e w' => e = .returned (.bool true) ∧ Below w.heap.size w w' := by
  obtain ⟨m, hm, em⟩ := and_mask n
  have hz := zero_met
  go_enter Try.func8, Try.ntmps8
  go_wp2_with fail
  refine (tables_any _).mono ?_
  rintro e w1 ⟨g, rfl, hg, hT1, hB1⟩
  go_wp2_with fail
  clear em hz
  have hgl := World.rowIs.lt hT1
  have hR0 : (w1.alloc (.cells metZero 38)).rowIs w1.heap.size 38 256 (metF m 0) := by
    have hs : metZero.size = 256 := by unfold metZero; simp
    have := World.rowIs_alloc w1 metZero 38 (metF m 0) (fun j hj => metZero_at m j (by omega))
    rwa [hs] at this
  have hT0 : IsTable (w1.alloc (.cells metZero 38)) g := World.rowIs.alloc hT1 _
  have hb0 : Below w.heap.size w (w1.alloc (.cells metZero 38)) := hB1.alloc hB1.size _
  have hGw : w.heap.size ≤ w1.heap.size := hB1.size
  generalize w1.alloc (.cells metZero 38) = wz at *
  generalize w1.heap.size = G at *
  clear hT1 hB1
  go_loopw [6, 7, 8, 9, 18] (fun _ _ _ _ s18 wr => ∃ i : Nat, i ≤ 255 ∧ s18 = .int .i64 i ∧ wr.rowIs G 38 256 (metF m i) ∧ IsTable wr g ∧ Below w.heap.size w wr) (fun _ _ _ _ s18 _ => 255 - (intOf s18).toNat)
  case atStart => exact ⟨0, by omega, rfl, hR0, hT0, hb0⟩
  case round =>
    clear hR0 hT0 hb0
    obtain ⟨i, hi, rfl, hR, hT, hB⟩ := hrel
    by_cases hlt : i < 255
    · have hxl := (ex (m + i)).toNat_lt
      have hc := hR.cell (i := (ex (m + i)).toNat) (by omega)
      rw [metF_no m i hlt] at hc
      have hfr := hR.frozen (ex (m + i)).toNat
      have hexp := exp_any hT ((m : Int) + (i : Int))
      rw [show ((m : Int) + (i : Int)) = ((m + i : Nat) : Int) by omega, exI_nat, show ((m + i : Nat) : Int) = ((m : Int) + (i : Int)) by omega] at hexp
      have hlog := log_any hT _ (ex (m + i)) rfl
      have hl : loI (ex (m + i)) = ((m : Int) + (i : Int)) % 255 := by
        rw [loI_ne (ex_ne _), ← ex_mod, lo_ex (Nat.mod_lt _ (by decide))]
        omega
      rw [hl, zE_ne (ex_ne _)] at hlog
      have hne := ne_zero_beq (ex_ne (m + i))
      have hR2 := (hR.set (ex (m + i)).toNat (.bool true)).congr (fun j _ => metF_step m i j)
      generalize ex (m + i) = x at *
      have H1 := Lib.hid hexp; clear hexp
      have H2 := Lib.hid hlog; clear hlog hl
      have H3 := Lib.hid hR2; clear hR2
      have hmi : 0 ≤ (m : Int) + (i : Int) := by omega
      go_wp2_with fail
      refine (H1.out).mono ?_
      rintro e w' ⟨rfl, rfl⟩
      go_wp2_with fail
      refine (H2.out).mono ?_
      rintro e w' ⟨rfl, rfl⟩
      go_wp2
      go_roundw
      case rel => exact ⟨i + 1, by omega, by go_num, H3.out, World.rowIs.setOther hT (by simp; omega) _, hB.setCell (by simp; omega) _⟩
      case measure => simp [intOf]; omega
    · obtain rfl : i = 255 := by omega
      go_wp2
      go_ret
      exact ⟨rfl, hB⟩
end Go.Proofs.Ytfdmakihobhhnaa
