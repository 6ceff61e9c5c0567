/-
  The walk of the document's product (ref02.Mul).
-/
import Derived.Test.YtgphfhpobppmeaaWg
import Derived.Test.YtgphfhpobppmeaaRm
import Derived.Test.YtgphfhpobppmeaaWm
import Derived.Laws.Rows
namespace Go.Proofs.Ytgphfhpobppmeaa
open Go.RowKit GfM

/-- bit j of a number, as Go holds it. -/
def bitI (P j : Nat) : Int := ((P / 2 ^ j % 2 : Nat) : Int)
/-- sixteen bits, as an array of ints. -/
def bits16 (P : Nat) : Array Value := ((List.range 16).map fun j => Value.int .i64 (bitI P j)).toArray
theorem bits16_at (P j : Nat) (h : j < 16) : (bits16 P)[j]? = some (.int .i64 (bitI P j)) := by
  simp [bits16, h]
theorem bits16_zero : bits16 0 = #[Value.int IntKind.i64 0, Value.int IntKind.i64 0, Value.int IntKind.i64 0, Value.int IntKind.i64 0, Value.int IntKind.i64 0, Value.int IntKind.i64 0, Value.int IntKind.i64 0, Value.int IntKind.i64 0, Value.int IntKind.i64 0, Value.int IntKind.i64 0, Value.int IntKind.i64 0, Value.int IntKind.i64 0, Value.int IntKind.i64 0, Value.int IntKind.i64 0, Value.int IntKind.i64 0, Value.int IntKind.i64 0] := by
  rfl
/-- the remainder's coefficients. -/
def modC : Array Value := #[Value.int IntKind.i64 1, Value.int IntKind.i64 0, Value.int IntKind.i64 1, Value.int IntKind.i64 1, Value.int IntKind.i64 1, Value.int IntKind.i64 0, Value.int IntKind.i64 0, Value.int IntKind.i64 0, Value.int IntKind.i64 1]
theorem modC_at : ∀ k, k < 9 → modC[k]? = some (.int .i64 ((285 / 2 ^ k % 2 : Nat) : Int)) := by
  intro k hk
  match k, hk with
  | 0, _ | 1, _ | 2, _ | 3, _ | 4, _ | 5, _ | 6, _ | 7, _ | 8, _ => rfl
theorem bitI_range (P j : Nat) : 0 ≤ bitI P j ∧ bitI P j ≤ 1 := by unfold bitI; omega
theorem bitI_testBit (P j : Nat) : bitI P j = (P.testBit j).toNat := by
  unfold bitI
  rw [Nat.testBit_eq_decide_div_mod_eq]
  by_cases h : P / 2 ^ j % 2 = 1
  · rw [h]; rfl
  · have : P / 2 ^ j % 2 = 0 := by omega
    simp [this]
/-- a store of (c[m] + e) % 2. -/
theorem bits16_set (P m e : Nat) (hm : m < 16) (he : e ≤ 1) : (bits16 P).setIfInBounds m (.int .i64 ((bitI P m + (e : Int)) % 2)) = bits16 (P ^^^ (e * 2 ^ m)) := by
  apply Array.ext_getElem?
  intro j
  rw [Array.getElem?_setIfInBounds]
  by_cases hj : j < 16
  · rw [bits16_at _ _ hj, bits16_at _ _ hj]
    have hs : (bits16 P).size = 16 := by simp [bits16]
    by_cases hmj : m = j
    · subst hmj
      rw [if_pos rfl, if_pos (by omega)]
      congr 2
      rw [bitI_testBit, bitI_testBit, Nat.testBit_xor]
      rcases Nat.le_one_iff_eq_zero_or_eq_one.1 he with rfl | rfl
      · simp; cases P.testBit m <;> rfl
      · simp; cases P.testBit m <;> rfl
    · rw [if_neg hmj]
      congr 2
      rw [bitI_testBit, bitI_testBit, Nat.testBit_xor]
      rcases Nat.le_one_iff_eq_zero_or_eq_one.1 he with rfl | rfl
      · simp
      · simp [hmj]
  · have hs : ∀ P, (bits16 P).size = 16 := by intro P; simp [bits16]
    rw [if_neg (by omega), Array.getElem?_eq_none (by rw [hs]; omega), Array.getElem?_eq_none (by rw [hs]; omega)]

theorem store_val (V : Int) (X Y : Nat) (h0 : 0 ≤ V) (h1 : V ≤ 1) : (wrap64 (V + wrap64 ((X : Int) % 2 * ((Y : Int) % 2)))).tmod 2 = (V + ((X % 2 * (Y % 2) : Nat) : Int)) % 2 := by
  have e : ((X % 2 * (Y % 2) : Nat) : Int) = (X : Int) % 2 * ((Y : Int) % 2) := by simp
  rw [e]
  have hx : (X : Int) % 2 = 0 ∨ (X : Int) % 2 = 1 := by omega
  have hy : (Y : Int) % 2 = 0 ∨ (Y : Int) % 2 = 1 := by omega
  have hv : V = 0 ∨ V = 1 := by omega
  rcases hx with hx | hx <;> rcases hy with hy | hy <;> rcases hv with hv | hv <;> rw [hx, hy, hv] <;> decide +kernel
theorem part_step : ∀ i, i < 8 → ∀ k, k < 8 → ∀ b, b < 256 → (b % 2 ^ k) * 2 ^ i ^^^ (b / 2 ^ k % 2) * 2 ^ (i + k) = (b % 2 ^ (k + 1)) * 2 ^ i := by decide +kernel
/-- what the inner loop has joined to P. -/
def partP (P X b i k : Nat) : Nat := P ^^^ (X % 2) * ((b % 2 ^ k) * 2 ^ i)
theorem partP_zero (P X b i : Nat) : partP P X b i 0 = P := by simp [partP, Nat.mod_one]
theorem partP_step (P X b i k : Nat) (hi : i < 8) (hk : k < 8) (hb : b < 256) : partP P X b i k ^^^ (X % 2 * (b / 2 ^ k % 2)) * 2 ^ (i + k) = partP P X b i (k + 1) := by
  unfold partP
  rw [Nat.xor_assoc]
  have hx : X % 2 = 0 ∨ X % 2 = 1 := by omega
  rcases hx with hx | hx <;> rw [hx]
  · simp
  · rw [Nat.one_mul, Nat.one_mul, Nat.one_mul, part_step i hi k hk b hb]
theorem partP_end (P X b i : Nat) (hb : b < 256) : partP P X b i 8 = if X % 2 = 1 then P ^^^ b * 2 ^ i else P := by
  unfold partP
  rw [Nat.mod_eq_of_lt (show b < 2 ^ 8 from hb)]
  have hx : X % 2 = 0 ∨ X % 2 = 1 := by omega
  rcases hx with hx | hx <;> rw [hx] <;> simp
theorem clm_step (i a b P : Nat) (hi : i < 8) : clm (8 - i) (a / 2 ^ i) (b * 2 ^ i) P = clm (8 - (i + 1)) (a / 2 ^ (i + 1)) (b * 2 ^ (i + 1)) (if a / 2 ^ i % 2 = 1 then P ^^^ b * 2 ^ i else P) := by
  have e : 8 - i = (8 - (i + 1)) + 1 := by omega
  rw [e]
  show clm _ (a / 2 ^ i / 2) (2 * (b * 2 ^ i)) _ = _
  rw [Nat.div_div_eq_div_mul, ← Nat.pow_succ, Nat.mul_left_comm, Nat.mul_comm 2 (2 ^ i), ← Nat.pow_succ]
theorem half_step (n k : Nat) : ((n / 2 ^ k : Nat) : Int) / 2 = ((n / 2 ^ (k + 1) : Nat) : Int) := by
  rw [Nat.pow_succ, ← Nat.div_div_eq_div_mul]; simp

theorem part_step2 : ∀ i, i < 8 → ∀ k, k < 9 → (285 % 2 ^ k) * 2 ^ i ^^^ (285 / 2 ^ k % 2) * 2 ^ (i + k) = (285 % 2 ^ (k + 1)) * 2 ^ i := by decide +kernel
theorem redc_hit (j P : Nat) (hj : 8 ≤ j) (h : bitI P j = 1) : redc (j - 1 - 7) (P ^^^ (285 % 2 ^ 9) * 2 ^ (j - 8)) = redc (j - 7) P := by
  have e : j - 7 = (j - 8) + 1 := by omega
  have e2 : j - 1 - 7 = j - 8 := by omega
  have e3 : j - 8 + 8 = j := by omega
  rw [e, e2]
  show _ = redc (j - 8) (if P.testBit (j - 8 + 8) = true then _ else _)
  rw [e3]
  have hb : P.testBit j = true := by
    rw [bitI_testBit] at h
    cases hb : P.testBit j
    · rw [hb] at h; cases h
    · rfl
  rw [if_pos hb]
theorem redc_miss (j P : Nat) (hj : 8 ≤ j) (h : ¬ bitI P j = 1) : redc (j - 1 - 7) P = redc (j - 7) P := by
  have e : j - 7 = (j - 8) + 1 := by omega
  have e2 : j - 1 - 7 = j - 8 := by omega
  have e3 : j - 8 + 8 = j := by omega
  rw [e, e2]
  show _ = redc (j - 8) (if P.testBit (j - 8 + 8) = true then _ else _)
  rw [e3]
  have hb : ¬ P.testBit j = true := by
    intro hb
    apply h
    rw [bitI_testBit, hb]
    rfl
  rw [if_neg hb]

set_option maxHeartbeats 1000000 in
theorem rmul_nat (a b : Nat) (w : World) (ha : a < 256) (hb : b < 256) :
    Calls Try.prog 35 #[.int .u8 (a : Int), .int .u8 (b : Int)] w fun e w' => e = .returned (.int .u8 (gmul a b : Nat)) ∧ Below w.heap.size w w' := by
  go_enter Try.func35, Try.ntmps35
  go_wp2
  go_loopw [6, 7, 8, 9] (fun s6 s7 _ _ wr => ∃ i P : Nat, i ≤ 8 ∧ Blk wr w.heap.size 73 (bits16 P) ∧ Below w.heap.size w wr ∧ clm (8 - i) (a / 2 ^ i) (b * 2 ^ i) P = clm 8 a b 0 ∧ s6 = .int .i64 (a / 2 ^ i : Nat) ∧ s7 = .int .i64 i) (fun _ s7 _ _ _ => 8 - (intOf s7).toNat)
  case atStart => exact ⟨0, 0, by omega, by rw [bits16_zero]; exact Blk.new _ _ _, (Below.refl _ _).alloc (Nat.le_refl _) _, by simp, by simp, rfl⟩
  case round =>
    obtain ⟨i, P, hi, hB, hbw, hg, rfl, rfl⟩ := hrel
    have H := Lib.hid hg; clear hg
    by_cases hlt : i < 8
    · obtain ⟨wo, rfl⟩ : ∃ wo : World, wo = wr := ⟨_, rfl⟩
      go_wp2
      go_loopw [8, 9] (fun s8 s9 wi => ∃ k : Nat, k ≤ 8 ∧ Blk wi w.heap.size 73 (bits16 (partP P (a / 2 ^ i) b i k)) ∧ Below w.heap.size w wi ∧ s8 = .int .i64 (b / 2 ^ k : Nat) ∧ s9 = .int .i64 k) (fun _ s9 _ => 8 - (intOf s9).toNat)
      case atStart => exact ⟨0, by omega, by rw [partP_zero]; exact hB, hbw, by simp, rfl⟩
      case round =>
        obtain ⟨k, hk, hB', hbw', rfl, rfl⟩ := hrel
        by_cases hlk : k < 8
        · have hcell := (hB'.cell (i + k)).trans (bits16_at (partP P (a / 2 ^ i) b i k) (i + k) (by omega))
          have hfr := hB'.frozen (i + k)
          obtain ⟨br0, br1⟩ := bitI_range (partP P (a / 2 ^ i) b i k) (i + k)
          have hXb : a / 2 ^ i < 256 := Nat.lt_of_le_of_lt (Nat.div_le_self _ _) ha
          have hYb : b / 2 ^ k < 256 := Nat.lt_of_le_of_lt (Nat.div_le_self _ _) hb
          generalize hV : bitI (partP P (a / 2 ^ i) b i k) (i + k) = V at *
          generalize hX : a / 2 ^ i = X at *
          generalize hY : b / 2 ^ k = Y at *
          have HV := Lib.hid hV; clear hV
          have HX := Lib.hid hX; clear hX
          have HY := Lib.hid hY; clear hY
          go_wp2
          go_roundw
          case rel =>
            refine ⟨k + 1, by omega, ?_, hbw'.setCell (by simp) _, ?_, by go_num⟩
            · rw [store_val V X Y br0 br1, ← partP_step P X b i k hlt hlk hb, HY.out, ← HV.out, ← bits16_set _ _ _ (by omega) (by
                have h1 : X % 2 ≤ 1 := by omega
                have h2 : Y % 2 ≤ 1 := by omega
                exact Nat.mul_le_mul h1 h2)]
              exact hB'.set_ _ _
            · rw [← half_step, HY.out]
          case measure => simp [intOf]; omega
        · have hk8 : k = 8 := by omega
          subst hk8
          have hXb : a / 2 ^ i < 256 := Nat.lt_of_le_of_lt (Nat.div_le_self _ _) ha
          generalize hX : a / 2 ^ i = X at *
          have HX := Lib.hid hX; clear hX
          go_wp2
          go_roundw
          case rel =>
            refine ⟨i + 1, _, by omega, hB', hbw', ?_, ?_, by go_num⟩
            · rw [← H.out, ← HX.out, clm_step i a b P hlt, partP_end _ _ _ _ hb]
            · rw [← half_step, HX.out]
          case measure => simp [intOf]; omega
    · have hi8 : i = 8 := by omega
      subst hi8
      have hP : P = clm 8 a b 0 := H.out
      have hR : redc 8 P = gmul a b := by rw [hP, red_clm a ha b hb]
      have HR := Lib.hid hR
      clear hR hP H
      go_wp2
      obtain ⟨w1, rfl⟩ : ∃ w1 : World, w1 = wr := ⟨_, rfl⟩
      have hsz := hB.lt
      go_loopw [11, 12] (fun s11 _ wi => ∃ j P : Nat, 7 ≤ j ∧ j ≤ 15 ∧ Blk wi w.heap.size 73 (bits16 P) ∧ Blk wi w1.heap.size 74 modC ∧ Below w.heap.size w wi ∧ redc (j - 7) P = gmul a b ∧ s11 = .int .i64 j) (fun s11 _ _ => (intOf s11).toNat)
      case atStart => exact ⟨15, P, by omega, by omega, hB.alloc _, Blk.new _ _ _, hbw.alloc hbw.size _, HR.out, rfl⟩
      case round =>
        clear HR
        obtain ⟨j, P1, hj7, hj15, hB1, hM1, hbw1, hR1, rfl⟩ := hrel
        have HR := Lib.hid hR1; clear hR1
        by_cases hj0 : 8 ≤ j
        · have hcell := (hB1.cell j).trans (bits16_at P1 j (by omega))
          by_cases hbit : bitI P1 j = 1
          · rw [hbit] at hcell
            have HB := Lib.hid hbit; clear hbit
            obtain ⟨wo, rfl⟩ : ∃ wo : World, wo = wr := ⟨_, rfl⟩
            go_wp2
            go_loopw [12] (fun s12 wi => ∃ k : Nat, k ≤ 9 ∧ Blk wi w.heap.size 73 (bits16 (P1 ^^^ (285 % 2 ^ k) * 2 ^ (j - 8))) ∧ Blk wi w1.heap.size 74 modC ∧ Below w.heap.size w wi ∧ s12 = .int .i64 k) (fun s12 _ => 9 - (intOf s12).toNat)
            case atStart => exact ⟨0, by omega, by simpa [Nat.mod_one] using hB1, hM1, hbw1, rfl⟩
            case round =>
              obtain ⟨k, hk9, hB2, hM2, hbw2, rfl⟩ := hrel
              by_cases hk : k < 9
              · have hc2 := (hB2.cell (j - 8 + k)).trans (bits16_at (P1 ^^^ (285 % 2 ^ k) * 2 ^ (j - 8)) (j - 8 + k) (by omega))
                have hm2 := (hM2.cell k).trans (modC_at k hk)
                have hfr := hB2.frozen (j - 8 + k)
                obtain ⟨br0, br1⟩ := bitI_range (P1 ^^^ (285 % 2 ^ k) * 2 ^ (j - 8)) (j - 8 + k)
                generalize hV : bitI (P1 ^^^ (285 % 2 ^ k) * 2 ^ (j - 8)) (j - 8 + k) = V at *
                have HV := Lib.hid hV; clear hV
                have he1 : 285 / 2 ^ k % 2 ≤ 1 := by omega
                generalize hE : 285 / 2 ^ k % 2 = E at *
                have HE := Lib.hid hE; clear hE
                have e1 : ((j : Int) - 8 + (k : Int)).toNat = j - 8 + k := by omega
                go_wp2
                go_region
                go_wp2
                go_roundw
                case rel =>
                  refine ⟨k + 1, by omega, ?_, (hM2.far (by simp; omega) _).drew, (hbw2.setCell (by simp) _).drew, by go_num⟩
                  have := hB2.set_ (j - 8 + k) (.int .i64 ((V + (E : Int)) % 2))
                  rw [← HV.out, bits16_set _ _ _ (by omega) he1, Nat.xor_assoc, ← HE.out, part_step2 (j - 8) (by omega) k hk, HV.out, HE.out] at this
                  exact this.drew
                case measure => simp [intOf]; omega
              · obtain rfl : k = 9 := by omega
                go_wp2
                go_roundw
                case rel =>
                  refine ⟨j - 1, _, by omega, by omega, hB2, hM2, hbw2, ?_, by go_num⟩
                  rw [← HR.out, redc_hit j P1 hj0 HB.out]
                case measure => simp [intOf]; omega
          · have h1 : (bitI P1 j == 1) = false := by simpa using hbit
            have HB := Lib.hid hbit; clear hbit
            generalize hV : bitI P1 j = V at *
            go_wp2
            go_roundw
            case rel =>
              refine ⟨j - 1, P1, by omega, by omega, hB1, hM1, hbw1, ?_, by go_num⟩
              rw [← HR.out, redc_miss j P1 hj0 (by rw [hV]; exact HB.out)]
            case measure => simp [intOf]; omega
        · obtain rfl : j = 7 := by omega
          have hP : P1 = gmul a b := HR.out
          clear HR
          have hPl : gmul a b < 256 := gmul_lt ha
          subst hP
          generalize hG : gmul a b = G at *
          have HG := Lib.hid hG; clear hG
          go_wp2
          obtain ⟨w2, rfl⟩ : ∃ w2 : World, w2 = wr := ⟨_, rfl⟩
          go_loop [13, 14] (fun s13 s14 => (∃ u : Nat, u < 8 ∧ s14 = .int .i64 u ∧ s13 = .int .i64 (G / 2 ^ (u + 1) : Nat)) ∨ (s14 = .int .i64 (-1) ∧ s13 = .int .i64 G)) (fun _ s14 => (intOf s14 + 1).toNat)
          case atStart => exact .inl ⟨7, by omega, rfl, by rw [Nat.div_eq_of_lt (by omega)]; rfl⟩
          case round =>
            rcases hrel with ⟨u, hu, rfl, rfl⟩ | ⟨rfl, rfl⟩
            · have hcell := (hB1.cell u).trans (bits16_at G u (by omega))
              obtain ⟨br0, br1⟩ := bitI_range G u
              have hq : G / 2 ^ (u + 1) < 256 := Nat.lt_of_le_of_lt (Nat.div_le_self _ _) hPl
              have hst : 2 * ((G / 2 ^ (u + 1) : Nat) : Int) + bitI G u = ((G / 2 ^ u : Nat) : Int) := by
                unfold bitI
                rw [Nat.pow_succ, ← Nat.div_div_eq_div_mul]
                omega
              have HS := Lib.hid hst; clear hst
              generalize hV : bitI G u = V at *
              have HV := Lib.hid hV; clear hV
              generalize hQ : G / 2 ^ (u + 1) = Q at *
              have HQ := Lib.hid hQ; clear hQ
              go_wp2
              go_round
              case rel =>
                by_cases h0 : u = 0
                · subst h0
                  refine .inr ⟨rfl, ?_⟩
                  rw [HS.out]; simp
                · refine .inl ⟨u - 1, by omega, by go_num, ?_⟩
                  rw [HS.out, show u - 1 + 1 = u by omega]
              case measure => simp [intOf]
            · go_wp2
              go_ret
              refine ⟨?_, hbw1⟩
              rw [HG.out]
              rfl
theorem rmul_any (x y : Int) (a b : UInt8) (hx : x = (a.toNat : Int)) (hy : y = (b.toNat : Int)) (w : World) :
    Calls Try.prog 35 #[.int .u8 x, .int .u8 y] w fun e w' => e = .returned (.int .u8 ((mul a b).toNat : Int)) ∧ Below w.heap.size w w' := by
  subst hx hy
  refine (rmul_nat a.toNat b.toNat w a.toNat_lt b.toNat_lt).mono fun e w' h => ?_
  rw [toNat_mul]; exact h
end Go.Proofs.Ytgphfhpobppmeaa
