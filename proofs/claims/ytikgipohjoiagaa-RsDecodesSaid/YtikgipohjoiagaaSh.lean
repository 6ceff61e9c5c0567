/-
  The walks of rs.may, rs.shape and of the document's shape.
-/
import Derived.Test.YtikgipohjoiagaaSx
namespace Go.Proofs.Ytikgipohjoiagaa
open Go.RowKit GfM

set_option maxHeartbeats 400000 in
theorem rmay_any (n : Int) (w : World) : Calls Try.prog 22 #[.int .i64 n] w fun e w' => e = .returned (.bool (decide (1 ≤ n ∧ n ≤ 8))) ∧ w = w' := by
  by_cases h : 1 ≤ n
  · by_cases h2 : n ≤ 8
    · have h3 : decide (1 ≤ n ∧ n ≤ 8) = true := by simp; omega
      rw [h3]
      go_enter Try.func22, Try.ntmps22
      go_wp2
      go_ret
      exact ⟨rfl, rfl⟩
    · have h3 : decide (1 ≤ n ∧ n ≤ 8) = false := by simp; omega
      rw [h3]
      have h4 : decide (1 ≤ n) = true := by simp; omega
      have h5 : decide (n ≤ 8) = false := by simp; omega
      go_enter Try.func22, Try.ntmps22
      go_wp2
      go_ret
      exact ⟨rfl, rfl⟩
  · have h3 : decide (1 ≤ n ∧ n ≤ 8) = false := by simp; omega
    rw [h3]
    have h4 : decide (1 ≤ n) = false := by simp; omega
    go_enter Try.func22, Try.ntmps22
    go_wp2
    go_ret
    exact ⟨rfl, rfl⟩

/-- texts that are read. -/
theorem Reads.texts {w : World} {v : Value} {T : List ByteArray} (h : Reads w v (sv T)) :
    ∃ A c, v = .slice A T.length c ∧ T.length ≤ c ∧ c ≤ 9223372036854775807 ∧ (0 < T.length → ∃ b off, A = some ⟨b, off, none⟩ ∧ ∀ j, j < T.length → w.cell? ⟨b, off + j, none⟩ = some (.string (tl T j))) := by
  obtain ⟨A, c, rfl, h1, h2, h3⟩ := h
  rw [sv_length] at *
  refine ⟨A, c, rfl, h1, h2, fun hp => ?_⟩
  obtain ⟨b, off, rfl, hc⟩ := h3 hp
  exact ⟨b, off, rfl, fun j hj => by rw [hc j hj, sv_at T j hj]⟩
theorem bne_nat {a b : Nat} (h : a ≠ b) : (((a : Nat) : Int) != ((b : Nat) : Int)) = true := by rw [bne_iff_ne]; omega
theorem bne_nat_same {a b : Nat} (h : a = b) : (((a : Nat) : Int) != ((b : Nat) : Int)) = false := by rw [h]; simp

set_option maxRecDepth 100000 in
set_option maxHeartbeats 1000000 in
theorem shape_any (w : World) (v : Value) (T : List ByteArray) (hv : Reads w v (sv T)) :
    Calls Try.prog 23 #[v] w fun e w' => e = .returned (.int .i64 (shE T)) ∧ w = w' := by
  obtain ⟨A, c, rfl, hc1, hc2, hcell⟩ := hv.texts
  clear hv
  by_cases hn : 0 < T.length
  · obtain ⟨b, off, rfl, hc⟩ := hcell hn
    clear hcell
    have hc0 := hc 0 hn
    rw [Nat.add_zero] at hc0
    by_cases he : Evn T
    · by_cases hl : 65536 < (tl T 0).size
      · rw [shE_long he hn hl]
        have HE := Lib.hid he; clear he
        have HC := Lib.hid hc; clear hc
        generalize hs0 : tl T 0 = s0 at *
        have HS0 := Lib.hid hs0; clear hs0
        generalize hnn : T.length = n at *
        have HN := Lib.hid hnn; clear hnn
        go_enter Try.func23, Try.ntmps23
        go_wp2
        go_loop [4, 7] (fun _ s7 => ∃ i : Nat, i ≤ n ∧ s7 = .int .i64 i) (fun _ s7 => T.length + 1 - (intOf s7).toNat)
        case atStart => exact ⟨0, by omega, rfl⟩
        case round =>
          obtain ⟨i, hi, rfl⟩ := hrel
          by_cases hlt : i < n
          · have h1 := HC.out i hlt
            have h2 := bne_nat_same (HE.out i (by rw [HN.out]; exact hlt))
            try rw [HS0.out] at h2
            generalize tl T i = si at *
            go_wp2
            go_round
            case rel => exact ⟨i + 1, by omega, by go_num⟩
            case measure => have := HN.out; simp [intOf]; omega
          · obtain rfl : i = n := by omega
            go_wp2
            go_ret
            exact ⟨rfl, rfl⟩
      · rw [shE_zero he (by omega)]
        have HE := Lib.hid he; clear he
        have HC := Lib.hid hc; clear hc
        generalize hs0 : tl T 0 = s0 at *
        have HS0 := Lib.hid hs0; clear hs0
        generalize hnn : T.length = n at *
        have HN := Lib.hid hnn; clear hnn
        go_enter Try.func23, Try.ntmps23
        go_wp2
        go_loop [4, 7] (fun _ s7 => ∃ i : Nat, i ≤ n ∧ s7 = .int .i64 i) (fun _ s7 => T.length + 1 - (intOf s7).toNat)
        case atStart => exact ⟨0, by omega, rfl⟩
        case round =>
          obtain ⟨i, hi, rfl⟩ := hrel
          by_cases hlt : i < n
          · have h1 := HC.out i hlt
            have h2 := bne_nat_same (HE.out i (by rw [HN.out]; exact hlt))
            try rw [HS0.out] at h2
            generalize tl T i = si at *
            go_wp2
            go_round
            case rel => exact ⟨i + 1, by omega, by go_num⟩
            case measure => have := HN.out; simp [intOf]; omega
          · obtain rfl : i = n := by omega
            go_wp2
            go_ret
            exact ⟨rfl, rfl⟩
    · rw [shE_odd he]
      obtain ⟨j, hj, hne, hlow⟩ := odd_first he
      have h3 := bne_nat hne
      have hcj := hc j hj
      have HO := Lib.hid hlow; clear hlow he hne
      have HC := Lib.hid hc; clear hc
      generalize hs0 : tl T 0 = s0 at *
      have HS0 := Lib.hid hs0; clear hs0
      generalize hsj : tl T j = sj at *
      have HSJ := Lib.hid hsj; clear hsj
      generalize hnn : T.length = n at *
      have HN := Lib.hid hnn; clear hnn
      go_enter Try.func23, Try.ntmps23
      go_wp2
      go_loop [4, 7] (fun _ s7 => ∃ i : Nat, i ≤ j ∧ s7 = .int .i64 i) (fun _ s7 => T.length + 1 - (intOf s7).toNat)
      case atStart => exact ⟨0, by omega, rfl⟩
      case round =>
        obtain ⟨i, hi, rfl⟩ := hrel
        by_cases hlt : i < j
        · have h1 := HC.out i (by omega)
          have h2 := bne_nat_same (HO.out i hlt)
          try rw [HS0.out] at h2
          generalize tl T i = si at *
          go_wp2
          go_round
          case rel => exact ⟨i + 1, by omega, by go_num⟩
          case measure => have := HN.out; simp [intOf]; omega
        · obtain rfl : i = j := by omega
          go_wp2
          go_ret
          exact ⟨rfl, rfl⟩
  · obtain rfl : T = [] := List.eq_nil_of_length_eq_zero (by omega)
    have e : shE [] = 0 := by
      unfold shE
      rw [if_pos (by intro i hi; simp at hi), if_neg (by simp)]
    rw [e]
    clear hcell hn e
    simp only [List.length_nil]
    go_enter Try.func23, Try.ntmps23
    go_wp2
    go_loop [4, 7] (fun _ s7 => ∃ i : Nat, i = 0 ∧ s7 = .int .i64 i) (fun _ s7 => 1 - (intOf s7).toNat)
    case atStart => exact ⟨0, by omega, rfl⟩
    case round =>
      obtain ⟨i, rfl, rfl⟩ := hrel
      go_wp2
      go_ret
      exact ⟨rfl, rfl⟩

set_option maxRecDepth 100000 in
set_option maxHeartbeats 1000000 in
theorem rshape_any (w : World) (v : Value) (T : List ByteArray) (hv : Reads w v (sv T)) :
    Calls Try.prog 27 #[v] w fun e w' => e = .returned (.int .i64 (shE T)) ∧ Below w.heap.size w w' := by
  obtain ⟨A, c, rfl, hc1, hc2, hcell⟩ := hv.texts
  clear hv
  by_cases hn : 0 < T.length
  · obtain ⟨b, off, rfl, hc⟩ := hcell hn
    clear hcell
    have hc0 := hc 0 hn
    have hbl : b < w.heap.size := World.block_lt_of_cell? w _ hc0
    rw [Nat.add_zero] at hc0
    by_cases he : Evn T
    · by_cases hl : 65536 < (tl T 0).size
      · rw [shE_long he hn hl]
        have HE := Lib.hid he; clear he
        have HC := Lib.hid hc; clear hc
        generalize hs0 : tl T 0 = s0 at *
        have HS0 := Lib.hid hs0; clear hs0
        generalize hnn : T.length = n at *
        have HN := Lib.hid hnn; clear hnn
        go_enter Try.func27, Try.ntmps27
        go_wp2
        go_loopw [3] (fun s3 wr => ∃ i : Nat, i ≤ n ∧ s3 = .int .i64 i ∧ Below w.heap.size w wr) (fun s3 _ => T.length + 1 - (intOf s3).toNat)
        case atStart => exact ⟨0, by omega, rfl, Below.refl _ _⟩
        case round =>
          obtain ⟨i, hi, rfl, hB⟩ := hrel
          by_cases hlt : i < n
          · have h1 := (hB.cell hbl).trans (HC.out i hlt)
            have hk0 := (hB.cell hbl).trans hc0
            have h2 := bne_nat_same (HE.out i (by rw [HN.out]; exact hlt))
            try rw [HS0.out] at h2
            generalize tl T i = si at *
            go_wp2
            go_quiet (fail)
            go_wp2
            go_roundw
            case rel => exact ⟨i + 1, by omega, by go_num, below_drewN hB _⟩
            case measure => have := HN.out; simp [intOf]; omega
          · obtain rfl : i = n := by omega
            have hk0 := (hB.cell hbl).trans hc0
            go_wp2
            go_ret
            exact ⟨rfl, hB⟩
      · rw [shE_zero he (by omega)]
        have HE := Lib.hid he; clear he
        have HC := Lib.hid hc; clear hc
        generalize hs0 : tl T 0 = s0 at *
        have HS0 := Lib.hid hs0; clear hs0
        generalize hnn : T.length = n at *
        have HN := Lib.hid hnn; clear hnn
        go_enter Try.func27, Try.ntmps27
        go_wp2
        go_loopw [3] (fun s3 wr => ∃ i : Nat, i ≤ n ∧ s3 = .int .i64 i ∧ Below w.heap.size w wr) (fun s3 _ => T.length + 1 - (intOf s3).toNat)
        case atStart => exact ⟨0, by omega, rfl, Below.refl _ _⟩
        case round =>
          obtain ⟨i, hi, rfl, hB⟩ := hrel
          by_cases hlt : i < n
          · have h1 := (hB.cell hbl).trans (HC.out i hlt)
            have hk0 := (hB.cell hbl).trans hc0
            have h2 := bne_nat_same (HE.out i (by rw [HN.out]; exact hlt))
            try rw [HS0.out] at h2
            generalize tl T i = si at *
            go_wp2
            go_quiet (fail)
            go_wp2
            go_roundw
            case rel => exact ⟨i + 1, by omega, by go_num, below_drewN hB _⟩
            case measure => have := HN.out; simp [intOf]; omega
          · obtain rfl : i = n := by omega
            have hk0 := (hB.cell hbl).trans hc0
            go_wp2
            go_ret
            exact ⟨rfl, hB⟩
    · rw [shE_odd he]
      obtain ⟨j, hj, hne, hlow⟩ := odd_first he
      have h3 := bne_nat hne
      have hcj := hc j hj
      have HO := Lib.hid hlow; clear hlow he hne
      have HC := Lib.hid hc; clear hc
      generalize hs0 : tl T 0 = s0 at *
      have HS0 := Lib.hid hs0; clear hs0
      generalize hsj : tl T j = sj at *
      have HSJ := Lib.hid hsj; clear hsj
      generalize hnn : T.length = n at *
      have HN := Lib.hid hnn; clear hnn
      go_enter Try.func27, Try.ntmps27
      go_wp2
      go_loopw [3] (fun s3 wr => ∃ i : Nat, i ≤ j ∧ s3 = .int .i64 i ∧ Below w.heap.size w wr) (fun s3 _ => T.length + 1 - (intOf s3).toNat)
      case atStart => exact ⟨0, by omega, rfl, Below.refl _ _⟩
      case round =>
        obtain ⟨i, hi, rfl, hB⟩ := hrel
        by_cases hlt : i < j
        · have h1 := (hB.cell hbl).trans (HC.out i (by omega))
          have hk0 := (hB.cell hbl).trans hc0
          have h2 := bne_nat_same (HO.out i hlt)
          try rw [HS0.out] at h2
          generalize tl T i = si at *
          go_wp2
          go_quiet (fail)
          go_wp2
          go_roundw
          case rel => exact ⟨i + 1, by omega, by go_num, below_drewN hB _⟩
          case measure => have := HN.out; simp [intOf]; omega
        · obtain rfl : i = j := by omega
          have hkj := (hB.cell hbl).trans hcj
          have hk0 := (hB.cell hbl).trans hc0
          go_wp2
          go_quiet (fail)
          go_wp2
          go_ret
          exact ⟨rfl, below_drewN hB _⟩
  · obtain rfl : T = [] := List.eq_nil_of_length_eq_zero (by omega)
    have e : shE [] = 0 := by
      unfold shE
      rw [if_pos (by intro i hi; simp at hi), if_neg (by simp)]
    rw [e]
    clear hcell hn e
    simp only [List.length_nil]
    go_enter Try.func27, Try.ntmps27
    go_wp2
    go_loopw [3] (fun s3 wr => ∃ i : Nat, i = 0 ∧ s3 = .int .i64 i ∧ Below w.heap.size w wr) (fun s3 _ => 1 - (intOf s3).toNat)
    case atStart => exact ⟨0, by omega, rfl, Below.refl _ _⟩
    case round =>
      obtain ⟨i, rfl, rfl, hB⟩ := hrel
      go_wp2
      go_ret
      exact ⟨rfl, hB⟩

end Go.Proofs.Ytikgipohjoiagaa
