/-
  The walks of rs.Encode, of the document's parity and Encode.
-/
import Derived.Test.YtikgipohjoiagaaSh
namespace Go.Proofs.Ytikgipohjoiagaa
open Go.RowKit GfM

theorem bs_tb (T : List ByteArray) (i : Nat) : bs (tb T i) = tl T i := bs_data _
set_option maxRecDepth 100000 in
set_option maxHeartbeats 1000000 in
theorem encode_any (w : World) (v : Value) (T : List ByteArray) (hv : Reads w v (sv T)) :
    Calls Try.prog 12 #[v] w fun e w' => e = .returned (.tuple #[.string (bs (enP T)), .string (bs (enQ T)), .int .i64 (enE T)]) ∧ Below w.heap.size w w' := by
  have hv0 := hv
  obtain ⟨A, c, rfl, hc1, hc2, hcell⟩ := hv.texts
  clear hv
  by_cases hn : T.length < 1 ∨ 8 < T.length
  · have e1 : enE T = 2 := by unfold enE; rw [if_pos hn]
    have e2 : enP T = [] := by unfold enP; rw [if_neg (by rw [e1]; decide)]
    have e3 : enQ T = [] := by unfold enQ; rw [if_neg (by rw [e1]; decide)]
    rw [e1, e2, e3]
    have hd : decide (1 ≤ (T.length : Int) ∧ (T.length : Int) ≤ 8) = false := by simp; omega
    clear e1 e2 e3 hcell hv0 hn
    generalize T.length = n at *
    go_enter Try.func12, Try.ntmps12
    go_wp2_with fail
    refine (rmay_any _ _).mono ?_
    rw [hd]
    rintro e w' ⟨rfl, rfl⟩
    go_wp2
    go_ret3
    exact ⟨rfl, Below.refl _ _⟩
  · have hd : decide (1 ≤ (T.length : Int) ∧ (T.length : Int) ≤ 8) = true := by simp; omega
    by_cases hs : shE T = 0
    · have e1 : enE T = 0 := by unfold enE; rw [if_neg hn]; exact hs
      obtain ⟨_, _, hsz, hle⟩ := enE_ok e1
      have e2 : enP T = pp T (nn T) T.length := by unfold enP; rw [if_pos e1]
      have e3 : enQ T = qq T (nn T) T.length := by unfold enQ; rw [if_pos e1]
      obtain ⟨b, off, rfl, hc⟩ := hcell (by omega)
      have hc0 := hc 0 (by omega)
      rw [Nat.add_zero] at hc0
      have hbl : b < w.heap.size := World.block_lt_of_cell? w _ hc0
      have hnn : (tl T 0).size = nn T := rfl
      have hm1 := mk_bytes (tl T 0).size (by omega)
      have hr := (Bytes.made_zero w (tl T 0).size (by omega)).reads
      rw [List.length_replicate] at hr
      have hcv := reads_string (P := Try.prog) (src := 33) (dst := 9) Try.underlying33 Try.underlying5 Try.underlying9 hr
      have hP0 : bs (List.replicate (tl T 0).size 0) = bs (pp T (nn T) 0) := rfl
      have hQ0 : bs (List.replicate (tl T 0).size 0) = bs (qq T (nn T) 0) := rfl
      have hstep : ∀ i, i < T.length → (∀ W, Calls Try.prog 24 #[.string (bs (pp T (nn T) i)), .string (tl T i)] W fun e w' => e = .returned (.string (bs (pp T (nn T) (i + 1)))) ∧ Below W.heap.size W w') ∧
          (∀ W, Calls Try.prog 26 #[.int .u8 2, .int .i64 i] W fun e w' => e = .returned (.int .u8 ((wt i).toNat : Int)) ∧ W = w') ∧
          (∀ W, Calls Try.prog 25 #[.int .u8 ((wt i).toNat : Int), .string (tl T i)] W fun e w' => e = .returned (.string (bs ((tb T i).map (mul (wt i))))) ∧ Below W.heap.size W w') ∧
          (∀ W, Calls Try.prog 24 #[.string (bs (qq T (nn T) i)), .string (bs ((tb T i).map (mul (wt i))))] W fun e w' => e = .returned (.string (bs (qq T (nn T) (i + 1)))) ∧ Below W.heap.size W w') := by
        intro i hi
        have h1 := hsz i hi
        refine ⟨fun W => xor_ba _ _ _ _ (bs_toList _).symm rfl (by rw [h1]; omega) W, fun W => pow_any 2 i 2 rfl W, fun W => scale_ba _ (wt i) rfl _ _ rfl (by rw [h1]; omega) W,
          fun W => xor_ba _ _ _ _ (bs_toList _).symm (bs_toList _).symm (by rw [bs_size, bs_size, List.length_map, tb_length, h1]; omega) W⟩
      have HSTEP := Lib.hid hstep; clear hstep
      have HC := Lib.hid hc; clear hc
      have HP0 := Lib.hid hP0; clear hP0
      have HQ0 := Lib.hid hQ0; clear hQ0
      have hshape := shape_any w _ T hv0
      rw [hs] at hshape
      have HSH := Lib.hid hshape; clear hshape hs hv0 hsz hr
      rw [e1, e2, e3]
      clear e1 e2 e3 hcell hnn
      generalize tl T 0 = s0 at *
      generalize bs (List.replicate s0.size 0) = z0 at *
      generalize hnT : T.length = n at *
      have HNT := Lib.hid hnT; clear hnT
      go_enter Try.func12, Try.ntmps12
      go_wp2_with fail
      refine (rmay_any _ _).mono ?_
      rw [hd]
      rintro e w' ⟨rfl, rfl⟩
      go_wp2_with fail
      refine (HSH.out).mono ?_
      rintro e w' ⟨rfl, rfl⟩
      go_wp2
      clear hm1 hcv
      go_loopw [2, 3, 5, 6, 25] (fun s2 s3 _ _ s25 wr => ∃ i : Nat, i ≤ n ∧ s25 = .int .i64 i ∧ s2 = .string (bs (pp T (nn T) i)) ∧ s3 = .string (bs (qq T (nn T) i)) ∧ Below w.heap.size w wr) (fun _ _ _ _ s25 _ => n - (intOf s25).toNat)
      case atStart => exact ⟨0, by omega, rfl, by rw [HP0.out], by rw [HQ0.out], (Below.refl _ _).alloc (Nat.le_refl _) _⟩
      case round =>
        obtain ⟨i, hi, rfl, rfl, rfl, hB⟩ := hrel
        by_cases hlt : i < n
        · obtain ⟨h1, h2, h3, h4⟩ := HSTEP.out i hlt
          have hci := (hB.cell hbl).trans (HC.out i hlt)
          generalize hP1 : bs (pp T (nn T) (i + 1)) = P1 at *
          generalize hQ1 : bs (qq T (nn T) (i + 1)) = Q1 at *
          have HP1 := Lib.hid hP1; clear hP1
          have HQ1 := Lib.hid hQ1; clear hQ1
          generalize bs (pp T (nn T) i) = P at *
          generalize bs (qq T (nn T) i) = Q at *
          generalize bs ((tb T i).map (mul (wt i))) = M at *
          generalize wt i = a at *
          generalize tl T i = s at *
          have H1 := Lib.hid h1; clear h1
          have H2 := Lib.hid h2; clear h2
          have H3 := Lib.hid h3; clear h3
          have H4 := Lib.hid h4; clear h4
          go_wp2_with fail
          refine (H1.out _).mono ?_
          rintro e w1 ⟨rfl, hb1⟩
          go_wp2_with fail
          refine (H2.out _).mono ?_
          rintro e w' ⟨rfl, rfl⟩
          go_wp2_with fail
          refine (H3.out _).mono ?_
          rintro e w2 ⟨rfl, hb2⟩
          go_wp2_with fail
          refine (H4.out _).mono ?_
          rintro e w3 ⟨rfl, hb3⟩
          go_wp2
          go_roundw
          case rel => exact ⟨i + 1, by omega, by go_num, by rw [HP1.out], by rw [HQ1.out], below_then (below_then (below_then hB hB.size hb1) (Nat.le_trans hB.size hb1.size) hb2) (Nat.le_trans (Nat.le_trans hB.size hb1.size) hb2.size) hb3⟩
          case measure => simp [intOf]; omega
        · obtain rfl : i = n := by omega
          generalize hP : bs (pp T (nn T) i) = P at *
          generalize hQ : bs (qq T (nn T) i) = Q at *
          have HP := Lib.hid hP; clear hP
          have HQ := Lib.hid hQ; clear hQ
          go_wp2
          go_ret3
          exact ⟨by rw [HP.out, HQ.out]; rfl, hB⟩
    · have e1 : enE T = shE T := by unfold enE; rw [if_neg hn]
      have e2 : enP T = [] := by unfold enP; rw [if_neg (by rw [e1]; exact hs)]
      have e3 : enQ T = [] := by unfold enQ; rw [if_neg (by rw [e1]; exact hs)]
      rw [e1, e2, e3]
      have hshape := shape_any w _ T hv0
      have hb : (shE T != 0) = true := by rw [bne_iff_ne]; exact hs
      have HSH := Lib.hid hshape; clear hshape hs hv0 e1 e2 e3 hcell
      generalize shE T = x at *
      generalize T.length = n at *
      go_enter Try.func12, Try.ntmps12
      go_wp2_with fail
      refine (rmay_any _ _).mono ?_
      rw [hd]
      rintro e w' ⟨rfl, rfl⟩
      go_wp2_with fail
      refine (HSH.out).mono ?_
      rintro e w' ⟨rfl, rfl⟩
      go_wp2
      go_ret3
      exact ⟨rfl, Below.refl _ _⟩

/-! ### the document's -/
set_option maxRecDepth 100000 in
set_option maxHeartbeats 1000000 in
theorem parity_any (w : World) (v : Value) (T : List ByteArray) (hv : Reads w v (sv T)) (hn : 0 < T.length) (k : Nat) (hk : ∀ i, i < T.length → k < (tl T i).size) :
    Calls Try.prog 28 #[v, .int .i64 k] w fun e w' => e = .returned (.tuple #[.int .u8 ((pb T k T.length).toNat : Int), .int .u8 ((qb T k T.length).toNat : Int)]) ∧ Below w.heap.size w w' := by
  obtain ⟨A, c, rfl, hc1, hc2, hcell⟩ := hv.texts
  clear hv
  obtain ⟨b, off, rfl, hc⟩ := hcell hn
  have hc0 := hc 0 hn
  have hbl : b < w.heap.size := World.block_lt_of_cell? w _ hc0
  clear hcell hc0
  have HC := Lib.hid hc; clear hc
  have HK := Lib.hid hk; clear hk
  have hP0 : pb T k 0 = 0 := rfl
  have hQ0 : qb T k 0 = 0 := rfl
  have HP0 := Lib.hid hP0; clear hP0
  have HQ0 := Lib.hid hQ0; clear hQ0
  generalize hnT : T.length = n at *
  have HNT := Lib.hid hnT; clear hnT
  go_enter Try.func28, Try.ntmps28
  go_wp2
  go_loopw [6, 7, 8, 9, 10] (fun s6 s7 s8 _ _ wr => ∃ i : Nat, i ≤ n ∧ s8 = .int .i64 i ∧ s6 = .int .u8 ((pb T k i).toNat : Int) ∧ s7 = .int .u8 ((qb T k i).toNat : Int) ∧ Below w.heap.size w wr) (fun _ _ s8 _ _ _ => n - (intOf s8).toNat)
  case atStart => exact ⟨0, by omega, rfl, by rw [HP0.out]; rfl, by rw [HQ0.out]; rfl, Below.refl _ _⟩
  case round =>
    obtain ⟨i, hi, rfl, rfl, rfl, hB⟩ := hrel
    by_cases hlt : i < n
    · have hki := HK.out i hlt
      have hci := (hB.cell hbl).trans (HC.out i hlt)
      have hby := byte_at (tl T i) k
      have hP1 : pb T k (i + 1) = pb T k i ^^^ (tb T i).getD k 0 := rfl
      have hQ1 : qb T k (i + 1) = qb T k i ^^^ mul (wt i) ((tb T i).getD k 0) := rfl
      have hX : (tl T i).data.toList.getD k 0 = (tb T i).getD k 0 := rfl
      rw [hX] at hby
      have hpow : ∀ W, Calls Try.prog 29 #[.int .u8 2, .int .i64 i] W fun e w' => e = .returned (.int .u8 ((wt i).toNat : Int)) ∧ Below W.heap.size W w' := fun W => rpow_any 2 i 2 rfl W
      clear hX
      have HPW := Lib.hid hpow; clear hpow
      generalize (tb T i).getD k 0 = x at *
      generalize tl T i = s at *
      generalize wt i = a at *
      generalize pb T k i = P at *
      generalize qb T k i = Q at *
      have HP1 := Lib.hid hP1; clear hP1
      have HQ1 := Lib.hid hQ1; clear hQ1
      have hmul : ∀ W, Calls Try.prog 31 #[.int .u8 (a.toNat : Int), .int .u8 (x.toNat : Int)] W fun e w' => e = .returned (.int .u8 ((mul a x).toNat : Int)) ∧ Below W.heap.size W w' := fun W => rmul_any _ _ a x rfl rfl W
      have HM := Lib.hid hmul; clear hmul
      generalize mul a x = y at *
      have hadd1 : ∀ W, Calls Try.prog 30 #[.int .u8 (P.toNat : Int), .int .u8 (x.toNat : Int)] W fun e w' => e = .returned (.int .u8 ((P ^^^ x).toNat : Int)) ∧ Below W.heap.size W w' := fun W => radd_any _ _ P x rfl rfl W
      have hadd2 : ∀ W, Calls Try.prog 30 #[.int .u8 (Q.toNat : Int), .int .u8 (y.toNat : Int)] W fun e w' => e = .returned (.int .u8 ((Q ^^^ y).toNat : Int)) ∧ Below W.heap.size W w' := fun W => radd_any _ _ Q y rfl rfl W
      have HA1 := Lib.hid hadd1; clear hadd1
      have HA2 := Lib.hid hadd2; clear hadd2
      generalize P ^^^ x = P2 at *
      generalize Q ^^^ y = Q2 at *
      go_wp2_with fail
      refine (HPW.out _).mono ?_
      rintro e w1 ⟨rfl, hb1⟩
      have hB1 := below_then hB hB.size hb1
      have hci1 := (hb1.cell (p := ⟨b, off + i, none⟩) (Nat.lt_of_lt_of_le hbl hB.size)).trans hci
      clear hci
      go_wp2_with fail
      refine (HM.out _).mono ?_
      rintro e w2 ⟨rfl, hb2⟩
      have hB2 := below_then hB1 hB1.size hb2
      have hci2 := (hb2.cell (p := ⟨b, off + i, none⟩) (Nat.lt_of_lt_of_le hbl hB1.size)).trans hci1
      clear hci1
      go_wp2_with fail
      refine (HA1.out _).mono ?_
      rintro e w3 ⟨rfl, hb3⟩
      go_wp2_with fail
      refine (HA2.out _).mono ?_
      rintro e w4 ⟨rfl, hb4⟩
      have hB3 := below_then hB2 hB2.size hb3
      have hB4 := below_then hB3 hB3.size hb4
      go_wp2
      go_roundw
      case rel => exact ⟨i + 1, by omega, by go_num, by rw [HP1.out], by rw [HQ1.out], hB4⟩
      case measure => simp [intOf]; omega
    · obtain rfl : i = n := by omega
      generalize hP : pb T k i = P at *
      generalize hQ : qb T k i = Q at *
      have HP := Lib.hid hP; clear hP
      have HQ := Lib.hid hQ; clear hQ
      go_wp2
      go_ret2
      exact ⟨by rw [HP.out, HQ.out]; rfl, hB⟩
end Go.Proofs.Ytikgipohjoiagaa
