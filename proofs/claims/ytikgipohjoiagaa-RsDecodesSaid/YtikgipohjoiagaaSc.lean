/-
  The walks of rs.Check and of the document's Check.
-/
import Derived.Test.YtikgipohjoiagaaSf
import Derived.ChangeKeysEq
namespace Go.Proofs.Ytikgipohjoiagaa
open Go.RowKit GfM

theorem Reads.take {w : World} {A : Option Addr} {n c : Nat} {xs : List Value} (h : Reads w (.slice A n c) xs) (k : Nat) (hk : k ≤ xs.length) : Reads w (.slice A k c) (xs.take k) := by
  obtain ⟨A', c', he, h1, h2, h3⟩ := h
  injection he with e1 e2 e3
  subst e1 e3
  have hl : (xs.take k).length = k := by rw [List.length_take]; omega
  refine ⟨A, c, by rw [hl], by omega, h2, fun hp => ?_⟩
  obtain ⟨b, off, rfl, hc⟩ := h3 (by omega)
  refine ⟨b, off, rfl, fun j hj => ?_⟩
  rw [hc j (by omega), List.getElem?_take, if_pos (by omega)]
/-! ### an array of two texts -/
theorem arrayAt_two (W : World) (A : Option Addr) (c : Nat) : (Instr.arrayAt 57 (.slice A 2 c)).run Try.prog W = .ok (.pointer A) W := by
  simp [Instr.arrayAt, run_underlying Try.underlying57]
theorem ba_inj {a b : ByteArray} : a.toList = b.toList ↔ a = b := by
  rw [ByteArray.toList_eq, ByteArray.toList_eq]
  refine ⟨fun h => ?_, fun h => by rw [h]⟩
  rw [← bs_data a, ← bs_data b, h]
theorem ba_no {a b : ByteArray} (h : ¬ a = b) : (a.toList == b.toList) = false ∧ ¬ a.toList = b.toList := by
  have : ¬ a.toList = b.toList := fun e => h (ba_inj.1 e)
  exact ⟨by rw [beq_eq_false_iff_ne]; exact this, this⟩
theorem eq_two (W : World) (x y p q : ByteArray) : (Op.equalIn 10000 57 (.agg #[.string x, .string y]) (.agg #[.string p, .string q])).run Try.prog W = .ok (decide (p = x) && decide (q = y)) W := by
  have hi : ∃ i, Try.prog.info? 9 = some i := Option.isSome_iff_exists.1 (by kernel_rfl)
  obtain ⟨i, hi⟩ := hi
  have hc : Try.prog.cellsOf 9 = 1 := by kernel_rfl
  have ha : ∀ v : World, (isAgg 9).run Try.prog v = .ok false v := by intro v; simp [isAgg, run_underlying Try.underlying9]
  rw [show (10000 : Nat) = 9999 + 1 from rfl, run_equalIn_array W 9999 _ _ Try.underlying57 hi, hc]
  simp only [show List.range 2 = [0, 1] from rfl, Op.eqItems, Sem.run_bind, part, ha, Result.andThen_ok]
  simp [run_equalIn_string W _ _ _ _ Try.underlying9, ba_inj]
  by_cases h1 : x = p
  · subst h1
    by_cases h2 : y = q
    · subst h2; simp
    · rw [if_neg h2]; simp [Ne.symm h2]
  · rw [if_neg h1]; simp [Ne.symm h1]
open Classical in
/-- do all chunks fit one another? -/
noncomputable def ckB (T : List ByteArray) : Bool := decide (3 ≤ T.length ∧ enE (T.take (T.length - 2)) = 0 ∧ bs (enP (T.take (T.length - 2))) = tl T (T.length - 2) ∧ bs (enQ (T.take (T.length - 2))) = tl T (T.length - 2 + 1))

set_option maxRecDepth 100000 in
set_option maxHeartbeats 1000000 in
theorem check_any (w : World) (v : Value) (T : List ByteArray) (hv : Reads w v (sv T)) :
    Calls Try.prog 15 #[v] w fun e w' => e = .returned (.bool (ckB T)) ∧ Below w.heap.size w w' := by
  have hv0 := hv
  obtain ⟨A, c, rfl, hc1, hc2, hcell⟩ := hv.texts
  clear hv
  by_cases hn : T.length < 3
  · have e1 : ckB T = false := by unfold ckB; rw [decide_eq_false_iff_not]; omega
    rw [e1]
    have hd : decide (1 ≤ (T.length : Int) - 2 ∧ (T.length : Int) - 2 ≤ 8) = false := by simp; omega
    clear e1 hcell hv0
    generalize T.length = n at *
    go_enter Try.func15, Try.ntmps15
    go_wp2_with fail
    refine (rmay_any _ _).mono ?_
    rw [hd]
    rintro e w' ⟨rfl, rfl⟩
    go_wp2
    go_ret
    exact ⟨rfl, Below.refl _ _⟩
  · obtain ⟨k, hk⟩ : ∃ k : Nat, T.length = k + 2 := ⟨T.length - 2, by omega⟩
    have hk2 : T.length - 2 = k := by omega
    have hrt := hv0.take k (by rw [sv_length]; omega)
    rw [sv_take] at hrt
    obtain ⟨b, off, rfl, hc⟩ := hcell (by omega)
    have hc0 := hc k (by omega)
    have hc1' := hc (k + 1) (by omega)
    have hbl : b < w.heap.size := World.block_lt_of_cell? w _ hc0
    have hlk : (T.take k).length = k := by rw [List.length_take]; omega
    have henc := encode_any w _ _ hrt
    have hkc : k + 2 ≤ c := by omega
    have hkb : (k : Int) ≤ 9223372036854775805 := by omega
    by_cases hk8 : 8 < k
    · have e0 : enE (T.take k) = 2 := by unfold enE; rw [hlk, if_pos (.inr hk8)]
      have e1 : ckB T = false := by unfold ckB; rw [decide_eq_false_iff_not, hk2, e0]; rintro ⟨_, h, _⟩; cases h
      rw [e1]
      have hd : decide (1 ≤ (k : Int) ∧ (k : Int) ≤ 8) = false := by simp; omega
      rw [hk] at *
      clear e1 e0 hcell hv0 hc hc0 hc1' henc hrt
      go_enter Try.func15, Try.ntmps15
      go_wp2_with fail
      refine (rmay_any _ _).mono ?_
      rw [hd]
      rintro e w' ⟨rfl, rfl⟩
      go_wp2
      go_ret
      exact ⟨rfl, Below.refl _ _⟩
    · have hd : decide (1 ≤ (k : Int) ∧ (k : Int) ≤ 8) = true := by simp; omega
      by_cases he : enE (T.take k) = 0
      · rw [he] at henc
        have e1 : ckB T = (decide (bs (enP (T.take k)) = tl T k) && decide (bs (enQ (T.take k)) = tl T (k + 1))) := by
          unfold ckB
          rw [hk2, he]
          simp
          omega
        rw [e1]
        have HENC := Lib.hid henc
        rw [hk] at *
        clear e1 he hcell hv0 hc henc hrt hlk hk2
        generalize tl T k = x at *
        generalize tl T (k + 1) = y at *
        generalize bs (enP (T.take k)) = P at *
        generalize bs (enQ (T.take k)) = Q at *
        go_enter Try.func15, Try.ntmps15
        go_wp2_with fail
        refine (rmay_any _ _).mono ?_
        rw [hd]
        rintro e w' ⟨rfl, rfl⟩
        go_wp2_with fail
        refine (HENC.out).mono ?_
        rintro e w1 ⟨rfl, hb1⟩
        have hk0 := (hb1.cell (p := ⟨b, off + k, none⟩) hbl).trans hc0
        have hk1 : w1.cell? ⟨b, off + k + 1, none⟩ = some (.string y) := (hb1.cell (p := ⟨b, off + (k + 1), none⟩) hbl).trans hc1'
        have hsa := fun W => arrayAt_two W (some ⟨b, off + k, none⟩) (c - k)
        have heq := eq_two w1 x y P Q
        go_wp2
        go_ret
        exact ⟨rfl, hb1⟩
      · have e1 : ckB T = false := by
          unfold ckB
          rw [decide_eq_false_iff_not, hk2]
          rintro ⟨_, h, _⟩
          exact he h
        rw [e1]
        have hb : (enE (T.take k) == 0) = false := by rw [beq_eq_false_iff_ne]; exact he
        have HENC := Lib.hid henc
        rw [hk] at *
        clear e1 he hcell hv0 hc henc hrt hlk hk2 hc0 hc1'
        generalize enE (T.take k) = E at *
        generalize bs (enP (T.take k)) = P at *
        generalize bs (enQ (T.take k)) = Q at *
        go_enter Try.func15, Try.ntmps15
        go_wp2_with fail
        refine (rmay_any _ _).mono ?_
        rw [hd]
        rintro e w' ⟨rfl, rfl⟩
        go_wp2_with fail
        refine (HENC.out).mono ?_
        rintro e w1 ⟨rfl, hb1⟩
        go_wp2
        go_ret
        exact ⟨rfl, hb1⟩

/-! ### the document's -/
set_option maxRecDepth 100000 in
set_option maxHeartbeats 1000000 in
theorem rcheck_any (w : World) (v : Value) (T : List ByteArray) (hv : Reads w v (sv T)) :
    Calls Try.prog 16 #[v] w fun e w' => e = .returned (.bool (ckB T)) ∧ Below w.heap.size w w' := by
  have hv0 := hv
  obtain ⟨A, c, rfl, hc1, hc2, hcell⟩ := hv.texts
  clear hv
  by_cases hn : T.length < 3
  · have e1 : ckB T = false := by unfold ckB; rw [decide_eq_false_iff_not]; omega
    rw [e1]
    clear e1 hcell hv0
    generalize T.length = n at *
    go_enter Try.func16, Try.ntmps16
    go_wp2
    go_ret
    exact ⟨rfl, Below.refl _ _⟩
  · obtain ⟨k, hk⟩ : ∃ k : Nat, T.length = k + 2 := ⟨T.length - 2, by omega⟩
    have hk2 : T.length - 2 = k := by omega
    have hrt := hv0.take k (by rw [sv_length]; omega)
    rw [sv_take] at hrt
    obtain ⟨b, off, rfl, hc⟩ := hcell (by omega)
    have hc0 := hc k (by omega)
    have hc1' := hc (k + 1) (by omega)
    have hbl : b < w.heap.size := World.block_lt_of_cell? w _ hc0
    have henc := rencode_any w _ _ hrt
    have hkc : k + 2 ≤ c := by omega
    have hkb : (k : Int) ≤ 9223372036854775805 := by omega
    have hk1 : ¬ (k : Int) < 1 := by omega
    by_cases he : enE (T.take k) = 0
    · rw [he] at henc
      have e1 : ckB T = (decide (bs (enP (T.take k)) = tl T k) && decide (bs (enQ (T.take k)) = tl T (k + 1))) := by
        unfold ckB
        rw [hk2, he]
        simp
        omega
      rw [e1]
      have HENC := Lib.hid henc
      rw [hk] at *
      clear e1 he hcell hv0 hc henc hrt hk2
      generalize tl T k = x at *
      generalize tl T (k + 1) = y at *
      generalize bs (enP (T.take k)) = P at *
      generalize bs (enQ (T.take k)) = Q at *
      go_enter Try.func16, Try.ntmps16
      go_wp2_with fail
      refine (HENC.out).mono ?_
      rintro e w1 ⟨rfl, hb1⟩
      have hk0 := (hb1.cell (p := ⟨b, off + k, none⟩) hbl).trans hc0
      have hk1 : w1.cell? ⟨b, off + (k + 1), none⟩ = some (.string y) := (hb1.cell (p := ⟨b, off + (k + 1), none⟩) hbl).trans hc1'
      by_cases h1 : P = x
      · subst h1
        by_cases h2 : Q = y
        · subst h2
          go_wp2
          go_ret
          exact ⟨by simp, hb1⟩
        · obtain ⟨hb2, hb3⟩ := ba_no h2
          go_wp2
          go_ret
          exact ⟨by simp [h2], hb1⟩
      · obtain ⟨hb2, hb3⟩ := ba_no h1
        go_wp2
        go_ret
        exact ⟨by simp [h1], hb1⟩
    · have e1 : ckB T = false := by
        unfold ckB
        rw [decide_eq_false_iff_not, hk2]
        rintro ⟨_, h, _⟩
        exact he h
      rw [e1]
      have hb : (enE (T.take k) == 0) = false := by rw [beq_eq_false_iff_ne]; exact he
      have HENC := Lib.hid henc
      rw [hk] at *
      clear e1 he hcell hv0 hc henc hrt hk2 hc0 hc1'
      generalize enE (T.take k) = E at *
      generalize bs (enP (T.take k)) = P at *
      generalize bs (enQ (T.take k)) = Q at *
      go_enter Try.func16, Try.ntmps16
      go_wp2_with fail
      refine (HENC.out).mono ?_
      rintro e w1 ⟨rfl, hb1⟩
      go_wp2
      go_ret
      exact ⟨rfl, hb1⟩
end Go.Proofs.Ytikgipohjoiagaa
