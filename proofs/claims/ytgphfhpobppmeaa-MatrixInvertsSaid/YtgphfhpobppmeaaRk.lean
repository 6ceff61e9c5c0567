/-
  The walks of the document's Good, Identity, Vandermonde, of cofferdamlaw03.same.
-/
import Derived.Test.YtgphfhpobppmeaaRo
namespace Go.Proofs.Ytgphfhpobppmeaa
open Go.RowKit GfM

/-- a row that is as it should be. -/
def rowOk (m : List (List UInt8)) (r : Nat) : Prop := (m.getD r []).length = (m.getD 0 []).length ∧ 1 ≤ (m.getD r []).length ∧ (m.getD r []).length ≤ 16
theorem good_rows {m : List (List UInt8)} (h1 : 1 ≤ m.length) (h2 : m.length ≤ 16) (h : ∀ r, r < m.length → rowOk m r) : goodM m = true :=
  (good_iff m).2 ⟨h1, h2, (h 0 (by omega)).2.1, (h 0 (by omega)).2.2, rfl, fun r hr => (h r hr).1⟩
theorem good_bad {m : List (List UInt8)} {r : Nat} (hr : r < m.length) (h : ¬ rowOk m r) : goodM m = false := by
  rw [Bool.eq_false_iff]
  intro hg
  obtain ⟨_, _, h3, h4, h5⟩ := (good_iff m).1 hg
  have := h5.2 r hr
  exact h ⟨this, by omega, by omega⟩

set_option maxRecDepth 100000 in
set_option maxHeartbeats 1000000 in
theorem rgood_any (w : World) (v : Value) (m : List (List UInt8)) (hv : RMat w v m) :
    Calls Try.prog 25 #[v] w fun e w' => e = .returned (.bool (goodM m)) ∧ Below w.heap.size w w' := by
  obtain ⟨A, c, rfl, hc1, hc2, hcell⟩ := hv.shape
  clear hv
  by_cases h1 : m.length < 1
  · rw [good_no (m := m) (by omega)]
    clear hcell
    generalize m.length = n at *
    go_enter Try.func25, Try.ntmps25
    go_wp2
    go_ret
    exact ⟨rfl, Below.refl _ _⟩
  by_cases h2 : 16 < m.length
  · rw [good_no (m := m) (by omega)]
    clear hcell
    generalize m.length = n at *
    go_enter Try.func25, Try.ntmps25
    go_wp2
    go_ret
    exact ⟨rfl, Below.refl _ _⟩
  obtain ⟨b, off, rfl, hrow⟩ := hcell (by omega)
  have hrow2 : ∀ r, r < m.length → ∃ A1 c1, w.cell? ⟨b, off + r, none⟩ = some (.slice A1 (m.getD r []).length c1) := by
    intro r hr
    obtain ⟨x, hx, hR⟩ := hrow r hr
    obtain ⟨A1, c1, rfl, _⟩ := hR.shape
    exact ⟨A1, c1, hx⟩
  obtain ⟨A0, c0, hx0⟩ := hrow2 0 (by omega)
  rw [Nat.add_zero] at hx0
  have hbl : b < w.heap.size := World.block_lt_of_cell? w _ hx0
  have HR := Lib.hid hrow2; clear hrow2 hrow hcell
  have hyes := Lib.hid (good_rows (m := m) (by omega) (by omega))
  have hno := Lib.hid (fun r hr => good_bad (m := m) (r := r) hr)
  have hok0 : ∀ r, rowOk m r ↔ (m.getD r []).length = (m.getD 0 []).length ∧ 1 ≤ (m.getD r []).length ∧ (m.getD r []).length ≤ 16 := fun r => Iff.rfl
  have hok := Lib.hid hok0; clear hok0
  generalize (m.getD 0 []).length = k at *
  generalize m.length = n at *
  go_enter Try.func25, Try.ntmps25
  go_wp2
  go_loopw [3] (fun s3 wr => ∃ i : Nat, i ≤ n ∧ s3 = .int .i64 i ∧ Hid (∀ r, r < i → rowOk m r) ∧ Below w.heap.size w wr) (fun s3 _ => n - (intOf s3).toNat)
  case atStart => exact ⟨0, by omega, rfl, Lib.hid (fun r hr => absurd hr (by omega)), Below.refl _ _⟩
  case round =>
    obtain ⟨i, hi, rfl, HI, hB⟩ := hrel
    by_cases hlt : i < n
    · obtain ⟨A1, c1, hx1⟩ := HR.out i hlt
      have hk0 := (hB.cell hbl).trans hx0
      have hki := (hB.cell (p := ⟨b, off + i, none⟩) hbl).trans hx1
      have hoki := hok.out i
      by_cases hr : rowOk m i
      · obtain ⟨q1, q2, q3⟩ := hoki.1 hr
        have HRO := Lib.hid hr; clear hr hoki
        rw [q1] at hki q2 q3
        clear q1
        have hb2 : decide ((k : Int) < 1) = false := decide_eq_false (by omega)
        have hb3 : decide (16 < (k : Int)) = false := decide_eq_false (by omega)
        go_wp2
        go_quiet (fail)
        go_wp2
        go_roundw
        case rel => exact ⟨i + 1, by omega, by go_num, Lib.hid (fun r hr => by
          by_cases e : r < i
          · exact HI.out r e
          · obtain rfl : r = i := by omega
            exact HRO.out), below_drewN hB _⟩
        case measure => simp [intOf]; omega
      · have HG := Lib.hid (hno.out i hlt hr)
        by_cases q1 : (m.getD i []).length = k
        · by_cases q2 : k < 1
          · rw [q1] at hki
            have hb2 : decide ((k : Int) < 1) = true := decide_eq_true (by omega)
            clear hoki hr q1
            go_wp2
            go_quiet (fail)
            go_wp2
            go_ret
            exact ⟨by rw [HG.out]; rfl, below_drewN hB _⟩
          · have q3 : 16 < k := by
              apply Classical.byContradiction
              intro h
              exact hr (hoki.2 ⟨q1, by omega, by omega⟩)
            rw [q1] at hki
            have hb2 : decide ((k : Int) < 1) = false := decide_eq_false (by omega)
            have hb3 : decide (16 < (k : Int)) = true := decide_eq_true (by omega)
            clear hoki hr q1
            go_wp2
            go_quiet (fail)
            go_wp2
            go_ret
            exact ⟨by rw [HG.out]; rfl, below_drewN hB _⟩
        · have hb1 := bneN q1
          clear hoki hr
          generalize (m.getD i []).length = ki at *
          go_wp2
          go_quiet (fail)
          go_wp2
          go_ret
          exact ⟨by rw [HG.out]; rfl, below_drewN hB _⟩
    · obtain rfl : i = n := by omega
      have HG := Lib.hid (hyes.out HI.out)
      go_wp2
      go_ret
      exact ⟨by rw [HG.out]; rfl, hB⟩
end Go.Proofs.Ytgphfhpobppmeaa
