/-
  The walk of matrix.Good, and of the document's.
-/
import Derived.Test.YtgphfhpobppmeaaWn
namespace Go.Proofs.Ytgphfhpobppmeaa
open Go.RowKit GfM

set_option maxHeartbeats 400000 in
theorem may_yes (n : Int) (h1 : 1 ≤ n) (h2 : n ≤ 16) (w : World) : Calls Try.prog 36 #[.int .i64 n] w fun e w' => e = .returned (.bool true) ∧ w = w' := by
  go_enter Try.func36, Try.ntmps36
  go_wp2
  go_ret
  exact ⟨rfl, rfl⟩
set_option maxHeartbeats 400000 in
theorem may_no (n : Int) (h : n < 1 ∨ 16 < n) (w : World) : Calls Try.prog 36 #[.int .i64 n] w fun e w' => e = .returned (.bool false) ∧ w = w' := by
  rcases h with h | h
  · have h1 : decide (1 ≤ n) = false := by simp; omega
    go_enter Try.func36, Try.ntmps36
    go_wp2
    all_goals (go_ret; exact ⟨rfl, rfl⟩)
  · have h1 : decide (1 ≤ n) = true := by simp; omega
    have h2 : decide (n ≤ 16) = false := by simp; omega
    go_enter Try.func36, Try.ntmps36
    go_wp2
    all_goals (go_ret; exact ⟨rfl, rfl⟩)

/-- is it a matrix? -/
def goodM (m : List (List UInt8)) : Bool := decide (1 ≤ m.length ∧ m.length ≤ 16 ∧ 1 ≤ (m.getD 0 []).length ∧ (m.getD 0 []).length ≤ 16 ∧ ∀ r, r < m.length → (m.getD r []).length = (m.getD 0 []).length)
theorem good_iff (m : List (List UInt8)) : goodM m = true ↔ 1 ≤ m.length ∧ m.length ≤ 16 ∧ 1 ≤ (m.getD 0 []).length ∧ (m.getD 0 []).length ≤ 16 ∧ Shp m m.length (m.getD 0 []).length := by
  unfold goodM Shp
  rw [decide_eq_true_iff]
  simp only [true_and]
theorem good_no {m : List (List UInt8)} (h : ¬ (1 ≤ m.length ∧ m.length ≤ 16 ∧ 1 ≤ (m.getD 0 []).length ∧ (m.getD 0 []).length ≤ 16)) : goodM m = false := by
  unfold goodM
  rw [decide_eq_false_iff_not]
  rintro ⟨h1, h2, h3, h4, _⟩
  exact h ⟨h1, h2, h3, h4⟩

/-- the closure: is a row of another length than the first one? -/
theorem goodc_any (w : World) (m : List (List UInt8)) (v : Value) (a : Addr) (hv : RMat w v m) (ha : w.cell? a = some v) (hm : 0 < m.length) (x : Value) (l : List UInt8) (hx : Reads w x (bv l)) :
    Calls Try.prog 47 #[x, .pointer (some a)] w fun e w' => e = .returned (.bool (decide (l.length ≠ (m.getD 0 []).length))) ∧ w = w' := by
  obtain ⟨A, c, rfl, hc1, hc2, hcell⟩ := hv.shape
  obtain ⟨b, off, rfl, hr⟩ := hcell hm
  obtain ⟨x0, hx0, hr0⟩ := hr 0 hm
  obtain ⟨A0, c0, rfl, _, _, _⟩ := hr0.shape
  obtain ⟨A1, c1, rfl, _, _, _⟩ := hx.shape
  clear hr0 hr hcell hx hv
  rw [Nat.add_zero] at hx0
  generalize (m.getD 0 []).length = k at *
  generalize m.length = n at *
  generalize l.length = j at *
  by_cases h : j = k
  · have hb : (((j : Nat) : Int) != ((k : Nat) : Int)) = false := by rw [h]; simp
    have e : decide (j ≠ k) = false := by simpa using h
    rw [e]
    clear e h
    go_enter Try.func47, Try.ntmps47
    go_wp2
    go_ret
    exact ⟨rfl, rfl⟩
  · have hb : (((j : Nat) : Int) != ((k : Nat) : Int)) = true := by rw [bne_iff_ne]; omega
    have e : decide (j ≠ k) = true := by simpa using h
    rw [e]
    clear e h
    go_enter Try.func47, Try.ntmps47
    go_wp2
    go_ret
    exact ⟨rfl, rfl⟩

set_option maxRecDepth 100000 in
set_option maxHeartbeats 1000000 in
theorem good_any (w : World) (v : Value) (m : List (List UInt8)) (hv : RMat w v m) :
    Calls Try.prog 24 #[v] w fun e w' => e = .returned (.bool (goodM m)) ∧ Below w.heap.size w w' := by
  have hv0 := hv
  obtain ⟨A, c, rfl, hc1, hc2, hcell⟩ := hv.shape
  by_cases h1 : 1 ≤ m.length ∧ m.length ≤ 16
  · obtain ⟨h1a, h1b⟩ := h1
    obtain ⟨b, off, rfl, hr⟩ := hcell (by omega)
    obtain ⟨x0, hx0, hr0⟩ := hr 0 (by omega)
    obtain ⟨A0, c0, rfl, hd1, hd2, _⟩ := hr0.shape
    rw [Nat.add_zero] at hx0
    have hbl : b < w.heap.size := World.block_lt_of_cell? w _ hx0
    by_cases h2 : 1 ≤ (m.getD 0 []).length ∧ (m.getD 0 []).length ≤ 16
    · obtain ⟨h2a, h2b⟩ := h2
      have hW : ∀ o, RMat (w.alloc o) (.slice (some ⟨b, off, none⟩) m.length c) m := fun o => hv0.below ((Below.refl _ _).alloc (Nat.le_refl _) o)
      have hCF : ∀ W, W = w.alloc (.cells #[.slice (some ⟨b, off, none⟩) m.length c] 24) →
          Calls Try.prog 46 #[.slice (some ⟨b, off, none⟩) m.length c, .func (.func 47) #[] #[.pointer (some ⟨w.heap.size, 0, none⟩)]] W
            fun e w' => e = .returned (.bool (!goodM m)) ∧ W = w' := by
        rintro W rfl
        have hb := Blk.new w 24 #[Value.slice (some ⟨b, off, none⟩) m.length c]
        obtain ⟨vs, hl, hvs, hrs⟩ := hW (.cells #[.slice (some ⟨b, off, none⟩) m.length c] 24)
        have hM := hW (.cells #[.slice (some ⟨b, off, none⟩) m.length c] 24)
        have hcl := contains_good _ _ vs hvs ⟨w.heap.size, 0, none⟩ (fun r => decide ((m.getD r []).length ≠ (m.getD 0 []).length))
          (fun r hr => goodc_any _ m _ _ hM (hb.cell 0) (by omega) _ _ (hrs r (by omega)))
        refine hcl.mono ?_
        rintro e w' ⟨rfl, rfl⟩
        refine ⟨?_, rfl⟩
        congr 2
        have hs := firstI_spec vs.length (fun r => decide ((m.getD r []).length ≠ (m.getD 0 []).length)) 0
        rw [Nat.zero_add, hl] at hs
        rw [hl]
        rcases hs with ⟨e1, e2⟩ | ⟨j, _, e2, e3, e4⟩
        · rw [e1]
          have hg : goodM m = true := by
            unfold goodM
            rw [decide_eq_true_iff]
            refine ⟨h1a, h1b, h2a, h2b, fun r hr => ?_⟩
            have := e2 r (by omega) hr
            simpa using this
          rw [hg]; decide
        · rw [e3]
          have hg : goodM m = false := by
            unfold goodM
            rw [decide_eq_false_iff_not]
            rintro ⟨_, _, _, _, h5⟩
            exact (of_decide_eq_true e4) (h5 j e2)
          rw [hg]
          have : (0 : Int) ≤ (j : Int) := by omega
          simp
      have HC := Lib.hid hCF; clear hCF hW hr hcell hr0 hv hv0
      generalize hg : goodM m = G at *
      have HG := Lib.hid hg; clear hg
      generalize (m.getD 0 []).length = k at *
      generalize m.length = n at *
      go_enter Try.func24, Try.ntmps24
      go_wp2_with fail
      refine (may_yes _ (by omega) (by omega) _).mono ?_
      rintro e w' ⟨rfl, rfl⟩
      go_wp2_with fail
      refine (may_yes _ (by omega) (by omega) _).mono ?_
      rintro e w' ⟨rfl, rfl⟩
      go_wp2_with fail
      refine (HC.out _ rfl).mono ?_
      rintro e w' ⟨rfl, rfl⟩
      go_wp2
      go_ret
      exact ⟨rfl, (Below.refl _ _).alloc (Nat.le_refl _) _⟩
    · have hg := good_no (m := m) (by rintro ⟨_, _, h3, h4⟩; exact h2 ⟨h3, h4⟩)
      rw [hg]
      have h3 : (((m.getD 0 []).length : Nat) : Int) < 1 ∨ 16 < (((m.getD 0 []).length : Nat) : Int) := by omega
      have H3 := Lib.hid h3
      clear hg h2 hr hcell hr0 hv hv0 h3
      generalize (m.getD 0 []).length = k at *
      generalize m.length = n at *
      go_enter Try.func24, Try.ntmps24
      go_wp2_with fail
      refine (may_yes _ (by omega) (by omega) _).mono ?_
      rintro e w' ⟨rfl, rfl⟩
      go_wp2_with fail
      refine (may_no _ H3.out _).mono ?_
      rintro e w' ⟨rfl, rfl⟩
      go_wp2
      go_ret
      exact ⟨rfl, (Below.refl _ _).alloc (Nat.le_refl _) _⟩
  · have hg := good_no (m := m) (by rintro ⟨h3, h4, _, _⟩; exact h1 ⟨h3, h4⟩)
    rw [hg]
    have h3 : ((m.length : Nat) : Int) < 1 ∨ 16 < ((m.length : Nat) : Int) := by omega
    have H3 := Lib.hid h3
    clear hg h1 hcell hv hv0 h3
    generalize m.length = n at *
    go_enter Try.func24, Try.ntmps24
    go_wp2_with fail
    refine (may_no _ H3.out _).mono ?_
    rintro e w' ⟨rfl, rfl⟩
    go_wp2
    go_ret
    exact ⟨rfl, (Below.refl _ _).alloc (Nat.le_refl _) _⟩
end Go.Proofs.Ytgphfhpobppmeaa
