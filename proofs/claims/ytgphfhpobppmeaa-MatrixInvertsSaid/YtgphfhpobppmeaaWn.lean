/-
  Words on memory for rows of rows; the walks of the library's IndexFunc and ContainsFunc at rows, and of matrix.Good.
-/
import Derived.Test.YtgphfhpobppmeaaWc
import Derived.Test.YtgphfhpobppmeaaMx
namespace Go.Proofs.Ytgphfhpobppmeaa
open Go.RowKit GfM

/-! ### a matrix that is read -/
/-- The slice value v reads as the rows m. -/
def RMat (w : World) (v : Value) (m : List (List UInt8)) : Prop :=
  ∃ vs : List Value, vs.length = m.length ∧ Reads w v vs ∧ ∀ r, r < m.length → Reads w (vs.getD r undef) (bv (m.getD r []))
section
variable {w w' : World} {v : Value} {m : List (List UInt8)}
theorem RMat.below (h : RMat w v m) (hb : Below w.heap.size w w') : RMat w' v m := by
  obtain ⟨vs, h1, h2, h3⟩ := h
  exact ⟨vs, h1, h2.below hb, fun r hr => (h3 r hr).below hb⟩
theorem RMat.len (h : RMat w v m) : m.length ≤ 9223372036854775807 := by
  obtain ⟨vs, h1, h2, h3⟩ := h
  have := h2.len
  omega
/-- its shape; a row's cell, and what the row's cell holds. -/
theorem RMat.shape (h : RMat w v m) : ∃ A c, v = .slice A m.length c ∧ m.length ≤ c ∧ c ≤ 9223372036854775807 ∧
    (0 < m.length → ∃ b off, A = some ⟨b, off, none⟩ ∧ ∀ r, r < m.length → ∃ x, w.cell? ⟨b, off + r, none⟩ = some x ∧ Reads w x (bv (m.getD r []))) := by
  obtain ⟨vs, h1, ⟨A, c, rfl, hc1, hc2, hcell⟩, h3⟩ := h
  refine ⟨A, c, by rw [h1], by omega, hc2, fun hp => ?_⟩
  obtain ⟨b, off, rfl, hc⟩ := hcell (by omega)
  refine ⟨b, off, rfl, fun r hr => ⟨vs.getD r undef, ?_, h3 r hr⟩⟩
  rw [hc r (by omega), List.getElem?_eq_getElem (by omega), List.getD_eq_getElem?_getD, List.getElem?_eq_getElem (by omega)]
  rfl
theorem Reads.shape {l : List UInt8} (h : Reads w v (bv l)) : ∃ A c, v = .slice A l.length c ∧ l.length ≤ c ∧ c ≤ 9223372036854775807 ∧
    (0 < l.length → ∃ b off, A = some ⟨b, off, none⟩ ∧ ∀ j, j < l.length → w.cell? ⟨b, off + j, none⟩ = some (.int .u8 ((l.getD j 0).toNat : Int))) := by
  obtain ⟨A, c, rfl, h1, h2, h3⟩ := h
  rw [bv_length] at *
  refine ⟨A, c, rfl, h1, h2, fun hp => ?_⟩
  obtain ⟨b, off, rfl, hc⟩ := h3 hp
  exact ⟨b, off, rfl, fun j hj => by rw [hc j hj, bv_at l j hj]⟩
end

/-! ### the first index at which p holds -/
def firstI : Nat → (Nat → Bool) → Nat → Int
  | 0, _, _ => -1
  | k + 1, p, i => if p i = true then (i : Int) else firstI k p (i + 1)
theorem firstI_step (n i : Nat) (p : Nat → Bool) (h : i < n) (hp : p i = false) : firstI (n - i) p i = firstI (n - (i + 1)) p (i + 1) := by
  obtain ⟨k, hk⟩ : ∃ k, n - i = k + 1 := ⟨n - i - 1, by omega⟩
  rw [hk, show n - (i + 1) = k by omega]
  show (if p i = true then _ else _) = _
  rw [if_neg (by rw [hp]; decide)]
theorem firstI_hit (n i : Nat) (p : Nat → Bool) (h : i < n) (hp : p i = true) : firstI (n - i) p i = (i : Int) := by
  obtain ⟨k, hk⟩ : ∃ k, n - i = k + 1 := ⟨n - i - 1, by omega⟩
  rw [hk]
  show (if p i = true then _ else _) = _
  rw [if_pos hp]
theorem firstI_spec (k : Nat) (p : Nat → Bool) : ∀ i, (firstI k p i = -1 ∧ ∀ j, i ≤ j → j < i + k → p j = false) ∨ (∃ j : Nat, i ≤ j ∧ j < i + k ∧ firstI k p i = (j : Int) ∧ p j = true) := by
  induction k with
  | zero => intro i; exact .inl ⟨rfl, fun j h1 h2 => by omega⟩
  | succ k ih =>
    intro i
    by_cases h : p i = true
    · exact .inr ⟨i, by omega, by omega, by show (if p i = true then _ else _) = _; rw [if_pos h], h⟩
    · have e : firstI (k + 1) p i = firstI k p (i + 1) := by show (if p i = true then _ else _) = _; rw [if_neg h]
      rw [e]
      rcases ih (i + 1) with ⟨h1, h2⟩ | ⟨j, h1, h2, h3, h4⟩
      · refine .inl ⟨h1, fun j hj1 hj2 => ?_⟩
        by_cases e : j = i
        · subst e; simpa using h
        · exact h2 j (by omega) (by omega)
      · exact .inr ⟨j, by omega, by omega, h3, h4⟩

set_option maxRecDepth 100000 in
set_option maxHeartbeats 400000 in
theorem index_good (w : World) (v : Value) (xs : List Value) (hv : Reads w v xs) (a : Addr) (p : Nat → Bool)
    (hF : ∀ r, r < xs.length → Calls Try.prog 47 #[xs.getD r undef, .pointer (some a)] w fun e w' => e = .returned (.bool (p r)) ∧ w = w') :
    Calls Try.prog 27 #[v, .func (.func 47) #[] #[.pointer (some a)]] w fun e w' => e = .returned (.int .i64 (firstI xs.length p 0)) ∧ w = w' := by
  obtain ⟨A, c, rfl, hc1, hc2, hcell⟩ := hv
  have HC := Lib.hid hcell; clear hcell
  have HF := Lib.hid hF; clear hF
  obtain ⟨n, hn⟩ : ∃ n, xs.length = n := ⟨_, rfl⟩
  rw [hn] at hc1 ⊢
  have HN := Lib.hid hn; clear hn
  go_enter Try.func27, Try.ntmps27
  go_wp2
  go_loop [5, 8] (fun _ s8 => ∃ i : Nat, i ≤ n ∧ s8 = .int .i64 i ∧ firstI (n - i) p i = firstI n p 0) (fun _ s8 => n - (intOf s8).toNat)
  case atStart => exact ⟨0, by omega, rfl, by simp⟩
  case round =>
    obtain ⟨i, hi, rfl, hg⟩ := hrel
    have HG := Lib.hid hg; clear hg
    by_cases hlt : i < n
    · have hil : i < xs.length := by rw [HN.out]; exact hlt
      obtain ⟨b, off, rfl, hcell⟩ := HC.out (by omega)
      have hx := hcell i hil
      rw [List.getElem?_eq_getElem hil] at hx
      have hf := HF.out i hil
      rw [List.getD_eq_getElem?_getD, List.getElem?_eq_getElem hil] at hf
      simp only [Option.getD_some] at hf
      generalize xs[i] = x at *
      have HX := Lib.hid hf; clear hf hcell
      by_cases hp : p i = true
      · have hh := firstI_hit n i p hlt hp
        have HH := Lib.hid hh; clear hh
        rw [hp] at HX
        clear hp
        go_wp2_with fail
        refine (HX.out).mono ?_
        rintro e w' ⟨rfl, rfl⟩
        go_wp2
        go_ret
        exact ⟨by rw [← HG.out, HH.out]; rfl, rfl⟩
      · have hp' : p i = false := by simpa using hp
        have hh := firstI_step n i p hlt hp'
        have HH := Lib.hid hh; clear hh
        rw [hp'] at HX
        clear hp hp'
        go_wp2_with fail
        refine (HX.out).mono ?_
        rintro e w' ⟨rfl, rfl⟩
        go_wp2
        go_round
        case rel => exact ⟨i + 1, by omega, by go_num, by rw [← HH.out]; exact HG.out⟩
        case measure => simp [intOf]; omega
    · obtain rfl : i = n := by omega
      go_wp2
      go_ret
      refine ⟨?_, rfl⟩
      rw [← HG.out, Nat.sub_self]
      rfl
set_option maxRecDepth 100000 in
set_option maxHeartbeats 400000 in
theorem contains_good (w : World) (v : Value) (xs : List Value) (hv : Reads w v xs) (a : Addr) (p : Nat → Bool)
    (hF : ∀ r, r < xs.length → Calls Try.prog 47 #[xs.getD r undef, .pointer (some a)] w fun e w' => e = .returned (.bool (p r)) ∧ w = w') :
    Calls Try.prog 46 #[v, .func (.func 47) #[] #[.pointer (some a)]] w fun e w' => e = .returned (.bool (decide (0 ≤ firstI xs.length p 0))) ∧ w = w' := by
  have hc := index_good w v xs hv a p hF
  generalize firstI xs.length p 0 = z at *
  have HC := Lib.hid hc; clear hc hF hv
  go_enter Try.func46, Try.ntmps46
  go_wp2_with fail
  refine (HC.out).mono ?_
  rintro e w' ⟨rfl, rfl⟩
  go_wp2
  all_goals (go_ret; exact ⟨rfl, rfl⟩)
set_option maxRecDepth 100000 in
set_option maxHeartbeats 400000 in
theorem index_invert (w : World) (v : Value) (xs : List Value) (hv : Reads w v xs) (a : Addr) (p : Nat → Bool)
    (hF : ∀ r, r < xs.length → Calls Try.prog 28 #[xs.getD r undef, .pointer (some a)] w fun e w' => e = .returned (.bool (p r)) ∧ w = w') :
    Calls Try.prog 27 #[v, .func (.func 28) #[] #[.pointer (some a)]] w fun e w' => e = .returned (.int .i64 (firstI xs.length p 0)) ∧ w = w' := by
  obtain ⟨A, c, rfl, hc1, hc2, hcell⟩ := hv
  have HC := Lib.hid hcell; clear hcell
  have HF := Lib.hid hF; clear hF
  obtain ⟨n, hn⟩ : ∃ n, xs.length = n := ⟨_, rfl⟩
  rw [hn] at hc1 ⊢
  have HN := Lib.hid hn; clear hn
  go_enter Try.func27, Try.ntmps27
  go_wp2
  go_loop [5, 8] (fun _ s8 => ∃ i : Nat, i ≤ n ∧ s8 = .int .i64 i ∧ firstI (n - i) p i = firstI n p 0) (fun _ s8 => n - (intOf s8).toNat)
  case atStart => exact ⟨0, by omega, rfl, by simp⟩
  case round =>
    obtain ⟨i, hi, rfl, hg⟩ := hrel
    have HG := Lib.hid hg; clear hg
    by_cases hlt : i < n
    · have hil : i < xs.length := by rw [HN.out]; exact hlt
      obtain ⟨b, off, rfl, hcell⟩ := HC.out (by omega)
      have hx := hcell i hil
      rw [List.getElem?_eq_getElem hil] at hx
      have hf := HF.out i hil
      rw [List.getD_eq_getElem?_getD, List.getElem?_eq_getElem hil] at hf
      simp only [Option.getD_some] at hf
      generalize xs[i] = x at *
      have HX := Lib.hid hf; clear hf hcell
      by_cases hp : p i = true
      · have hh := firstI_hit n i p hlt hp
        have HH := Lib.hid hh; clear hh
        rw [hp] at HX
        clear hp
        go_wp2_with fail
        refine (HX.out).mono ?_
        rintro e w' ⟨rfl, rfl⟩
        go_wp2
        go_ret
        exact ⟨by rw [← HG.out, HH.out]; rfl, rfl⟩
      · have hp' : p i = false := by simpa using hp
        have hh := firstI_step n i p hlt hp'
        have HH := Lib.hid hh; clear hh
        rw [hp'] at HX
        clear hp hp'
        go_wp2_with fail
        refine (HX.out).mono ?_
        rintro e w' ⟨rfl, rfl⟩
        go_wp2
        go_round
        case rel => exact ⟨i + 1, by omega, by go_num, by rw [← HH.out]; exact HG.out⟩
        case measure => simp [intOf]; omega
    · obtain rfl : i = n := by omega
      go_wp2
      go_ret
      refine ⟨?_, rfl⟩
      rw [← HG.out, Nat.sub_self]
      rfl
set_option maxRecDepth 100000 in
set_option maxHeartbeats 400000 in
theorem contains_invert (w : World) (v : Value) (xs : List Value) (hv : Reads w v xs) (a : Addr) (p : Nat → Bool)
    (hF : ∀ r, r < xs.length → Calls Try.prog 28 #[xs.getD r undef, .pointer (some a)] w fun e w' => e = .returned (.bool (p r)) ∧ w = w') :
    Calls Try.prog 46 #[v, .func (.func 28) #[] #[.pointer (some a)]] w fun e w' => e = .returned (.bool (decide (0 ≤ firstI xs.length p 0))) ∧ w = w' := by
  have hc := index_invert w v xs hv a p hF
  generalize firstI xs.length p 0 = z at *
  have HC := Lib.hid hc; clear hc hF hv
  go_enter Try.func46, Try.ntmps46
  go_wp2_with fail
  refine (HC.out).mono ?_
  rintro e w' ⟨rfl, rfl⟩
  go_wp2
  all_goals (go_ret; exact ⟨rfl, rfl⟩)
end Go.Proofs.Ytgphfhpobppmeaa
