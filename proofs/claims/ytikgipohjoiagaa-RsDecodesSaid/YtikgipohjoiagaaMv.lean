/-
  Powers of unlike elements have no kernel: plain.
-/
import Derived.Test.YtikgipohjoiagaaMi
namespace Go.Proofs.Ytikgipohjoiagaa
open GfM
theorem xor_eq {a b : UInt8} (h : a ^^^ b = 0) : a = b := by
  have : (a ^^^ b) ^^^ b = 0 ^^^ b := by rw [h]
  rwa [UInt8.xor_assoc, UInt8.xor_self, UInt8.xor_zero, UInt8.zero_xor] at this
/-- unlike elements' powers. -/
theorem vander_ker (n : Nat) : ∀ (x v : Nat → UInt8), (∀ i j, i < n → j < n → x i = x j → i = j) → (∀ r, r < n → sx n (fun j => mul (pw (x j) r) (v j)) = 0) → ∀ j, j < n → v j = 0 := by
  induction n with
  | zero => intro x v _ _ j hj; omega
  | succ n ih =>
    intro x v hx h
    have hsum : ∀ r, r < n → sx n (fun j => mul (pw (x j) r) (mul (x j ^^^ x n) (v j))) = 0 := by
      intro r hr
      have h1 := h (r + 1) (by omega)
      have h2 := h r (by omega)
      have e : ∀ j, mul (pw (x j) r) (mul (x j ^^^ x n) (v j)) = mul (pw (x j) (r + 1)) (v j) ^^^ mul (x n) (mul (pw (x j) r) (v j)) := by
        intro j
        rw [add_mul, mul_add, pw_succ, mul_assoc, ← mul_assoc (x n), mul_comm (x n) (pw (x j) r), mul_assoc]
      have h3 : sx (n + 1) (fun j => mul (pw (x j) r) (mul (x j ^^^ x n) (v j))) = 0 := by
        rw [sx_congr (n + 1) (fun j _ => e j), sx_add, h1, ← sx_mul, h2, mul_zero, UInt8.xor_zero]
      have h4 : sx (n + 1) (fun j => mul (pw (x j) r) (mul (x j ^^^ x n) (v j))) = sx n (fun j => mul (pw (x j) r) (mul (x j ^^^ x n) (v j))) ^^^ mul (pw (x n) r) (mul (x n ^^^ x n) (v n)) := rfl
      rw [h4, UInt8.xor_self, zero_mul, mul_zero, UInt8.xor_zero] at h3
      exact h3
    have hw := ih x (fun j => mul (x j ^^^ x n) (v j)) (fun i j hi hj e => hx i j (by omega) (by omega) e) hsum
    have hv : ∀ j, j < n → v j = 0 := by
      intro j hj
      rcases (mul_eq_zero _ _).1 (hw j hj) with h0 | h0
      · have := hx j n (by omega) (by omega) (xor_eq h0)
        omega
      · exact h0
    intro j hj
    by_cases e : j < n
    · exact hv j e
    · obtain rfl : j = n := by omega
      have h0 := h 0 (by omega)
      have h1 : sx (j + 1) (fun i => mul (pw (x i) 0) (v i)) = sx j (fun i => mul (pw (x i) 0) (v i)) ^^^ mul (pw (x j) 0) (v j) := rfl
      rw [h1, sx_all_zero j (fun i hi => by rw [hv i hi, mul_zero]), pw_zero, one_mul, UInt8.zero_xor] at h0
      exact h0
/-- the rows of powers at columns cs. -/
def pkM (n : Nat) (cs : List Nat) : List (List UInt8) := (List.range n).map fun r => cs.map fun c => ex (r * c)
theorem pkM_row (n : Nat) (cs : List Nat) (r : Nat) (h : r < n) : (pkM n cs).getD r [] = cs.map fun c => ex (r * c) := by
  unfold pkM
  rw [List.getD_eq_getElem?_getD, List.getElem?_map, List.getElem?_range h]; rfl
theorem pkM_shp (n : Nat) (cs : List Nat) : Shp (pkM n cs) n cs.length := ⟨by simp [pkM], fun r hr => by rw [pkM_row n cs r hr]; simp⟩
theorem ex_inj {i j : Nat} (hi : i < 255) (hj : j < 255) (h : ex i = ex j) : i = j := by rw [← lo_ex hi, ← lo_ex hj, h]
/-- as many unlike columns as rows: it can be undone. -/
theorem powers_law {X : List (List UInt8)} {e : Int} {n : Nat} {cs : List Nat} (h : InvR (pkM n cs) X e) (h1 : 1 ≤ n) (h2 : n ≤ 16) (hl : cs.length = n) (h16 : ∀ c ∈ cs, c < 16) (hnd : cs.Nodup) : e = 0 := by
  have hS : Shp (pkM n cs) n n := by have := pkM_shp n cs; rwa [hl] at this
  have h0 := hS.2 0 (by omega)
  have hg : goodM (pkM n cs) = true := (good_iff _).2 ⟨by rw [hS.1]; exact h1, by rw [hS.1]; exact h2, by omega, by omega, ⟨rfl, fun r hr => by rw [hS.2 r (by rw [← hS.1]; exact hr), h0]⟩⟩
  have hs : (pkM n cs).length = ((pkM n cs).getD 0 []).length := by rw [hS.1, h0]
  rcases invR_sq h hg hs with ⟨he, _, _⟩ | ⟨_, _, hsing⟩
  · exact he
  · exfalso
    rw [hS.1] at hsing
    obtain ⟨v, ⟨k, hk, hvk⟩, hz⟩ := hsing
    apply hvk
    refine vander_ker n (fun j => ex (cs.getD j 0)) v ?_ ?_ k hk
    · intro i j hi hj e
      have m1 : cs.getD i 0 ∈ cs := by rw [List.getD_eq_getElem?_getD, List.getElem?_eq_getElem (by omega)]; exact List.getElem_mem _
      have m2 : cs.getD j 0 ∈ cs := by rw [List.getD_eq_getElem?_getD, List.getElem?_eq_getElem (by omega)]; exact List.getElem_mem _
      have e2 := ex_inj (by have := h16 _ m1; omega) (by have := h16 _ m2; omega) e
      have hi' : i < cs.length := by omega
      have hj' : j < cs.length := by omega
      rw [List.getD_eq_getElem?_getD, List.getElem?_eq_getElem hi', List.getD_eq_getElem?_getD, List.getElem?_eq_getElem hj'] at e2
      exact (List.getElem_inj hnd).1 e2
    · intro r hr
      rw [← hz r hr]
      refine sx_congr n fun j hj => ?_
      congr 1
      unfold en
      rw [pkM_row n cs r hr]
      have hj' : j < cs.length := by omega
      have e1 : (cs.map fun c => ex (r * c)).getD j 0 = ex (r * cs[j]) := by simp [hj']
      have e2 : cs.getD j 0 = cs[j] := by simp [hj']
      rw [e1]
      show pw (ex (cs.getD j 0)) r = _
      rw [e2, pw_ex, Nat.mul_comm]
end Go.Proofs.Ytikgipohjoiagaa
