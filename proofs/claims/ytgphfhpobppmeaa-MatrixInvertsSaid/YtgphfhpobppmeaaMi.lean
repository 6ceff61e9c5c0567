/-
  What Invert's answer is: plain.
-/
import Derived.Test.YtgphfhpobppmeaaWz
namespace Go.Proofs.Ytgphfhpobppmeaa
open GfM
theorem drop_getD (l : List UInt8) (n c : Nat) : (l.drop n).getD c 0 = l.getD (n + c) 0 := by
  simp [List.getD_eq_getElem?_getD, List.getElem?_drop]
theorem half_rows (n : Nat) (m : List (List UInt8)) (r c : Nat) (hr : r < n) : en ((List.range n).map fun r => (m.getD r []).drop n) r c = half n m r c := by
  have h : ((List.range n).map fun r => (m.getD r []).drop n).getD r [] = (m.getD r []).drop n := by
    rw [List.getD_eq_getElem?_getD, List.getElem?_map, List.getElem?_range hr]; rfl
  unfold half en
  rw [h]
  exact drop_getD _ _ _
/-- Invert's answer at a square matrix. -/
theorem invR_sq {A X : List (List UInt8)} {e : Int} (h : InvR A X e) (hg : goodM A = true) (hs : A.length = (A.getD 0 []).length) :
    (e = 0 ∧ Shp X A.length A.length ∧ IsInv A.length (en A) (en X)) ∨ (e = 6 ∧ X = [] ∧ Sing A.length (en A)) := by
  have hS : Shp A A.length A.length := ⟨rfl, fun r hr => by rw [((good_iff A).1 hg).2.2.2.2.2 r hr, ← hs]⟩
  cases h with
  | bad h => rw [hg] at h; cases h
  | shape _ h => exact absurd hs h
  | done _ _ h =>
    cases h with
    | sing h1 h2 h3 h4 => exact .inr ⟨rfl, rfl, h1.singular hS _ h2 h3 h4⟩
    | @ok m h1 h2 =>
      refine .inl ⟨rfl, ⟨by simp, fun r hr => ?_⟩, ?_⟩
      · rw [List.getD_eq_getElem?_getD, List.getElem?_map, List.getElem?_range hr]
        show ((m.getD r []).drop A.length).length = A.length
        rw [List.length_drop, (h1.shp (aug_shp hS)).2 r hr]
        omega
      · have hi := h1.inverse hS fun r j hr hj => h2 r j hr hj
        refine ⟨fun r c hr hc => ?_, fun r c hr hc => ?_⟩
        · rw [← hi.1 r c hr hc]
          exact mm_congr _ (fun j _ => rfl) (fun j hj => half_rows _ m j c hj)
        · rw [← hi.2 r c hr hc]
          exact mm_congr _ (fun j _ => half_rows _ m r j hr) (fun j _ => rfl)
theorem shp_ext {A B : List (List UInt8)} {n k : Nat} (hA : Shp A n k) (hB : Shp B n k) (h : ∀ r c, r < n → c < k → en A r c = en B r c) : A = B := by
  apply List.ext_getElem (by rw [hA.1, hB.1])
  intro r h1 h2
  have hr : r < n := by rw [← hA.1]; exact h1
  have e1 : A.getD r [] = A[r] := by simp [h1]
  have e2 : B.getD r [] = B[r] := by simp [h2]
  have l1 := hA.2 r hr
  have l2 := hB.2 r hr
  rw [e1] at l1
  rw [e2] at l2
  apply List.ext_getElem (by omega)
  intro c c1 c2
  have := h r c hr (by omega)
  unfold en at this
  rw [e1, e2] at this
  simpa [List.getD_eq_getElem?_getD, c1, c2] using this
/-- where there is an inverse, that is the answer. -/
theorem invR_of {A X Y : List (List UInt8)} {e : Int} {n : Nat} (h : InvR A X e) (hn1 : 1 ≤ n) (hn2 : n ≤ 16) (hA : Shp A n n) (hY : Shp Y n n) (hi : IsInv n (en A) (en Y)) : X = Y ∧ e = 0 := by
  have h0 := hA.2 0 (by omega)
  have hg : goodM A = true := (good_iff A).2 ⟨by rw [hA.1]; exact hn1, by rw [hA.1]; exact hn2, by omega, by omega, ⟨rfl, fun r hr => by rw [hA.2 r (by rw [← hA.1]; exact hr), h0]⟩⟩
  have hs : A.length = (A.getD 0 []).length := by rw [hA.1, h0]
  have hlen := hA.1
  rcases invR_sq h hg hs with ⟨he, hX, hXi⟩ | ⟨_, _, hsing⟩
  · rw [hlen] at hX hXi
    refine ⟨shp_ext hX hY fun r c hr hc => ?_, he⟩
    exact left_right n (en A) (en X) (en Y) hXi.2 hi.1 r c hr hc
  · rw [hlen] at hsing
    exact absurd hsing (inv_not_sing n (en A) (en Y) hi.2)
/-! ### what the document fixes -/
def wkA : List (List UInt8) := [[1, 1], [1, 2]]
def wkX : List (List UInt8) := [[0xf5, 0xf4], [0xf4, 0xf4]]
theorem wkA_shp : Shp wkA 2 2 := ⟨rfl, fun r hr => by
  have : r = 0 ∨ r = 1 := by omega
  rcases this with rfl | rfl <;> rfl⟩
theorem wkX_shp : Shp wkX 2 2 := ⟨rfl, fun r hr => by
  have : r = 0 ∨ r = 1 := by omega
  rcases this with rfl | rfl <;> rfl⟩
theorem wk_inv : IsInv 2 (en wkA) (en wkX) := by
  constructor
  all_goals
    intro r c hr hc
    have h1 : r = 0 ∨ r = 1 := by omega
    have h2 : c = 0 ∨ c = 1 := by omega
    rcases h1 with rfl | rfl <;> rcases h2 with rfl | rfl <;> decide
theorem wk_of {X : List (List UInt8)} {e : Int} (h : InvR wkA X e) : X = wkX ∧ e = 0 := invR_of h (by decide) (by decide) wkA_shp wkX_shp wk_inv
theorem wkX_good : goodM wkX = true := by decide
end Go.Proofs.Ytgphfhpobppmeaa
