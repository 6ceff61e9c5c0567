/-
  The elimination, step by step, on lists of rows. Plain Lean.
-/
import Derived.Test.YtgphfhpobppmeaaMx
namespace Go.Proofs.Ytgphfhpobppmeaa.GfM

/-- columns below c are the identity's. -/
def Unit (n c : Nat) (m : List (List UInt8)) : Prop := ∀ r j, r < n → j < c → en m r j = dl r j
section
variable {m : List (List UInt8)} {n K c r : Nat}
theorem Unit.swap (h : Unit n c m) (hs : Shp m n K) {p : Nat} (hc : c < n) (hcp : c ≤ p) (hp : p < n) : Unit n c (swapM m c p) := by
  intro r j hr hj
  rw [en_swap hs hc hp]
  by_cases e1 : r = p
  · rw [if_pos e1, h c j hc hj]; unfold dl; rw [if_neg (by omega), if_neg (by omega)]
  · rw [if_neg e1]
    by_cases e2 : r = c
    · rw [if_pos e2, h p j hp hj]; unfold dl; rw [if_neg (by omega), if_neg (by omega)]
    · rw [if_neg e2]; exact h r j hr hj
theorem Unit.scale (h : Unit n c m) (hs : Shp m n K) (hc : c < n) (f : UInt8) : Unit n c (scaleM m c f) := by
  intro r j hr hj
  rw [en_scale hs hc]
  by_cases e : r = c
  · rw [if_pos e, h c j hc hj]; unfold dl; rw [if_neg (by omega), if_neg (by omega), mul_zero]
  · rw [if_neg e]; exact h r j hr hj
/-- while column c is cleared: r rows are done. -/
def Clearing (n c r : Nat) (m : List (List UInt8)) : Prop := Unit n c m ∧ en m c c = 1 ∧ ∀ s, s < r → s ≠ c → en m s c = 0
theorem Clearing.start (h : Unit n c m) (hs : Shp m n K) (hc : c < n) (hne : en m c c ≠ 0) : Clearing n c 0 (scaleM m c (inv (en m c c))) := by
  refine ⟨h.scale hs hc _, ?_, fun s hs => absurd hs (by omega)⟩
  rw [en_scale hs hc, if_pos rfl, inv_mul hne]
/-- the step at row r. -/
def clearStep (m : List (List UInt8)) (c r : Nat) : List (List UInt8) := if r = c then m else addM m r c (en m r c)
theorem clearStep_shp (hs : Shp m n K) (hc : c < n) (hr : r < n) : Shp (clearStep m c r) n K := by
  unfold clearStep
  split
  · exact hs
  · exact add_shp hs hr hc _
theorem Clearing.step (h : Clearing n c r m) (hs : Shp m n K) (hc : c < n) (hr : r < n) : Clearing n c (r + 1) (clearStep m c r) := by
  obtain ⟨h1, h2, h3⟩ := h
  unfold clearStep
  by_cases e : r = c
  · rw [if_pos e]
    exact ⟨h1, h2, fun s hs hne => h3 s (by omega) hne⟩
  · rw [if_neg e]
    refine ⟨fun i j hi hj => ?_, ?_, fun s hs' hne => ?_⟩
    · rw [en_add hs hr hc]
      by_cases e1 : i = r
      · rw [if_pos e1, h1 c j hc hj]
        have : dl c j = 0 := by unfold dl; rw [if_neg (by omega)]
        rw [this, mul_zero, xor_zero, e1]; exact h1 r j hr hj
      · rw [if_neg e1]; exact h1 i j hi hj
    · rw [en_add hs hr hc, if_neg (fun h => e h.symm)]; exact h2
    · rw [en_add hs hr hc]
      by_cases e1 : s = r
      · rw [if_pos e1, h2, mul_one, UInt8.xor_self]
      · rw [if_neg e1]; exact h3 s (by omega) hne
theorem Clearing.done (h : Clearing n c n m) : Unit n (c + 1) m := by
  obtain ⟨h1, h2, h3⟩ := h
  intro r j hr hj
  by_cases e : j = c
  · subst e
    by_cases e2 : r = j
    · subst e2; rw [h2]; unfold dl; rw [if_pos rfl]
    · rw [h3 r hr e2]; unfold dl; rw [if_neg e2]
  · exact h1 r j hr (by omega)
theorem Steps.clearStep {A : List (List UInt8)} (h : Steps n A m) (hc : c < n) (hr : r < n) : Steps n A (clearStep m c r) := by
  unfold GfM.clearStep
  split
  · exact h
  · rename_i e; exact h.add hr hc e
end
/-- what Invert tells of a matrix of n rows and columns. -/
inductive InvOut (A : List (List UInt8)) (n : Nat) : List (List UInt8) → Int → Prop
  | sing {m c} : Steps n (aug A n) m → c < n → Unit n c m → (∀ r, c ≤ r → r < n → en m r c = 0) → InvOut A n [] 6
  | ok {m} : Steps n (aug A n) m → Unit n n m → InvOut A n ((List.range n).map fun r => (m.getD r []).drop n) 0
theorem aug_set (x : List UInt8) (n r : Nat) (hx : x.length = n) : (x ++ List.replicate n 0).set (n + r) 1 = x ++ unitRow n r := by
  unfold unitRow
  rw [List.set_append_right _ _ (by omega), hx, show n + r - n = r by omega]
end Go.Proofs.Ytgphfhpobppmeaa.GfM
