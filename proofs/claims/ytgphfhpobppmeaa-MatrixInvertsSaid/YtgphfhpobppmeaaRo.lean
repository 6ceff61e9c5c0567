/-
  Rows of rows that the call makes by appends; the walks of the document's Good, Identity, Vandermonde, Mul.
-/
import Derived.Test.YtgphfhpobppmeaaWe
import Derived.Test.YtgphfhpobppmeaaAp
namespace Go.Proofs.Ytgphfhpobppmeaa
open Go.RowKit GfM

/-- The slice value v is a row of the call's own; in it stand the rows m, each the call's own. -/
def ORows (w : World) (base : Nat) (v : Value) (m : List (List UInt8)) : Prop :=
  ∃ vs : List Value, vs.length = m.length ∧ Own w base 37 v vs ∧ ∀ r, r < m.length → Own w base 5 (vs.getD r undef) (bv (m.getD r []))
section
variable {w w' : World} {base : Nat} {v : Value} {m : List (List UInt8)}
theorem ORows.nil_ (w : World) (base : Nat) : ORows w base (.slice none 0 0) [] := ⟨[], rfl, Own.nil_ _ _ _, fun r hr => absurd hr (by simp)⟩
theorem ORows.below (h : ORows w base v m) (hb : Below w.heap.size w w') : ORows w' base v m := by
  obtain ⟨vs, h1, h2, h3⟩ := h
  exact ⟨vs, h1, h2.below hb, fun r hr => (h3 r hr).below hb⟩
theorem ORows.alloc (h : ORows w base v m) (o : Obj) : ORows (w.alloc o) base v m := h.below ((Below.refl _ _).alloc (Nat.le_refl _) o)
theorem ORows.drewN (h : ORows w base v m) (n : Nat) : ORows (w.drewN n) base v m := h
theorem ORows.reads (h : ORows w base v m) : RMat w v m := by
  obtain ⟨vs, h1, h2, h3⟩ := h
  exact ⟨vs, h1, h2.reads, fun r hr => (h3 r hr).reads⟩
theorem bytes_ne_rows : (5 : Nat) ≠ 37 := by decide
theorem ORows.push {y v1 : Value} {l : List UInt8} {vs : List Value} (hlen : vs.length = m.length) (hv : Own w base 37 v vs) (h3 : ∀ r, r < m.length → Own w base 5 (vs.getD r undef) (bv (m.getD r []))) (hy : Own w base 5 y (bv l))
    (hg : w.grownBy w' v.ownBlock) (h1 : Own w' base 37 v1 (vs ++ [y])) : ORows w' base v1 (m ++ [l]) := by
  refine ⟨vs ++ [y], by simp [hlen], h1, fun r hr => ?_⟩
  rw [List.length_append] at hr
  by_cases e : r < m.length
  · rw [List.getD_eq_getElem?_getD, List.getElem?_append_left (by omega), ← List.getD_eq_getElem?_getD, List.getD_eq_getElem?_getD (l := m ++ [l]), List.getElem?_append_left e, ← List.getD_eq_getElem?_getD]
    exact (h3 r e).keep hg ((h3 r e).ne_ hv bytes_ne_rows)
  · obtain rfl : r = m.length := by simp at hr; omega
    have e1 : (vs ++ [y]).getD m.length undef = y := by rw [← hlen]; simp
    have e2 : (m ++ [l]).getD m.length [] = l := by simp
    rw [e1, e2]
    exact hy.keep hg (hy.ne_ hv bytes_ne_rows)
end
theorem bneN {a b : Nat} (h : a ≠ b) : (((a : Nat) : Int) != ((b : Nat) : Int)) = true := by rw [bne_iff_ne]; omega
theorem bneN_same {a b : Nat} (h : a = b) : (((a : Nat) : Int) != ((b : Nat) : Int)) = false := by rw [h]; simp
end Go.Proofs.Ytgphfhpobppmeaa
