/-
  Small words for the rows of the laws: texts among the arguments.
-/
import Derived.Test.YtikgipohjoiagaaSx
import Derived.ProofKit
import Derived.OpenShut
import Derived.SliceStrings
namespace Go.Proofs.Ytikgipohjoiagaa
open Go.ChangeShapes Go.WideShapes
theorem spot_none {w : World} {a : Addr} {v : Value} (h : w.cell? a = some v) : a = ⟨a.block, a.off, none⟩ := by
  obtain ⟨b, o, s⟩ := a
  cases s with
  | none => rfl
  | some s =>
    unfold World.cell? at h
    split at h <;> simp at h
theorem open_strs {H : Type} {enc : TypeId × Value → H} {P : Program} {w : World} {base : Nat} {sp : Nat → Bool} {held : Bool} {r : Reach} {b0 : Nat} {t e : TypeId} {v : Value} {d : DataW H} {ps : List MemPlace}
    (ht : P.underlying t = some (.slice e)) (he : P.underlying e = some .string) (hc : P.cellsOf e = 1) (hval : Value.okWide P w r b0 t v) (h : DataW.Trod enc P w base sp held t v d ps) :
    ∃ T : List ByteArray, Reads w v (sv T) ∧ ∀ i, i < T.length → (tl T i).size ≤ maxLen := by
  obtain ⟨a0, len0, cap0, rfl⟩ := okWide_slice ht hval
  obtain ⟨fuel, hf⟩ := h
  rcases open_strings ht he hc hf with ⟨hcs, hx⟩ | ⟨a, len', cap', ss, hcs, _, hl, hm, hz, hx, hcell, hsz⟩
  · simp only [Value.cells, Array.toList] at hcs
    have e0 : (Value.slice a0 len0 cap0) = .slice none 0 0 := by simpa [Value.cells] using hcs
    rw [e0]
    exact ⟨[], ⟨none, 0, rfl, by simp [sv], by omega, fun h => absurd h (by simp [sv])⟩, fun i hi => absurd hi (by simp)⟩
  · have e0 : (Value.slice a0 len0 cap0) = .slice (some a) len' cap' := by simpa [Value.cells] using hcs
    rw [e0]
    have hlss : len' ≤ ss.length := by rw [hz]; split <;> omega
    have hlt : (ss.take len').length = len' := by rw [List.length_take]; omega
    refine ⟨ss.take len', ⟨some a, cap', by rw [sv_length, hlt], by rw [sv_length, hlt]; exact hl, by simpa [maxLen] using hm, fun hp => ?_⟩, fun i hi => ?_⟩
    · rw [sv_length, hlt] at hp
      have h0 := hcell 0 (by omega)
      have ea : a.add 0 = a := by simp [Addr.add]
      rw [ea] at h0
      have hs := spot_none h0
      refine ⟨a.block, a.off, by rw [← hs], fun j hj => ?_⟩
      rw [sv_length, hlt] at hj
      have hj' := hcell j (by omega)
      rw [hs, add_plain] at hj'
      rw [hj', sv_at _ _ (by rw [hlt]; exact hj)]
      congr 2
      unfold tl
      simp only [List.getD_eq_getElem?_getD]
      rw [List.getElem?_take, if_pos hj]
    · apply hsz
      rw [hlt] at hi
      have : tl (ss.take len') i = ss.getD i ByteArray.empty := by
        unfold tl
        simp only [List.getD_eq_getElem?_getD]
        rw [List.getElem?_take, if_pos hi]
      rw [this]
      have : i < ss.length := by omega
      simp [this]
end Go.Proofs.Ytikgipohjoiagaa
