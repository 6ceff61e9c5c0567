/-
  Small words for the rows of the laws: texts among the arguments.
-/
import Derived.Test.YtikgipohjoiagaaSx
import Derived.ProofKit
import Derived.OpenShut
import Derived.SliceStrings
namespace Go.Proofs.Ytikgipohjoiagaa
open Go.ChangeShapes Go.WideShapes
theorem spot_none {w : World} {a : Addr} {v : Value} (h : w.cell? a = some v) : a = ⟨a.block, a.off, none⟩ := by
  obtain ⟨b, o, s⟩ := a
  cases s with
  | none => rfl
  | some s =>
    unfold World.cell? at h
    split at h <;> simp at h
theorem open_strs {H : Type} {enc : TypeId × Value → H} {P : Program} {w : World} {base : Nat} {sp : Nat → Bool} {held : Bool} {r : Reach} {b0 : Nat} {t e : TypeId} {v : Value} {d : DataW H} {ps : List MemPlace}
    (ht : P.underlying t = some (.slice e)) (he : P.underlying e = some .string) (hc : P.cellsOf e = 1) (hval : Value.okWide P w r b0 t v) (h : DataW.Trod enc P w base sp held t v d ps) :
    ∃ T : List ByteArray, Reads w v (sv T) ∧ ∀ i, i < T.length → (tl T i).size ≤ maxLen := by
  obtain ⟨a0, len0, cap0, rfl⟩ := okWide_slice ht hval
  obtain ⟨fuel, hf⟩ := h
  rcases open_strings ht he hc hf with ⟨hcs, hx⟩ | ⟨a, len', cap', ss, hcs, _, hl, hm, hz, hx, hcell, hsz⟩
  · simp only [Value.cells, Array.toList] at hcs
    have e0 : (Value.slice a0 len0 cap0) = .slice none 0 0 := by simpa [Value.cells] using hcs
    rw [e0]
    exact ⟨[], ⟨none, 0, rfl, by simp [sv], by omega, fun h => absurd h (by simp [sv])⟩, fun i hi => absurd hi (by simp)⟩
  · have e0 : (Value.slice a0 len0 cap0) = .slice (some a) len' cap' := by simpa [Value.cells] using hcs
    rw [e0]
    have hlss : len' ≤ ss.length := by rw [hz]; split <;> omega
    have hlt : (ss.take len').length = len' := by rw [List.length_take]; omega
    refine ⟨ss.take len', ⟨some a, cap', by rw [sv_length, hlt], by rw [sv_length, hlt]; exact hl, by simpa [maxLen] using hm, fun hp => ?_⟩, fun i hi => ?_⟩
    · rw [sv_length, hlt] at hp
      have h0 := hcell 0 (by omega)
      have ea : a.add 0 = a := by simp [Addr.add]
      rw [ea] at h0
      have hs := spot_none h0
      refine ⟨a.block, a.off, by rw [← hs], fun j hj => ?_⟩
      rw [sv_length, hlt] at hj
      have hj' := hcell j (by omega)
      rw [hs, add_plain] at hj'
      rw [hj', sv_at _ _ (by rw [hlt]; exact hj)]
      congr 2
      unfold tl
      simp only [List.getD_eq_getElem?_getD]
      rw [List.getElem?_take, if_pos hj]
    · apply hsz
      rw [hlt] at hi
      have : tl (ss.take len') i = ss.getD i ByteArray.empty := by
        unfold tl
        simp only [List.getD_eq_getElem?_getD]
        rw [List.getElem?_take, if_pos hi]
      rw [this]
      have : i < ss.length := by omega
      simp [this]
theorem okWide_agg {P : Program} {w : World} {r : Reach} {b0 : Nat} {t e : TypeId} {n : Nat} {v : Value} (ht : P.underlying t = some (.array n e)) (h : Value.okWide P w r b0 t v) : ∃ xs : Array Value, v = .agg xs := by
  simp only [Value.okWide, ht] at h
  obtain ⟨cs, h1, _⟩ := h
  exact ⟨cs, h1⟩
/-- an array of n texts. -/
theorem open_sarr {H : Type} {enc : TypeId × Value → H} {P : Program} {w : World} {base : Nat} {sp : Nat → Bool} {held : Bool} {r : Reach} {b0 : Nat} {t e : TypeId} {n : Nat} {v : Value} {d : DataW H} {ps : List MemPlace}
    (ht : P.underlying t = some (.array n e)) (he : P.underlying e = some .string) (hc : P.cellsOf e = 1) (hct : P.cellsOf t = n) (hval : Value.okWide P w r b0 t v) (h : DataW.Trod enc P w base sp held t v d ps) :
    ∃ T : List ByteArray, T.length = n ∧ v = .agg (sv T).toArray := by
  obtain ⟨xs, rfl⟩ := okWide_agg ht hval
  obtain ⟨fuel, hf⟩ := h
  obtain ⟨ys, m, _, _, hl, hy, hel⟩ := DataW.trod_array ht hf
  have hx : (Value.agg xs).cells.toList = xs.toList := rfl
  rw [hx] at hl hel
  rw [hct] at hl
  have hcell : ∀ i, i < n → ∃ s, xs.toList[i]? = some (.string s) := by
    intro i hi
    have h1 := hel i hi
    rw [hc, Nat.mul_one] at h1
    have hyi : i < ys.length := by omega
    rw [List.getElem?_eq_getElem hyi] at h1
    obtain ⟨s, hs, _⟩ := DataW.trod_string he h1
    refine ⟨s, ?_⟩
    have h2 := congrArg (fun l : List Value => l[0]?) hs
    simpa [List.getElem?_take] using h2
  refine ⟨xs.toList.map fun u => (match u with | .string s => s | _ => ByteArray.empty), by simpa using hl, ?_⟩
  congr 1
  apply Array.ext'
  apply List.ext_getElem?
  intro i
  by_cases hi : i < n
  · obtain ⟨s, hs⟩ := hcell i hi
    rw [hs]
    simp only [sv, List.map_map, List.getElem?_map, hs]
    rfl
  · rw [List.getElem?_eq_none (by omega), List.getElem?_eq_none (by simp [sv]; simpa using (by omega : xs.toList.length ≤ i))]
/-- an array of n numbers. -/
theorem open_iarr {H : Type} {enc : TypeId × Value → H} {P : Program} {w : World} {base : Nat} {sp : Nat → Bool} {held : Bool} {r : Reach} {b0 : Nat} {t e : TypeId} {n : Nat} {k : IntKind} {v : Value} {d : DataW H} {ps : List MemPlace}
    (ht : P.underlying t = some (.array n e)) (he : P.underlying e = some (.int k)) (hc : P.cellsOf e = 1) (hct : P.cellsOf t = n) (hval : Value.okWide P w r b0 t v) (h : DataW.Trod enc P w base sp held t v d ps) :
    ∃ X : List Int, X.length = n ∧ v = .agg (X.map (Value.int k)).toArray := by
  obtain ⟨xs, rfl⟩ := okWide_agg ht hval
  obtain ⟨fuel, hf⟩ := h
  obtain ⟨ys, m, _, _, hl, hy, hel⟩ := DataW.trod_array ht hf
  have hx : (Value.agg xs).cells.toList = xs.toList := rfl
  rw [hx] at hl hel
  rw [hct] at hl
  have hcell : ∀ i, i < n → ∃ s, xs.toList[i]? = some (.int k s) := by
    intro i hi
    have h1 := hel i hi
    rw [hc, Nat.mul_one] at h1
    have hyi : i < ys.length := by omega
    rw [List.getElem?_eq_getElem hyi] at h1
    obtain ⟨s, hs, _⟩ := DataW.trod_int he h1
    refine ⟨s, ?_⟩
    have h2 := congrArg (fun l : List Value => l[0]?) hs
    simpa [List.getElem?_take] using h2
  refine ⟨xs.toList.map fun u => (match u with | .int _ s => s | _ => 0), by simpa using hl, ?_⟩
  congr 1
  apply Array.ext'
  apply List.ext_getElem?
  intro i
  by_cases hi : i < n
  · obtain ⟨s, hs⟩ := hcell i hi
    rw [hs]
    simp only [List.map_map, List.getElem?_map, hs]
    rfl
  · rw [List.getElem?_eq_none (by omega), List.getElem?_eq_none (by simpa using (by omega : xs.toList.length ≤ i))]
end Go.Proofs.Ytikgipohjoiagaa
