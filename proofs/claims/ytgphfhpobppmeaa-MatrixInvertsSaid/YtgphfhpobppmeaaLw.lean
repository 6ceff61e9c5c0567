/-
  Small words for the rows of the laws: rows of bytes among the arguments.
-/
import Derived.Test.YtgphfhpobppmeaaWn
import Derived.ProofKit
import Derived.OpenShut
import Derived.ChangeSlices
namespace Go.Proofs.Ytgphfhpobppmeaa
open Go.ChangeShapes Go.WideShapes
theorem spot_none3 {w : World} {a : Addr} {v : Value} (h : w.cell? a = some v) : a = ⟨a.block, a.off, none⟩ := by
  obtain ⟨b, o, s⟩ := a
  cases s with
  | none => rfl
  | some s =>
    unfold World.cell? at h
    split at h <;> simp at h
section
variable {H : Type} {enc : TypeId × Value → H} {P : Program} {w : World} {base : Nat} {sp : Nat → Bool} {held : Bool}
/-- a row of bytes. -/
theorem open_brow {e b : TypeId} {fuel : Nat} {cs : List Value} {x : DataW H × List MemPlace} (he : P.underlying e = some (.slice b)) (hb : P.underlying b = some (.int .u8)) (hcb : P.cellsOf b = 1)
    (h : DataW.trod enc P w base sp held fuel e cs = some x) : ∃ v l, cs = [v] ∧ Reads w v (bv l) := by
  rcases open_ints he hb hcb h with ⟨hcs, _⟩ | ⟨a, len, cap, zs, hcs, _, hl, hm, hz, _, hcell, hwf⟩
  · exact ⟨_, [], hcs, none, 0, rfl, by simp [bv], by omega, fun h => absurd h (by simp [bv])⟩
  · have hlz : len ≤ zs.length := by rw [hz]; split <;> omega
    have hlt : ((zs.take len).map fun z => UInt8.ofNat z.toNat).length = len := by rw [List.length_map, List.length_take]; omega
    refine ⟨_, (zs.take len).map fun z => UInt8.ofNat z.toNat, hcs, some a, cap, by rw [bv_length, hlt], by rw [bv_length, hlt]; exact hl, by simpa [maxLen] using hm, fun hp => ?_⟩
    rw [bv_length, hlt] at hp
    have h0 := hcell 0 (by omega)
    have ea : a.add 0 = a := by simp [Addr.add]
    rw [ea] at h0
    have hs := spot_none3 h0
    refine ⟨a.block, a.off, by rw [← hs], fun j hj => ?_⟩
    rw [bv_length, hlt] at hj
    have hj' := hcell j (by omega)
    rw [hs, add_plain] at hj'
    rw [hj', bv_at _ _ (by rw [hlt]; exact hj)]
    have hjz : j < zs.length := by omega
    have hb8 := bounds_u8 (hwf (zs.getD j 0) (by rw [List.getD_eq_getElem?_getD, List.getElem?_eq_getElem hjz]; exact List.getElem_mem hjz))
    have e1 : ((zs.take len).map fun z => UInt8.ofNat z.toNat).getD j 0 = UInt8.ofNat (zs.getD j 0).toNat := by
      rw [List.getD_eq_getElem?_getD, List.getElem?_map, List.getElem?_take, if_pos hj, List.getElem?_eq_getElem hjz, List.getD_eq_getElem?_getD, List.getElem?_eq_getElem hjz]
      rfl
    have hlt8 : (zs.getD j 0).toNat < 2 ^ 8 := by omega
    rw [e1, UInt8.toNat_ofNat', Nat.mod_eq_of_lt hlt8]
    congr 2
    omega
/-- rows of bytes. -/
theorem open_rows {r : Reach} {b0 : Nat} {t e b : TypeId} {v : Value} {d : DataW H} {ps : List MemPlace}
    (ht : P.underlying t = some (.slice e)) (he : P.underlying e = some (.slice b)) (hb : P.underlying b = some (.int .u8)) (hc : P.cellsOf e = 1) (hcb : P.cellsOf b = 1)
    (hval : Value.okWide P w r b0 t v) (h : DataW.Trod enc P w base sp held t v d ps) : ∃ m : List (List UInt8), RMat w v m := by
  obtain ⟨a0, len0, cap0, rfl⟩ := okWide_slice ht hval
  obtain ⟨fuel, hf⟩ := h
  rcases DataW.trod_slice ht hf with ⟨hcs, _⟩ | ⟨a, len, cap, elems, rest, n, _, hcs, _, _, hl, hm, hlen, hel, _, _⟩
  · have e0 : (Value.slice a0 len0 cap0) = .slice none 0 0 := by simpa [Value.cells] using hcs
    rw [e0]
    exact ⟨[], [], rfl, ⟨none, 0, rfl, Nat.le_refl _, by omega, fun h => absurd h (by simp)⟩, fun r hr => absurd hr (by simp)⟩
  · have e0 : (Value.slice a0 len0 cap0) = .slice (some a) len cap := by simpa [Value.cells] using hcs
    rw [e0]
    have each : ∀ i, i < len → ∃ p : Value × List UInt8, w.cell? (a.add i) = some p.1 ∧ Reads w p.1 (bv p.2) := by
      intro i hi
      have h1 := hel i hi
      rw [hc, Nat.mul_one] at h1
      have hie : i < elems.length := by omega
      rw [List.getElem?_eq_getElem hie, Option.bind_eq_some_iff] at h1
      obtain ⟨cs', hcs', hy⟩ := h1
      obtain ⟨v, l, rfl, hR⟩ := open_brow he hb hcb hy
      exact ⟨(v, l), cell_of_cells?_one hcs', hR⟩
    obtain ⟨f, hf⟩ : ∃ f : Nat → Value × List UInt8, ∀ i, i < len → w.cell? (a.add i) = some (f i).1 ∧ Reads w (f i).1 (bv (f i).2) :=
      ⟨fun i => if h : i < len then (each i h).choose else (undef, []), fun i hi => by simp only [dif_pos hi]; exact (each i hi).choose_spec⟩
    refine ⟨(List.range len).map fun i => (f i).2, (List.range len).map fun i => (f i).1, by simp, ⟨some a, cap, by simp, by simpa using hl, by simpa [maxLen] using hm, fun hp => ?_⟩, fun r hr => ?_⟩
    · have hp' : 0 < len := by simpa using hp
      have h0 := (hf 0 hp').1
      have ea : a.add 0 = a := by simp [Addr.add]
      rw [ea] at h0
      have hs := spot_none3 h0
      refine ⟨a.block, a.off, by rw [← hs], fun j hj => ?_⟩
      have hj' : j < len := by simpa using hj
      have h1 := (hf j hj').1
      rw [hs, add_plain] at h1
      rw [h1, List.getElem?_map, List.getElem?_range hj']
      rfl
    · have hr' : r < len := by simpa using hr
      have h1 := (hf r hr').2
      rw [List.getD_eq_getElem?_getD, List.getD_eq_getElem?_getD, List.getElem?_map, List.getElem?_map, List.getElem?_range hr']
      exact h1
end
end Go.Proofs.Ytgphfhpobppmeaa
