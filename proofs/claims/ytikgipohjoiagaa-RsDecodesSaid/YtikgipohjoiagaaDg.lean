/-
  The walk of rs.generator.
-/
import Derived.Test.YtikgipohjoiagaaWd
import Derived.Test.YtikgipohjoiagaaAp
namespace Go.Proofs.Ytikgipohjoiagaa
open Go.RowKit GfM

/-- the matrix that makes all chunks. -/
def genM (k : Nat) : List (List UInt8) := idM k ++ vdM 2 k
theorem genM_length (k : Nat) : (genM k).length = k + 2 := by unfold genM; rw [List.length_append, idM_length, vdM_length]
/-- an own matrix's outer row, and its rows. -/
theorem OM.own {w : World} {base G n : Nat} {row : Nat → List UInt8} (h : OM w base G n n row) (hn : n ≤ 1000) : ∃ (vs : List Value), vs.length = n ∧ Own w base 33 (.slice (some ⟨G, 0, none⟩) n n) vs ∧ (∀ u ∈ vs, u.oneCell' = true) ∧
    ∀ r, r < n → ∃ g c, vs.getD r undef = .slice (some ⟨g, 0, none⟩) (row r).length c ∧ Bytes w g (row r) c := by
  obtain ⟨h1, _, gs, ks, h3, h4, _⟩ := h
  have hl : (outer n n row gs ks).toList.length = n := by rw [Array.length_toList, outer_size]
  refine ⟨(outer n n row gs ks).toList, hl, ⟨by simp, .inr ⟨G, n, outer n n row gs ks, by rw [hl], h1, h3, by rw [hl]; exact Nat.le_refl _, by simp only [maxLen]; omega, by rw [outer_size, Nat.mul_one], ?_⟩⟩, ?_, fun r hr => ?_⟩
  · rw [hl, Nat.mul_one, List.take_of_length_le (by rw [hl]; exact Nat.le_refl _)]
  · intro u hu
    obtain ⟨i, hi, he⟩ := List.getElem_of_mem hu
    rw [hl] at hi
    have := outer_at n n row gs ks i hi
    rw [if_pos hi] at this
    rw [← Array.getElem?_toList, List.getElem?_eq_getElem (by rw [hl]; exact hi), he] at this
    injection this with this
    rw [this]; rfl
  · refine ⟨gs r, ks r, ?_, (h4 r hr).2⟩
    rw [List.getD_eq_getElem?_getD, Array.getElem?_toList, outer_at _ _ _ _ _ _ hr, if_pos hr]
    rfl
theorem rows_other : (5 : Nat) ≠ 33 := by decide
theorem Bytes.own_ne {w : World} {base g c : Nat} {l : List UInt8} {v : Value} {xs : List Value} (h : Bytes w g l c) (ho : Own w base 33 v xs) : some g ≠ v.ownBlock := by
  rcases ho.2 with ⟨rfl, _⟩ | ⟨g', cap, cur, rfl, _, hh, _⟩
  · simp [Value.ownBlock]
  · have := h.ne_ (t := 33) (cs := cur) hh rows_other
    simpa [Value.ownBlock] using this

set_option maxRecDepth 100000 in
set_option maxHeartbeats 1000000 in
theorem generator_any (k : Nat) (h1 : 1 ≤ k) (h2 : k ≤ 8) (w : World) :
    Calls Try.prog 32 #[.int .i64 k] w fun e w' => ∃ v, e = .returned v ∧ RMat w' v (genM k) ∧ Below w.heap.size w w' := by
  have ha := identity_om k (by omega) (by omega) w
  have hv := fun W => vandermonde_om 2 k (by omega) (by omega) (by omega) (by omega) W
  have HA := Lib.hid ha; clear ha
  have HV := Lib.hid hv; clear hv
  go_enter Try.func32, Try.ntmps32
  go_wp2_with fail
  refine (HA.out).mono ?_
  rintro e w1 ⟨rfl, hM1, hB1⟩
  go_wp2_with fail
  refine (HV.out _).mono ?_
  rintro e w2 ⟨rfl, hM2, hb2⟩
  have hB2 := below_then hB1 hB1.size hb2
  have hM1' := hM1.below hb2
  obtain ⟨vs, hvs, hO, _, hrows⟩ := hM1'.own (by omega)
  obtain ⟨us, hus, hP, hone, hrows2⟩ := hM2.own (by omega)
  have hL : (vs.length + us.length) * 24 ≤ 140737488355328 := by rw [hvs, hus]; omega
  have HL := Lib.hid hL; clear hL
  have HO := Lib.hid hO; clear hO
  have HR := Lib.hid hP.reads; clear hP
  have HONE := Lib.hid hone; clear hone
  have HR1 := Lib.hid hrows; clear hrows
  have HR2 := Lib.hid hrows2; clear hrows2
  clear hM1 hM2 hM1' hb2 hB1
  go_wp2_with (at_builtin; refine append_many w.heap.size rfl (.tmp 17) (.tmp 18) 60 33 (.slice none 0 0) 24 rfl Try.underlying60 infoB rfl (by decide) _ vs _ us rfl rfl HR.out HONE.out HO.out hB2 hB2.size HL.out ?_; intro v1 w3 hO3 hB3 hg3 _)
  have hRM : RMat w3 v1 (genM k) := by
    refine ⟨vs ++ us, by rw [List.length_append, hvs, hus, genM_length], hO3.reads, fun r hr => ?_⟩
    rw [genM_length] at hr
    unfold genM
    by_cases e : r < k
    · obtain ⟨g, c, e1, e2⟩ := HR1.out r e
      have e3 := e2.grown hg3 (e2.own_ne HO.out)
      rw [List.getD_eq_getElem?_getD, List.getElem?_append_left (by omega), ← List.getD_eq_getElem?_getD, e1, List.getD_eq_getElem?_getD (l := idM k ++ vdM 2 k), List.getElem?_append_left (by rw [idM_length]; exact e), ← List.getD_eq_getElem?_getD]
      exact e3.reads
    · obtain ⟨g, c, e1, e2⟩ := HR2.out (r - k) (by omega)
      have e3 := e2.grown hg3 (e2.own_ne HO.out)
      rw [List.getD_eq_getElem?_getD, List.getElem?_append_right (by omega), hvs, ← List.getD_eq_getElem?_getD, e1, List.getD_eq_getElem?_getD (l := idM k ++ vdM 2 k), List.getElem?_append_right (by rw [idM_length]; omega), idM_length, ← List.getD_eq_getElem?_getD]
      exact e3.reads
  go_ret
  exact ⟨_, rfl, hRM, hB3⟩
end Go.Proofs.Ytikgipohjoiagaa
