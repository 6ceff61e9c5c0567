/-
  The walks of cofferdamlaw03.copied and few.
-/
import Derived.Test.YtgphfhpobppmeaaRn
import Derived.StillTailTactics
namespace Go.Proofs.Ytgphfhpobppmeaa
open Go.RowKit GfM

theorem below_none {w w' : World} (h : w.grownBy w' none) : Below w.heap.size w w' := ⟨h.os, h.tape, h.output, h.size, fun i hi => h.block i hi (by simp)⟩
theorem bv_one' (l : List UInt8) : ∀ u ∈ bv l, u.oneCell' = true := by
  intro u hu
  simp [bv] at hu
  obtain ⟨_, _, rfl⟩ := hu
  rfl
theorem Own.cut {w : World} {base g L c : Nat} {e : TypeId} {xs : List Value} (h : Own w base e (.slice (some ⟨g, 0, none⟩) L c) xs) (k : Nat) (hk : k ≤ xs.length) : Own w base e (.slice (some ⟨g, 0, none⟩) k c) (xs.take k) := by
  have hl : (xs.take k).length = k := by rw [List.length_take]; omega
  refine ⟨by simp, ?_⟩
  rcases h.2 with ⟨h1, _⟩ | ⟨g', cap, cur, he, hb, hh, hc, hm, hs, ht⟩
  · cases h1
  · injection he with h1 h2 h3
    injection h1 with h1
    injection h1 with h1
    subst h1
    refine .inr ⟨g, cap, cur, by rw [hl, h3], hb, hh, by rw [hl]; omega, hm, hs, ?_⟩
    rw [hl, Nat.mul_one]
    rw [Nat.mul_one] at ht
    rw [← ht, List.take_take, Nat.min_eq_left hk]
theorem bv_take (l : List UInt8) (k : Nat) : (bv l).take k = bv (l.take k) := by simp [bv, List.map_take]
theorem ORows.lit0 (w : World) (base : Nat) (hb : base ≤ w.heap.size) : ORows (w.alloc (.cells #[] 37)) base (.slice (some ⟨w.heap.size, 0, none⟩) 0 0) [] :=
  ⟨[], rfl, Own.lit_ w base 37 #[] hb (by simp), fun r hr => absurd hr (by simp)⟩

set_option maxRecDepth 100000 in
set_option maxHeartbeats 1000000 in
theorem copied_any (w : World) (v : Value) (m : List (List UInt8)) (hv : RMat w v m) (hm : m.length ≤ 1000) (hr : ∀ r, r < m.length → (m.getD r []).length ≤ 1000) :
    Calls Try.prog 12 #[v] w fun e w' => ∃ v', e = .returned v' ∧ RMat w' v' m ∧ Below w.heap.size w w' := by
  obtain ⟨A, c, rfl, hc1, hc2, hcell⟩ := hv.shape
  have HC := Lib.hid hcell; clear hcell
  have HRW := Lib.hid hr; clear hr
  have hl0 := Lib.hid (ORows.lit0 w w.heap.size (Nat.le_refl _))
  obtain ⟨n, hn⟩ : ∃ n, m.length = n := ⟨_, rfl⟩
  rw [hn] at hc1 HC hm HRW ⊢
  have HN := Lib.hid hn; clear hn hv
  go_enter Try.func12, Try.ntmps12
  go_wp2
  go_loopw [3, 5, 9] (fun s3 _ s9 wr => ∃ i : Nat, i ≤ n ∧ s9 = .int .i64 i ∧ Hid (ORows wr w.heap.size s3 (m.take i)) ∧ Below w.heap.size w wr) (fun _ _ s9 _ => n - (intOf s9).toNat)
  case atStart => exact ⟨0, by omega, rfl, Lib.hid (by rw [List.take_zero]; exact hl0.out), (Below.refl _ _).alloc (Nat.le_refl _) _⟩
  case round =>
    clear hl0
    obtain ⟨i, hi, rfl, HO, hB⟩ := hrel
    by_cases hlt : i < n
    · obtain ⟨b, off, rfl, hrow⟩ := HC.out (by omega)
      obtain ⟨x, hx, hR⟩ := hrow i hlt
      have hk := (hB.cell (World.block_lt_of_cell? w _ hx)).trans hx
      obtain ⟨vs, v1, v2, v3⟩ := HO.out
      have HRD := Lib.hid (hR.below hB)
      have HONE := Lib.hid (bv_one' (m.getD i []))
      have hL1 : (([] : List Value).length + (bv (m.getD i [])).length) * 1 ≤ 140737488355328 := by rw [bv_length, List.length_nil]; have := HRW.out i hlt; omega
      have hL : (vs.length + 1) * 24 ≤ 140737488355328 := by rw [v1, List.length_take, HN.out]; omega
      have HL1 := Lib.hid hL1; clear hL1
      have HL := Lib.hid hL; clear hL
      have HNIL := Lib.hid (Own.nil_ wr w.heap.size 5)
      have HT := Lib.hid (take_rows m i (by rw [HN.out]; exact hlt))
      have H1 := Lib.hid v1; clear v1
      have H2 := Lib.hid v2; clear v2
      have H3 := Lib.hid v3; clear v3
      clear hrow hR hx
      go_wp2_with (first
        | (at_builtin; refine append_many w.heap.size rfl (.const (.slice none 0 0)) (.tmp 14) 37 5 (.int .u8 0) 1 rfl Try.underlying37 info5 rfl (by decide) _ _ _ _ rfl rfl HRD.out HONE.out HNIL.out hB hB.size HL1.out ?_; intro y w2 hO2 hB2 hg2 _
           rw [List.nil_append] at hO2
           obtain ⟨Ay, cy, rfl⟩ := hO2.shape
           have hb2 := below_none hg2
           have HV2 := Lib.hid (H2.out.below hb2)
           have HV3 := Lib.hid (fun r hr => (H3.out r hr).below hb2)
           have HY := Lib.hid hO2
           clear hO2)
        | (at_builtin; refine append_one w.heap.size rfl (.tmp 13) (.tmp 16) 24 37 (.slice none 0 0) 24 rfl Try.underlying24 infoB rfl (by decide) _ vs (.slice Ay _ cy) rfl rfl rfl HV2.out hB2 hB2.size HL.out ?_; intro v4 w3 hO4 hB4 hg4 _
           have hOR := ORows.push H1.out HV2.out HV3.out HY.out hg4 hO4
           rw [← HT.out] at hOR))
      go_roundw
      case rel => exact ⟨i + 1, by omega, by go_num, Lib.hid hOR, hB4⟩
      case measure => simp [intOf]; omega
    · obtain rfl : i = n := by omega
      have hR := HO.out.reads
      rw [List.take_of_length_le (by rw [HN.out]; omega)] at hR
      go_wp2
      go_ret
      exact ⟨_, rfl, hR, hB⟩
end Go.Proofs.Ytgphfhpobppmeaa
