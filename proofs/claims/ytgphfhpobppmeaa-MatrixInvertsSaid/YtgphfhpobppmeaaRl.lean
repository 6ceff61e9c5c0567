/-
  The walks of cofferdamlaw03.same, of the document's Identity and Vandermonde.
-/
import Derived.Test.YtgphfhpobppmeaaRk
namespace Go.Proofs.Ytgphfhpobppmeaa
open Go.RowKit GfM

theorem ba_inj3 {a b : ByteArray} : a.toList = b.toList ↔ a = b := by
  rw [ByteArray.toList_eq, ByteArray.toList_eq]
  refine ⟨fun h => ?_, fun h => by rw [h]⟩
  rw [← bs_data a, ← bs_data b, h]
theorem rows_ext {A B : List (List UInt8)} (hl : A.length = B.length) (h : ∀ r, r < A.length → A.getD r [] = B.getD r []) : A = B := by
  apply List.ext_getElem hl
  intro r h1 h2
  have := h r h1
  simpa [List.getD_eq_getElem?_getD, h1, h2] using this

set_option maxRecDepth 100000 in
set_option maxHeartbeats 1000000 in
theorem same_any (w : World) (va vb : Value) (A B : List (List UInt8)) (hA : RMat w va A) (hB : RMat w vb B) :
    Calls Try.prog 15 #[va, vb] w fun e w' => e = .returned (.bool (decide (A = B))) ∧ Below w.heap.size w w' := by
  obtain ⟨A1, c1, rfl, _, _, hcA⟩ := hA.shape
  obtain ⟨A2, c2, rfl, _, _, hcB⟩ := hB.shape
  by_cases hl : A.length = B.length
  · have hb := bneN_same hl
    have HA := Lib.hid hcA
    have HB := Lib.hid hcB
    have hend : (∀ r, r < A.length → A.getD r [] = B.getD r []) → decide (A = B) = true := fun h => decide_eq_true (rows_ext hl h)
    have hbad : ∀ r, ¬ A.getD r [] = B.getD r [] → decide (A = B) = false := fun r h => decide_eq_false (fun e => h (by rw [e]))
    have HE := Lib.hid hend
    have HN := Lib.hid hbad
    have hlB : ∀ r, r < A.length → r < B.length := fun r hr => by omega
    have HLB := Lib.hid hlB
    clear hcA hcB hend hbad hlB hl hA hB
    generalize hnn : A.length = n at *
    generalize hmm2 : B.length = k at *
    have HNN := Lib.hid hnn
    have HKK := Lib.hid hmm2
    clear hnn hmm2
    go_enter Try.func15, Try.ntmps15
    go_wp2
    go_loopw [5, 13] (fun _ s13 wr => ∃ i : Nat, i ≤ n ∧ s13 = .int .i64 i ∧ Hid (∀ r, r < i → A.getD r [] = B.getD r []) ∧ Below w.heap.size w wr) (fun _ s13 _ => n - (intOf s13).toNat)
    case atStart => exact ⟨0, by omega, rfl, Lib.hid (fun r hr => absurd hr (by omega)), Below.refl _ _⟩
    case round =>
      obtain ⟨i, hi, rfl, HI, hB⟩ := hrel
      by_cases hlt : i < n
      · have hik := HLB.out i hlt
        obtain ⟨b1, o1, rfl, hr1⟩ := HA.out (by omega)
        obtain ⟨b2, o2, rfl, hr2⟩ := HB.out (by omega)
        obtain ⟨x1, hx1, hR1⟩ := hr1 i (by omega)
        obtain ⟨x2, hx2, hR2⟩ := hr2 i (by omega)
        clear hr1 hr2
        have hk1 := (hB.cell (World.block_lt_of_cell? w _ hx1)).trans hx1
        have hk2 := (hB.cell (World.block_lt_of_cell? w _ hx2)).trans hx2
        have hv1 := reads_string (P := Try.prog) (src := 37) (dst := 9) Try.underlying37 Try.underlying5 Try.underlying9 (hR1.below hB).drew
        have hv2 := reads_string (P := Try.prog) (src := 37) (dst := 9) Try.underlying37 Try.underlying5 Try.underlying9 (hR2.below hB).drew
        clear hR1 hR2 hx1 hx2
        by_cases he : A.getD i [] = B.getD i []
        · rw [he] at hv1
          have HEQ := Lib.hid he; clear he
          generalize bs (B.getD i []) = s at *
          go_wp2
          go_region
          go_wp2
          go_roundw
          case rel => exact ⟨i + 1, by omega, by go_num, Lib.hid (fun r hr => by
            by_cases e : r < i
            · exact HI.out r e
            · obtain rfl : r = i := by omega
              exact HEQ.out), hB.drew⟩
          case measure => simp [intOf]; omega
        · have hne : ¬ bs (A.getD i []) = bs (B.getD i []) := fun h => he (bs_inj.1 h)
          have HG := Lib.hid (HN.out i he)
          have hne2 : ¬ (bs (A.getD i [])).toList = (bs (B.getD i [])).toList := fun h => hne (ba_inj3.1 h)
          have hne3 : ((bs (A.getD i [])).toList != (bs (B.getD i [])).toList) = true := by rw [bne_iff_ne]; exact hne2
          have hne4 : ((bs (A.getD i [])).toList == (bs (B.getD i [])).toList) = false := by rw [beq_eq_false_iff_ne]; exact hne2
          clear he
          generalize bs (A.getD i []) = s1 at *
          generalize bs (B.getD i []) = s2 at *
          have HX := Lib.hid hne; clear hne
          go_wp2
          go_region
          go_wp2
          go_ret
          exact ⟨by rw [HG.out]; rfl, hB.drew⟩
      · obtain rfl : i = n := by omega
        have HG := Lib.hid (HE.out HI.out)
        go_wp2
        go_ret
        exact ⟨by rw [HG.out]; rfl, hB⟩
  · have e : decide (A = B) = false := decide_eq_false (fun e => hl (by rw [e]))
    rw [e]
    have hb := bneN hl
    clear hcA hcB hA hB e hl
    generalize A.length = n at *
    generalize B.length = k at *
    go_enter Try.func15, Try.ntmps15
    go_wp2
    go_ret
    exact ⟨rfl, Below.refl _ _⟩

/-! ### the document's Identity -/
theorem unit_set (n r : Nat) : (List.replicate n (0 : UInt8)).set r 1 = unitRow n r := rfl
theorem idM_take (n i : Nat) (h : i < n) : (idM n).take (i + 1) = (idM n).take i ++ [unitRow n i] := by
  have hl : i < (idM n).length := by rw [idM_length]; exact h
  rw [List.take_succ_eq_append_getElem hl]
  congr 2
  have := idM_row n i h
  simpa [List.getD_eq_getElem?_getD, hl] using this
theorem mkB (m : Nat) (hm : m ≤ 140737488355328) : ∀ W : World, (Instr.makeSlice 37 (.int .i64 (m : Int)) (.int .i64 (m : Int))).run Try.prog W = .ok (.slice (some ⟨W.heap.size, 0, none⟩) m m) (W.alloc (.cells (madeCells #[.int .u8 0] m) 5)) := make_bytes m hm
theorem Own.made_zero (W : World) (base n : Nat) (hb : base ≤ W.heap.size) (hn : n ≤ 1000) : Own (W.alloc (.cells (madeCells #[.int .u8 0] n) 5)) base 5 (.slice (some ⟨W.heap.size, 0, none⟩) n n) (bv (List.replicate n 0)) := by
  have h := Own.lit_ W base 5 (madeCells #[.int .u8 0] n) hb (by simp [size_madeCells, maxLen]; omega)
  have e1 : (madeCells #[Value.int .u8 0] n).size = n := by simp [size_madeCells]
  have e2 : (madeCells #[Value.int .u8 0] n).toList = bv (List.replicate n 0) := by rw [toList_madeCells_one]; simp [bv]
  rwa [e1, e2] at h
set_option maxRecDepth 100000 in
set_option maxHeartbeats 1000000 in
theorem rident_any (n : Int) (w : World) :
    Calls Try.prog 22 #[.int .i64 n] w fun e w' => ∃ v, e = .returned (.tuple #[v, .int .i64 (idOut n).2]) ∧ RMat w' v (idOut n).1 ∧ Below w.heap.size w w' := by
  by_cases h : 1 ≤ n ∧ n ≤ 16
  · obtain ⟨k, rfl⟩ : ∃ k : Nat, n = k := ⟨n.toNat, by omega⟩
    have e : idOut (k : Int) = (idM k, 0) := by unfold idOut; rw [if_pos h]; rfl
    rw [e]
    have hm := mkB k (by omega)
    have HE := Lib.hid e; clear e
    have h1 : ¬ (k : Int) < 1 := by omega
    have h2 : ¬ 16 < (k : Int) := by omega
    go_enter Try.func22, Try.ntmps22
    go_wp2
    go_loopw [4, 5, 6] (fun s4 s5 _ wr => ∃ i : Nat, i ≤ k ∧ s5 = .int .i64 i ∧ Hid (ORows wr w.heap.size s4 ((idM k).take i)) ∧ Below w.heap.size w wr) (fun _ s5 _ _ => k - (intOf s5).toNat)
    case atStart => exact ⟨0, by omega, rfl, Lib.hid (by rw [List.take_zero]; exact ORows.nil_ _ _), Below.refl _ _⟩
    case round =>
      obtain ⟨i, hi, rfl, HO, hB⟩ := hrel
      by_cases hlt : i < k
      · obtain ⟨vs, v1, v2, v3⟩ := HO.out
        have hlen : ((idM k).take i).length = i := by rw [List.length_take, idM_length]; omega
        have hL : (vs.length + 1) * 24 ≤ 140737488355328 := by rw [v1, hlen]; omega
        have HL := Lib.hid hL; clear hL hlen
        have hrow := Own.made_zero wr w.heap.size k hB.size (by omega)
        have hrl : (bv (List.replicate k 0)).length = k := by simp [bv]
        have hrow' : Own (wr.alloc (.cells (madeCells #[.int .u8 0] k) 5)) w.heap.size 5 (.slice (some ⟨wr.heap.size, 0, none⟩) (bv (List.replicate k 0)).length k) (bv (List.replicate k 0)) := by rw [hrl]; exact hrow
        have hcz := hrow'.cell i (by rw [hrl]; exact hlt)
        rw [bv_at _ _ (by simp; exact hlt)] at hcz
        have hfz := hrow'.frozen i
        have hst := hrow'.set_ i (.int .u8 ((1 : UInt8).toNat : Int))
        rw [bv_set, hrl, unit_set] at hst
        have hB2 := (hB.alloc hB.size (.cells (madeCells #[.int .u8 0] k) 5)).setCell (p := ⟨wr.heap.size, i, none⟩) hB.size (.int .u8 ((1 : UInt8).toNat : Int))
        have hV2 := (v2.alloc (.cells (madeCells #[.int .u8 0] k) 5)).far (p := ⟨wr.heap.size, i, none⟩) (fun h => Nat.lt_irrefl _ (v2.lt _ h).2) (.int .u8 ((1 : UInt8).toNat : Int))
        have hV3 := fun r hr => ((v3 r hr).alloc (.cells (madeCells #[.int .u8 0] k) 5)).far (p := ⟨wr.heap.size, i, none⟩) (fun h => Nat.lt_irrefl _ ((v3 r hr).lt _ h).2) (.int .u8 ((1 : UInt8).toNat : Int))
        have hone : ((1 : UInt8).toNat : Int) = 1 := rfl
        rw [hone] at hst hB2 hV2 hV3
        obtain ⟨W2, hW2⟩ : ∃ W2, (wr.alloc (.cells (madeCells #[.int .u8 0] k) 5)).setCell ⟨wr.heap.size, i, none⟩ (.int .u8 1) = W2 := ⟨_, rfl⟩
        rw [hW2] at hst hB2 hV2 hV3
        have HST := Lib.hid hst; clear hst
        have HV2 := Lib.hid hV2; clear hV2
        have HV3 := Lib.hid hV3; clear hV3
        have HB2 := Lib.hid hB2; clear hB2
        have HB2S := Lib.hid HB2.out.size
        have HT := Lib.hid (idM_take k i hlt)
        have H1 := Lib.hid v1; clear v1 v2 v3 hrow hrow' hone hrl
        generalize ((List.replicate k (0 : UInt8)).getD i 0) = z at *
        go_wp2_with (at_builtin; refine append_one w.heap.size rfl (.tmp 23) (.tmp 25) 22 37 (.slice none 0 0) 24 rfl Try.underlying22 infoB rfl (by decide) _ vs (.slice (some ⟨wr.heap.size, 0, none⟩) k k) rfl rfl rfl HV2.out HB2.out HB2S.out HL.out ?_; intro v4 w3 hO4 hB4 hg4 _
                     have hOR := ORows.push H1.out HV2.out HV3.out HST.out hg4 hO4
                     rw [← HT.out] at hOR)
        go_roundw
        case rel => exact ⟨i + 1, by omega, by go_num, Lib.hid hOR, hB4⟩
        case measure => simp [intOf]; omega
      · obtain rfl : i = k := by omega
        have hr := HO.out.reads
        rw [List.take_of_length_le (by rw [idM_length]; omega)] at hr
        go_wp2
        go_ret2
        exact ⟨_, rfl, hr, hB⟩
  · have e : idOut n = ([], 2) := by unfold idOut; rw [if_neg h]
    rw [e]
    by_cases h1 : n < 1
    · go_enter Try.func22, Try.ntmps22
      go_wp2
      go_ret2
      exact ⟨_, rfl, RMat.nil_ _, Below.refl _ _⟩
    · have h2 : 16 < n := by omega
      go_enter Try.func22, Try.ntmps22
      go_wp2
      go_ret2
      exact ⟨_, rfl, RMat.nil_ _, Below.refl _ _⟩
end Go.Proofs.Ytgphfhpobppmeaa
