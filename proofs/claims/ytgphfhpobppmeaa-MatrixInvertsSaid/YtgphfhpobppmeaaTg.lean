/-
  The walk of cofferdamlaw03.few, of any shape.
-/
import Derived.Test.YtgphfhpobppmeaaTf
namespace Go.Proofs.Ytgphfhpobppmeaa
open Go.RowKit GfM

set_option maxRecDepth 100000 in
set_option maxHeartbeats 2000000 in
theorem fewr_any (w : World) (v : Value) (x : List (List UInt8)) (hv : RMat w v x) (q : Nat) (hq1 : 1 ≤ q) (hq : q ≤ 16) (qi : Int) (hqi : qi = q) :
    Calls Try.prog 10 #[v, .int .i64 qi, .bool false] w fun e w' => ∃ v' M, e = .returned v' ∧ RMat w' v' M ∧ M.length ≤ q ∧ (∀ r, r < M.length → (M.getD r []).length ≤ q) ∧ Below w.heap.size w w' := by
  subst hqi
  obtain ⟨A, c, rfl, hc1, hc2, hcell⟩ := hv.shape
  have HC := Lib.hid hcell; clear hcell hv
  have hl0 := Lib.hid (ORows.lit0 w w.heap.size (Nat.le_refl _))
  generalize hxn : x.length = k at *
  clear hxn
  by_cases hkq : k ≤ q
  · have hcmp : ¬ ((q : Int) < (k : Int)) := by omega
    go_enter Try.func10, Try.ntmps10
    go_wp2
    go_loopw [8, 9, 10, 17] (fun s8 _ _ s17 wr => ∃ i : Nat, i ≤ k ∧ s17 = .int .i64 i ∧ Hid (∃ M : List (List UInt8), M.length = i ∧ (∀ r, r < i → (M.getD r []).length ≤ q) ∧ ORows wr w.heap.size s8 M) ∧ Below w.heap.size w wr) (fun _ _ _ s17 _ => k - (intOf s17).toNat)
    case atStart => exact ⟨0, by omega, rfl, Lib.hid ⟨[], rfl, fun r hr => absurd hr (by omega), hl0.out⟩, (Below.refl _ _).alloc (Nat.le_refl _) _⟩
    case round =>
      clear hl0
      obtain ⟨i, hi, rfl, HO, hB⟩ := hrel
      by_cases hlt : i < k
      · obtain ⟨M, hM1, hM2, vs, v1, v2, v3⟩ := HO.out
        have HM2 := Lib.hid hM2; clear hM2 HO
        obtain ⟨b, off, rfl, hrow⟩ := HC.out (by omega)
        obtain ⟨xr, hx, hR⟩ := hrow i (by omega)
        have hk := (hB.cell (World.block_lt_of_cell? w _ hx)).trans hx
        have hRB := (hR.below hB)
        obtain ⟨Ar, cr, rfl, hr1, hr2, _⟩ := hRB.shape
        have hir : (i : Int) < (k : Int) := by omega
        have hL : (vs.length + 1) * 24 ≤ 140737488355328 := by rw [v1, hM1]; omega
        have HL := Lib.hid hL; clear hL
        have H1 := Lib.hid v1; clear v1
        have H2 := Lib.hid v2; clear v2
        have H3 := Lib.hid v3; clear v3
        have HM1 := Lib.hid hM1; clear hM1
        generalize hlr : x.getD i [] = l at *
        clear hlr hrow hR hx
        rcases Ar with _ | ad
        · have hl0 : l.length = 0 := by
            obtain ⟨A9, c9, he9, _, _, h9⟩ := hRB
            injection he9 with x1 x2 x3
            apply Classical.byContradiction
            intro hne
            obtain ⟨_, _, hx9, _⟩ := h9 (by rw [bv_length]; omega)
            rw [← x1] at hx9
            cases hx9
          have hll : l.length ≤ q := by omega
          have hc3 : ¬ (q < l.length) := by omega
          have hc4 : l.length ≤ cr := by omega
          clear hl0
          have hy0 := hRB.take0 l.length (by rw [bv_length]; omega)
          rw [bv_take] at hy0
          have hl2 : (l.take l.length).length = l.length := by rw [List.length_take]; omega
          have HY0 := Lib.hid hy0.drew; clear hy0
          generalize hlt2 : l.take l.length = l2 at *
          clear hlt2
          have HONE := Lib.hid (bv_one' l2)
          have hL1 : (([] : List Value).length + (bv l2).length) * 1 ≤ 140737488355328 := by rw [bv_length]; simp; omega
          have HL1 := Lib.hid hL1; clear hL1
          have hcutl : l2.length ≤ q := by omega
          have HCL := Lib.hid hcutl; clear hcutl
          clear hRB
          go_wp2
          go_still_tail 12, (by kernel_rfl)
          have HB0 := Lib.hid ((Below.refl wr.heap.size wr).drew)
          have HNI := Lib.hid (Own.nil_ wr.drew wr.heap.size 5)
          have hN1 : 1 ≤ k := by omega
          go_wp2_with (first
            | (at_builtin; refine append_many (w0 := wr) wr.heap.size rfl (.const (.slice none 0 0)) (.tmp 31) 37 5 (.int .u8 0) 1 rfl Try.underlying37 info5 rfl (by decide) _ _ _ _ rfl rfl HY0.out HONE.out HNI.out HB0.out (Nat.le_refl _) HL1.out ?_; intro y w2 hO2 hB2 _ _
               rw [List.nil_append] at hO2
               obtain ⟨Ay, cy, rfl⟩ := hO2.shape
               have HY := Lib.hid hO2
               have HV3 := Lib.hid (H2.out.below hB2)
               have hBk := below_then hB hB.size hB2
               clear hO2)
            | (at_builtin; refine append_one w.heap.size rfl (.tmp 39) (.tmp 41) 24 37 (.slice none 0 0) 24 rfl Try.underlying24 infoB rfl (by decide) _ vs (.slice Ay _ cy) rfl rfl rfl HV3.out hBk hBk.size HL.out ?_; intro v4 w4 hO4 hB4 hg4 _
               have hOR := ORows.push_row H1.out H2.out H3.out hB2 hB.size HY.out hg4 hO4))
          go_roundw
          case rel => exact ⟨i + 1, by omega, by go_num, Lib.hid ⟨_, by rw [List.length_append, HM1.out]; rfl, fun r hr => by
            by_cases e : r < i
            · rw [List.getD_eq_getElem?_getD, List.getElem?_append_left (by rw [HM1.out]; exact e), ← List.getD_eq_getElem?_getD]
              exact HM2.out r e
            · obtain rfl : r = i := by omega
              rw [List.getD_eq_getElem?_getD, List.getElem?_append_right (by rw [HM1.out]; exact Nat.le_refl _), HM1.out, Nat.sub_self]
              exact HCL.out, hOR⟩, hB4⟩
          case measure => simp [intOf]; omega
        · by_cases hll : l.length ≤ q
          · have hadd : ad.add 0 = ad := rfl
            have hc3 : ¬ (q < l.length) := by omega
            have hc4 : l.length ≤ cr := by omega
            have hy0 := hRB.take0 l.length (by rw [bv_length]; omega)
            rw [bv_take] at hy0
            have hl2 : (l.take l.length).length = l.length := by rw [List.length_take]; omega
            have HY0 := Lib.hid hy0.drew; clear hy0
            generalize hlt2 : l.take l.length = l2 at *
            clear hlt2
            have HONE := Lib.hid (bv_one' l2)
            have hL1 : (([] : List Value).length + (bv l2).length) * 1 ≤ 140737488355328 := by rw [bv_length]; simp; omega
            have HL1 := Lib.hid hL1; clear hL1
            have hcutl : l2.length ≤ q := by omega
            have HCL := Lib.hid hcutl; clear hcutl
            clear hRB
            go_wp2
            go_still_tail 12, (by kernel_rfl)
            have HB0 := Lib.hid ((Below.refl wr.heap.size wr).drew)
            have HNI := Lib.hid (Own.nil_ wr.drew wr.heap.size 5)
            have hN1 : 1 ≤ k := by omega
            go_wp2_with (first
              | (at_builtin; refine append_many (w0 := wr) wr.heap.size rfl (.const (.slice none 0 0)) (.tmp 31) 37 5 (.int .u8 0) 1 rfl Try.underlying37 info5 rfl (by decide) _ _ _ _ rfl rfl HY0.out HONE.out HNI.out HB0.out (Nat.le_refl _) HL1.out ?_; intro y w2 hO2 hB2 _ _
                 rw [List.nil_append] at hO2
                 obtain ⟨Ay, cy, rfl⟩ := hO2.shape
                 have HY := Lib.hid hO2
                 have HV3 := Lib.hid (H2.out.below hB2)
                 have hBk := below_then hB hB.size hB2
                 clear hO2)
              | (at_builtin; refine append_one w.heap.size rfl (.tmp 39) (.tmp 41) 24 37 (.slice none 0 0) 24 rfl Try.underlying24 infoB rfl (by decide) _ vs (.slice Ay _ cy) rfl rfl rfl HV3.out hBk hBk.size HL.out ?_; intro v4 w4 hO4 hB4 hg4 _
                 have hOR := ORows.push_row H1.out H2.out H3.out hB2 hB.size HY.out hg4 hO4))
            go_roundw
            case rel => exact ⟨i + 1, by omega, by go_num, Lib.hid ⟨_, by rw [List.length_append, HM1.out]; rfl, fun r hr => by
              by_cases e : r < i
              · rw [List.getD_eq_getElem?_getD, List.getElem?_append_left (by rw [HM1.out]; exact e), ← List.getD_eq_getElem?_getD]
                exact HM2.out r e
              · obtain rfl : r = i := by omega
                rw [List.getD_eq_getElem?_getD, List.getElem?_append_right (by rw [HM1.out]; exact Nat.le_refl _), HM1.out, Nat.sub_self]
                exact HCL.out, hOR⟩, hB4⟩
            case measure => simp [intOf]; omega
          · have hadd : ad.add 0 = ad := rfl
            have hc3 : q < l.length := by omega
            have hc4 : q ≤ cr := by omega
            have hy0 := hRB.take0 q (by rw [bv_length]; omega)
            rw [bv_take] at hy0
            have hl2 : (l.take q).length = q := by rw [List.length_take]; omega
            have HY0 := Lib.hid hy0.drew; clear hy0
            generalize hlt2 : l.take q = l2 at *
            clear hlt2
            have HONE := Lib.hid (bv_one' l2)
            have hL1 : (([] : List Value).length + (bv l2).length) * 1 ≤ 140737488355328 := by rw [bv_length]; simp; omega
            have HL1 := Lib.hid hL1; clear hL1
            have hcutl : l2.length ≤ q := by omega
            have HCL := Lib.hid hcutl; clear hcutl
            clear hRB
            go_wp2
            go_still_tail 12, (by kernel_rfl)
            have HB0 := Lib.hid ((Below.refl wr.heap.size wr).drew)
            have HNI := Lib.hid (Own.nil_ wr.drew wr.heap.size 5)
            have hN1 : 1 ≤ k := by omega
            go_wp2_with (first
              | (at_builtin; refine append_many (w0 := wr) wr.heap.size rfl (.const (.slice none 0 0)) (.tmp 31) 37 5 (.int .u8 0) 1 rfl Try.underlying37 info5 rfl (by decide) _ _ _ _ rfl rfl HY0.out HONE.out HNI.out HB0.out (Nat.le_refl _) HL1.out ?_; intro y w2 hO2 hB2 _ _
                 rw [List.nil_append] at hO2
                 obtain ⟨Ay, cy, rfl⟩ := hO2.shape
                 have HY := Lib.hid hO2
                 have HV3 := Lib.hid (H2.out.below hB2)
                 have hBk := below_then hB hB.size hB2
                 clear hO2)
              | (at_builtin; refine append_one w.heap.size rfl (.tmp 39) (.tmp 41) 24 37 (.slice none 0 0) 24 rfl Try.underlying24 infoB rfl (by decide) _ vs (.slice Ay _ cy) rfl rfl rfl HV3.out hBk hBk.size HL.out ?_; intro v4 w4 hO4 hB4 hg4 _
                 have hOR := ORows.push_row H1.out H2.out H3.out hB2 hB.size HY.out hg4 hO4))
            go_roundw
            case rel => exact ⟨i + 1, by omega, by go_num, Lib.hid ⟨_, by rw [List.length_append, HM1.out]; rfl, fun r hr => by
              by_cases e : r < i
              · rw [List.getD_eq_getElem?_getD, List.getElem?_append_left (by rw [HM1.out]; exact e), ← List.getD_eq_getElem?_getD]
                exact HM2.out r e
              · obtain rfl : r = i := by omega
                rw [List.getD_eq_getElem?_getD, List.getElem?_append_right (by rw [HM1.out]; exact Nat.le_refl _), HM1.out, Nat.sub_self]
                exact HCL.out, hOR⟩, hB4⟩
            case measure => simp [intOf]; omega
      · obtain rfl : i = k := by omega
        obtain ⟨M, hM1, hM2, hO⟩ := HO.out
        have hR := hO.reads
        clear HO hO
        go_wp2
        go_ret
        exact ⟨_, M, rfl, hR, by omega, fun r hr => hM2 r (by omega), hB⟩
  · have hcmp : (q : Int) < (k : Int) := by omega
    go_enter Try.func10, Try.ntmps10
    go_wp2
    go_loopw [8, 9, 10, 17] (fun s8 _ _ s17 wr => ∃ i : Nat, i ≤ q ∧ s17 = .int .i64 i ∧ Hid (∃ M : List (List UInt8), M.length = i ∧ (∀ r, r < i → (M.getD r []).length ≤ q) ∧ ORows wr w.heap.size s8 M) ∧ Below w.heap.size w wr) (fun _ _ _ s17 _ => q - (intOf s17).toNat)
    case atStart => exact ⟨0, by omega, rfl, Lib.hid ⟨[], rfl, fun r hr => absurd hr (by omega), hl0.out⟩, (Below.refl _ _).alloc (Nat.le_refl _) _⟩
    case round =>
      clear hl0
      obtain ⟨i, hi, rfl, HO, hB⟩ := hrel
      by_cases hlt : i < q
      · obtain ⟨M, hM1, hM2, vs, v1, v2, v3⟩ := HO.out
        have HM2 := Lib.hid hM2; clear hM2 HO
        obtain ⟨b, off, rfl, hrow⟩ := HC.out (by omega)
        obtain ⟨xr, hx, hR⟩ := hrow i (by omega)
        have hk := (hB.cell (World.block_lt_of_cell? w _ hx)).trans hx
        have hRB := (hR.below hB)
        obtain ⟨Ar, cr, rfl, hr1, hr2, _⟩ := hRB.shape
        have hir : (i : Int) < (k : Int) := by omega
        have hL : (vs.length + 1) * 24 ≤ 140737488355328 := by rw [v1, hM1]; omega
        have HL := Lib.hid hL; clear hL
        have H1 := Lib.hid v1; clear v1
        have H2 := Lib.hid v2; clear v2
        have H3 := Lib.hid v3; clear v3
        have HM1 := Lib.hid hM1; clear hM1
        generalize hlr : x.getD i [] = l at *
        clear hlr hrow hR hx
        rcases Ar with _ | ad
        · have hl0 : l.length = 0 := by
            obtain ⟨A9, c9, he9, _, _, h9⟩ := hRB
            injection he9 with x1 x2 x3
            apply Classical.byContradiction
            intro hne
            obtain ⟨_, _, hx9, _⟩ := h9 (by rw [bv_length]; omega)
            rw [← x1] at hx9
            cases hx9
          have hll : l.length ≤ q := by omega
          have hc3 : ¬ (q < l.length) := by omega
          have hc4 : l.length ≤ cr := by omega
          clear hl0
          have hy0 := hRB.take0 l.length (by rw [bv_length]; omega)
          rw [bv_take] at hy0
          have hl2 : (l.take l.length).length = l.length := by rw [List.length_take]; omega
          have HY0 := Lib.hid hy0.drew; clear hy0
          generalize hlt2 : l.take l.length = l2 at *
          clear hlt2
          have HONE := Lib.hid (bv_one' l2)
          have hL1 : (([] : List Value).length + (bv l2).length) * 1 ≤ 140737488355328 := by rw [bv_length]; simp; omega
          have HL1 := Lib.hid hL1; clear hL1
          have hcutl : l2.length ≤ q := by omega
          have HCL := Lib.hid hcutl; clear hcutl
          clear hRB
          go_wp2
          go_still_tail 12, (by kernel_rfl)
          have HB0 := Lib.hid ((Below.refl wr.heap.size wr).drew)
          have HNI := Lib.hid (Own.nil_ wr.drew wr.heap.size 5)
          have hN1 : 1 ≤ q := by omega
          go_wp2_with (first
            | (at_builtin; refine append_many (w0 := wr) wr.heap.size rfl (.const (.slice none 0 0)) (.tmp 31) 37 5 (.int .u8 0) 1 rfl Try.underlying37 info5 rfl (by decide) _ _ _ _ rfl rfl HY0.out HONE.out HNI.out HB0.out (Nat.le_refl _) HL1.out ?_; intro y w2 hO2 hB2 _ _
               rw [List.nil_append] at hO2
               obtain ⟨Ay, cy, rfl⟩ := hO2.shape
               have HY := Lib.hid hO2
               have HV3 := Lib.hid (H2.out.below hB2)
               have hBk := below_then hB hB.size hB2
               clear hO2)
            | (at_builtin; refine append_one w.heap.size rfl (.tmp 39) (.tmp 41) 24 37 (.slice none 0 0) 24 rfl Try.underlying24 infoB rfl (by decide) _ vs (.slice Ay _ cy) rfl rfl rfl HV3.out hBk hBk.size HL.out ?_; intro v4 w4 hO4 hB4 hg4 _
               have hOR := ORows.push_row H1.out H2.out H3.out hB2 hB.size HY.out hg4 hO4))
          go_roundw
          case rel => exact ⟨i + 1, by omega, by go_num, Lib.hid ⟨_, by rw [List.length_append, HM1.out]; rfl, fun r hr => by
            by_cases e : r < i
            · rw [List.getD_eq_getElem?_getD, List.getElem?_append_left (by rw [HM1.out]; exact e), ← List.getD_eq_getElem?_getD]
              exact HM2.out r e
            · obtain rfl : r = i := by omega
              rw [List.getD_eq_getElem?_getD, List.getElem?_append_right (by rw [HM1.out]; exact Nat.le_refl _), HM1.out, Nat.sub_self]
              exact HCL.out, hOR⟩, hB4⟩
          case measure => simp [intOf]; omega
        · by_cases hll : l.length ≤ q
          · have hadd : ad.add 0 = ad := rfl
            have hc3 : ¬ (q < l.length) := by omega
            have hc4 : l.length ≤ cr := by omega
            have hy0 := hRB.take0 l.length (by rw [bv_length]; omega)
            rw [bv_take] at hy0
            have hl2 : (l.take l.length).length = l.length := by rw [List.length_take]; omega
            have HY0 := Lib.hid hy0.drew; clear hy0
            generalize hlt2 : l.take l.length = l2 at *
            clear hlt2
            have HONE := Lib.hid (bv_one' l2)
            have hL1 : (([] : List Value).length + (bv l2).length) * 1 ≤ 140737488355328 := by rw [bv_length]; simp; omega
            have HL1 := Lib.hid hL1; clear hL1
            have hcutl : l2.length ≤ q := by omega
            have HCL := Lib.hid hcutl; clear hcutl
            clear hRB
            go_wp2
            go_still_tail 12, (by kernel_rfl)
            have HB0 := Lib.hid ((Below.refl wr.heap.size wr).drew)
            have HNI := Lib.hid (Own.nil_ wr.drew wr.heap.size 5)
            have hN1 : 1 ≤ q := by omega
            go_wp2_with (first
              | (at_builtin; refine append_many (w0 := wr) wr.heap.size rfl (.const (.slice none 0 0)) (.tmp 31) 37 5 (.int .u8 0) 1 rfl Try.underlying37 info5 rfl (by decide) _ _ _ _ rfl rfl HY0.out HONE.out HNI.out HB0.out (Nat.le_refl _) HL1.out ?_; intro y w2 hO2 hB2 _ _
                 rw [List.nil_append] at hO2
                 obtain ⟨Ay, cy, rfl⟩ := hO2.shape
                 have HY := Lib.hid hO2
                 have HV3 := Lib.hid (H2.out.below hB2)
                 have hBk := below_then hB hB.size hB2
                 clear hO2)
              | (at_builtin; refine append_one w.heap.size rfl (.tmp 39) (.tmp 41) 24 37 (.slice none 0 0) 24 rfl Try.underlying24 infoB rfl (by decide) _ vs (.slice Ay _ cy) rfl rfl rfl HV3.out hBk hBk.size HL.out ?_; intro v4 w4 hO4 hB4 hg4 _
                 have hOR := ORows.push_row H1.out H2.out H3.out hB2 hB.size HY.out hg4 hO4))
            go_roundw
            case rel => exact ⟨i + 1, by omega, by go_num, Lib.hid ⟨_, by rw [List.length_append, HM1.out]; rfl, fun r hr => by
              by_cases e : r < i
              · rw [List.getD_eq_getElem?_getD, List.getElem?_append_left (by rw [HM1.out]; exact e), ← List.getD_eq_getElem?_getD]
                exact HM2.out r e
              · obtain rfl : r = i := by omega
                rw [List.getD_eq_getElem?_getD, List.getElem?_append_right (by rw [HM1.out]; exact Nat.le_refl _), HM1.out, Nat.sub_self]
                exact HCL.out, hOR⟩, hB4⟩
            case measure => simp [intOf]; omega
          · have hadd : ad.add 0 = ad := rfl
            have hc3 : q < l.length := by omega
            have hc4 : q ≤ cr := by omega
            have hy0 := hRB.take0 q (by rw [bv_length]; omega)
            rw [bv_take] at hy0
            have hl2 : (l.take q).length = q := by rw [List.length_take]; omega
            have HY0 := Lib.hid hy0.drew; clear hy0
            generalize hlt2 : l.take q = l2 at *
            clear hlt2
            have HONE := Lib.hid (bv_one' l2)
            have hL1 : (([] : List Value).length + (bv l2).length) * 1 ≤ 140737488355328 := by rw [bv_length]; simp; omega
            have HL1 := Lib.hid hL1; clear hL1
            have hcutl : l2.length ≤ q := by omega
            have HCL := Lib.hid hcutl; clear hcutl
            clear hRB
            go_wp2
            go_still_tail 12, (by kernel_rfl)
            have HB0 := Lib.hid ((Below.refl wr.heap.size wr).drew)
            have HNI := Lib.hid (Own.nil_ wr.drew wr.heap.size 5)
            have hN1 : 1 ≤ q := by omega
            go_wp2_with (first
              | (at_builtin; refine append_many (w0 := wr) wr.heap.size rfl (.const (.slice none 0 0)) (.tmp 31) 37 5 (.int .u8 0) 1 rfl Try.underlying37 info5 rfl (by decide) _ _ _ _ rfl rfl HY0.out HONE.out HNI.out HB0.out (Nat.le_refl _) HL1.out ?_; intro y w2 hO2 hB2 _ _
                 rw [List.nil_append] at hO2
                 obtain ⟨Ay, cy, rfl⟩ := hO2.shape
                 have HY := Lib.hid hO2
                 have HV3 := Lib.hid (H2.out.below hB2)
                 have hBk := below_then hB hB.size hB2
                 clear hO2)
              | (at_builtin; refine append_one w.heap.size rfl (.tmp 39) (.tmp 41) 24 37 (.slice none 0 0) 24 rfl Try.underlying24 infoB rfl (by decide) _ vs (.slice Ay _ cy) rfl rfl rfl HV3.out hBk hBk.size HL.out ?_; intro v4 w4 hO4 hB4 hg4 _
                 have hOR := ORows.push_row H1.out H2.out H3.out hB2 hB.size HY.out hg4 hO4))
            go_roundw
            case rel => exact ⟨i + 1, by omega, by go_num, Lib.hid ⟨_, by rw [List.length_append, HM1.out]; rfl, fun r hr => by
              by_cases e : r < i
              · rw [List.getD_eq_getElem?_getD, List.getElem?_append_left (by rw [HM1.out]; exact e), ← List.getD_eq_getElem?_getD]
                exact HM2.out r e
              · obtain rfl : r = i := by omega
                rw [List.getD_eq_getElem?_getD, List.getElem?_append_right (by rw [HM1.out]; exact Nat.le_refl _), HM1.out, Nat.sub_self]
                exact HCL.out, hOR⟩, hB4⟩
            case measure => simp [intOf]; omega
      · obtain rfl : i = q := by omega
        obtain ⟨M, hM1, hM2, hO⟩ := HO.out
        have hR := hO.reads
        clear HO hO
        go_wp2
        go_ret
        exact ⟨_, M, rfl, hR, by omega, fun r hr => hM2 r (by omega), hB⟩
end Go.Proofs.Ytgphfhpobppmeaa
