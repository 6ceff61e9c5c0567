/-
  The walk of cofferdamlaw03.few, of one shape.
-/
import Derived.Test.YtgphfhpobppmeaaTk
namespace Go.Proofs.Ytgphfhpobppmeaa
open Go.RowKit GfM

theorem Reads.take0 {w : World} {A : Option Addr} {n c : Nat} {xs : List Value} (h : Reads w (.slice A n c) xs) (k : Nat) (hk : k ≤ xs.length) : Reads w (.slice A k c) (xs.take k) := by
  obtain ⟨A', c', he, h1, h2, h3⟩ := h
  injection he with e1 e2 e3
  subst e1 e3
  have hl : (xs.take k).length = k := by rw [List.length_take]; omega
  refine ⟨A, c, by rw [hl], by omega, h2, fun hp => ?_⟩
  obtain ⟨b, off, rfl, hc⟩ := h3 (by omega)
  refine ⟨b, off, rfl, fun j hj => ?_⟩
  rw [hc j (by omega), List.getElem?_take, if_pos (by omega)]
set_option maxRecDepth 100000 in
set_option maxHeartbeats 2000000 in
theorem few_any (w : World) (v : Value) (x : List (List UInt8)) (hv : RMat w v x) (q : Nat) (hq1 : 1 ≤ q) (hq : q ≤ 16) (qi : Int) (hqi : qi = q) :
    Calls Try.prog 10 #[v, .int .i64 qi, .bool true] w fun e w' => ∃ v' M, e = .returned v' ∧ RMat w' v' M ∧ Shp M (min x.length q) (min x.length q) ∧ Below w.heap.size w w' := by
  subst hqi
  obtain ⟨A, c, rfl, hc1, hc2, hcell⟩ := hv.shape
  have HC := Lib.hid hcell; clear hcell hv
  have hl0 := Lib.hid (ORows.lit0 w w.heap.size (Nat.le_refl _))
  generalize hxn : x.length = k at *
  clear hxn
  by_cases hkq : k ≤ q
  · have hmin : min k q = k := by omega
    rw [hmin]
    clear hmin
    have hcmp : ¬ ((q : Int) < (k : Int)) := by omega
    go_enter Try.func10, Try.ntmps10
    go_wp2
    go_loopw [8, 9, 10, 17] (fun s8 _ _ s17 wr => ∃ i : Nat, i ≤ k ∧ s17 = .int .i64 i ∧ Hid (∃ M : List (List UInt8), M.length = i ∧ (∀ r, r < i → (M.getD r []).length = k) ∧ ORows wr w.heap.size s8 M) ∧ Below w.heap.size w wr) (fun _ _ _ s17 _ => k - (intOf s17).toNat)
    case atStart => exact ⟨0, by omega, rfl, Lib.hid ⟨[], rfl, fun r hr => absurd hr (by omega), hl0.out⟩, (Below.refl _ _).alloc (Nat.le_refl _) _⟩
    case round =>
      clear hl0
      obtain ⟨i, hi, rfl, HO, hB⟩ := hrel
      by_cases hlt : i < k
      · obtain ⟨M, hM1, hM2, vs, v1, v2, v3⟩ := HO.out
        have HM2 := Lib.hid hM2; clear hM2 HO
        obtain ⟨b, off, rfl, hrow⟩ := HC.out (by omega)
        obtain ⟨xr, hx, hR⟩ := hrow i (by omega)
        have hk := (hB.cell (World.block_lt_of_cell? w _ hx)).trans hx
        have hRB := (hR.below hB)
        obtain ⟨Ar, cr, rfl, hr1, hr2, _⟩ := hRB.shape
        have hir : (i : Int) < (k : Int) := by omega
        have hL : (vs.length + 1) * 24 ≤ 140737488355328 := by rw [v1, hM1]; omega
        have HL := Lib.hid hL; clear hL
        have H1 := Lib.hid v1; clear v1
        have H2 := Lib.hid v2; clear v2
        have H3 := Lib.hid v3; clear v3
        have HM1 := Lib.hid hM1; clear hM1
        generalize hlr : x.getD i [] = l at *
        clear hlr hrow hR hx
        rcases Ar with _ | ad
        · have hl0 : l.length = 0 := by
            obtain ⟨A9, c9, he9, _, _, h9⟩ := hRB
            injection he9 with x1 x2 x3
            apply Classical.byContradiction
            intro hne
            obtain ⟨_, _, hx9, _⟩ := h9 (by rw [bv_length]; omega)
            rw [← x1] at hx9
            cases hx9
          have hll : l.length ≤ q := by omega
          have hc3 : ¬ (q < l.length) := by omega
          have hc4 : l.length ≤ cr := by omega
          clear hl0
          have hy0 := hRB.take0 l.length (by rw [bv_length]; omega)
          rw [bv_take] at hy0
          have hl2 : (l.take l.length).length = l.length := by rw [List.length_take]; omega
          have HY0 := Lib.hid hy0.drew; clear hy0
          generalize hlt2 : l.take l.length = l2 at *
          clear hlt2
          have HONE := Lib.hid (bv_one' l2)
          have hL1 : (([] : List Value).length + (bv l2).length) * 1 ≤ 140737488355328 := by rw [bv_length]; simp; omega
          have HL1 := Lib.hid hL1; clear hL1
          have hL2 : l2.length + k ≤ 140737488355328 := by omega
          have HL2 := Lib.hid hL2; clear hL2
          have hlb : (bv (l2 ++ List.replicate k 0)).length = l2.length + k := by rw [bv_length, List.length_append, List.length_replicate]
          have HLB := Lib.hid hlb; clear hlb
          have hcutl : ((l2 ++ List.replicate k 0).take k).length = k := by rw [List.length_take, List.length_append, List.length_replicate]; omega
          have HCL := Lib.hid hcutl; clear hcutl
          clear hRB
          go_wp2
          go_still_tail 12, (by kernel_rfl)
          have HB0 := Lib.hid ((Below.refl wr.heap.size wr).drew)
          have HNI := Lib.hid (Own.nil_ wr.drew wr.heap.size 5)
          have hN1 : 1 ≤ k := by omega
          go_wp2_with (first
            | (at_builtin; refine append_many (w0 := wr) wr.heap.size rfl (.const (.slice none 0 0)) (.tmp 31) 37 5 (.int .u8 0) 1 rfl Try.underlying37 info5 rfl (by decide) _ _ _ _ rfl rfl HY0.out HONE.out HNI.out HB0.out (Nat.le_refl _) HL1.out ?_; intro y w2 hO2 hB2 _ _
               rw [List.nil_append] at hO2
               have HY := Lib.hid hO2
               clear hO2)
            | (at_builtin; refine append_zeros8 (w0 := wr) wr.heap.size rfl (.tmp 34) (.tmp 35) 37 3 rfl Try.underlying37 Try.underlying3 info5 _ l2 .i64 k rfl rfl HY.out hB2 hB2.size HL2.out ?_; intro z w3 hO3 hB3 _ _
               obtain ⟨gz, cz, rfl, hz1, hz2, hz3⟩ := hO3.form (by rw [HLB.out]; omega)
               rw [HLB.out] at hz3
               have hcz : k ≤ cz := by omega
               have hzc := hO3.cut k (by rw [HLB.out]; omega)
               rw [bv_take] at hzc
               have HZ := Lib.hid hzc
               rw [HLB.out]
               have HV3 := Lib.hid (H2.out.below hB3)
               have hBk := below_then hB hB.size hB3
               clear hzc hO3)
            | (at_builtin; refine append_one w.heap.size rfl (.tmp 39) (.tmp 41) 24 37 (.slice none 0 0) 24 rfl Try.underlying24 infoB rfl (by decide) _ vs (.slice (some ⟨gz, 0, none⟩) k cz) rfl rfl rfl HV3.out hBk hBk.size HL.out ?_; intro v4 w4 hO4 hB4 hg4 _
               have hlz : (bv ((l2 ++ List.replicate k 0).take k)).length = k := by rw [bv_length, HCL.out]
               have hOR := ORows.push_row H1.out H2.out H3.out hB3 hB.size HZ.out hg4 hO4))
          go_roundw
          case rel => exact ⟨i + 1, by omega, by go_num, Lib.hid ⟨_, by rw [List.length_append, HM1.out]; rfl, fun r hr => by
            by_cases e : r < i
            · rw [List.getD_eq_getElem?_getD, List.getElem?_append_left (by rw [HM1.out]; exact e), ← List.getD_eq_getElem?_getD]
              exact HM2.out r e
            · obtain rfl : r = i := by omega
              rw [List.getD_eq_getElem?_getD, List.getElem?_append_right (by rw [HM1.out]; exact Nat.le_refl _), HM1.out, Nat.sub_self]
              exact HCL.out, hOR⟩, hB4⟩
          case measure => simp [intOf]; omega
        · by_cases hll : l.length ≤ q
          · have hadd : ad.add 0 = ad := rfl
            have hc3 : ¬ (q < l.length) := by omega
            have hc4 : l.length ≤ cr := by omega
            have hy0 := hRB.take0 l.length (by rw [bv_length]; omega)
            rw [bv_take] at hy0
            have hl2 : (l.take l.length).length = l.length := by rw [List.length_take]; omega
            have HY0 := Lib.hid hy0.drew; clear hy0
            generalize hlt2 : l.take l.length = l2 at *
            clear hlt2
            have HONE := Lib.hid (bv_one' l2)
            have hL1 : (([] : List Value).length + (bv l2).length) * 1 ≤ 140737488355328 := by rw [bv_length]; simp; omega
            have HL1 := Lib.hid hL1; clear hL1
            have hL2 : l2.length + k ≤ 140737488355328 := by omega
            have HL2 := Lib.hid hL2; clear hL2
            have hlb : (bv (l2 ++ List.replicate k 0)).length = l2.length + k := by rw [bv_length, List.length_append, List.length_replicate]
            have HLB := Lib.hid hlb; clear hlb
            have hcutl : ((l2 ++ List.replicate k 0).take k).length = k := by rw [List.length_take, List.length_append, List.length_replicate]; omega
            have HCL := Lib.hid hcutl; clear hcutl
            clear hRB
            go_wp2
            go_still_tail 12, (by kernel_rfl)
            have HB0 := Lib.hid ((Below.refl wr.heap.size wr).drew)
            have HNI := Lib.hid (Own.nil_ wr.drew wr.heap.size 5)
            have hN1 : 1 ≤ k := by omega
            go_wp2_with (first
              | (at_builtin; refine append_many (w0 := wr) wr.heap.size rfl (.const (.slice none 0 0)) (.tmp 31) 37 5 (.int .u8 0) 1 rfl Try.underlying37 info5 rfl (by decide) _ _ _ _ rfl rfl HY0.out HONE.out HNI.out HB0.out (Nat.le_refl _) HL1.out ?_; intro y w2 hO2 hB2 _ _
                 rw [List.nil_append] at hO2
                 have HY := Lib.hid hO2
                 clear hO2)
              | (at_builtin; refine append_zeros8 (w0 := wr) wr.heap.size rfl (.tmp 34) (.tmp 35) 37 3 rfl Try.underlying37 Try.underlying3 info5 _ l2 .i64 k rfl rfl HY.out hB2 hB2.size HL2.out ?_; intro z w3 hO3 hB3 _ _
                 obtain ⟨gz, cz, rfl, hz1, hz2, hz3⟩ := hO3.form (by rw [HLB.out]; omega)
                 rw [HLB.out] at hz3
                 have hcz : k ≤ cz := by omega
                 have hzc := hO3.cut k (by rw [HLB.out]; omega)
                 rw [bv_take] at hzc
                 have HZ := Lib.hid hzc
                 rw [HLB.out]
                 have HV3 := Lib.hid (H2.out.below hB3)
                 have hBk := below_then hB hB.size hB3
                 clear hzc hO3)
              | (at_builtin; refine append_one w.heap.size rfl (.tmp 39) (.tmp 41) 24 37 (.slice none 0 0) 24 rfl Try.underlying24 infoB rfl (by decide) _ vs (.slice (some ⟨gz, 0, none⟩) k cz) rfl rfl rfl HV3.out hBk hBk.size HL.out ?_; intro v4 w4 hO4 hB4 hg4 _
                 have hlz : (bv ((l2 ++ List.replicate k 0).take k)).length = k := by rw [bv_length, HCL.out]
                 have hOR := ORows.push_row H1.out H2.out H3.out hB3 hB.size HZ.out hg4 hO4))
            go_roundw
            case rel => exact ⟨i + 1, by omega, by go_num, Lib.hid ⟨_, by rw [List.length_append, HM1.out]; rfl, fun r hr => by
              by_cases e : r < i
              · rw [List.getD_eq_getElem?_getD, List.getElem?_append_left (by rw [HM1.out]; exact e), ← List.getD_eq_getElem?_getD]
                exact HM2.out r e
              · obtain rfl : r = i := by omega
                rw [List.getD_eq_getElem?_getD, List.getElem?_append_right (by rw [HM1.out]; exact Nat.le_refl _), HM1.out, Nat.sub_self]
                exact HCL.out, hOR⟩, hB4⟩
            case measure => simp [intOf]; omega
          · have hadd : ad.add 0 = ad := rfl
            have hc3 : q < l.length := by omega
            have hc4 : q ≤ cr := by omega
            have hy0 := hRB.take0 q (by rw [bv_length]; omega)
            rw [bv_take] at hy0
            have hl2 : (l.take q).length = q := by rw [List.length_take]; omega
            have HY0 := Lib.hid hy0.drew; clear hy0
            generalize hlt2 : l.take q = l2 at *
            clear hlt2
            have HONE := Lib.hid (bv_one' l2)
            have hL1 : (([] : List Value).length + (bv l2).length) * 1 ≤ 140737488355328 := by rw [bv_length]; simp; omega
            have HL1 := Lib.hid hL1; clear hL1
            have hL2 : l2.length + k ≤ 140737488355328 := by omega
            have HL2 := Lib.hid hL2; clear hL2
            have hlb : (bv (l2 ++ List.replicate k 0)).length = l2.length + k := by rw [bv_length, List.length_append, List.length_replicate]
            have HLB := Lib.hid hlb; clear hlb
            have hcutl : ((l2 ++ List.replicate k 0).take k).length = k := by rw [List.length_take, List.length_append, List.length_replicate]; omega
            have HCL := Lib.hid hcutl; clear hcutl
            clear hRB
            go_wp2
            go_still_tail 12, (by kernel_rfl)
            have HB0 := Lib.hid ((Below.refl wr.heap.size wr).drew)
            have HNI := Lib.hid (Own.nil_ wr.drew wr.heap.size 5)
            have hN1 : 1 ≤ k := by omega
            go_wp2_with (first
              | (at_builtin; refine append_many (w0 := wr) wr.heap.size rfl (.const (.slice none 0 0)) (.tmp 31) 37 5 (.int .u8 0) 1 rfl Try.underlying37 info5 rfl (by decide) _ _ _ _ rfl rfl HY0.out HONE.out HNI.out HB0.out (Nat.le_refl _) HL1.out ?_; intro y w2 hO2 hB2 _ _
                 rw [List.nil_append] at hO2
                 have HY := Lib.hid hO2
                 clear hO2)
              | (at_builtin; refine append_zeros8 (w0 := wr) wr.heap.size rfl (.tmp 34) (.tmp 35) 37 3 rfl Try.underlying37 Try.underlying3 info5 _ l2 .i64 k rfl rfl HY.out hB2 hB2.size HL2.out ?_; intro z w3 hO3 hB3 _ _
                 obtain ⟨gz, cz, rfl, hz1, hz2, hz3⟩ := hO3.form (by rw [HLB.out]; omega)
                 rw [HLB.out] at hz3
                 have hcz : k ≤ cz := by omega
                 have hzc := hO3.cut k (by rw [HLB.out]; omega)
                 rw [bv_take] at hzc
                 have HZ := Lib.hid hzc
                 rw [HLB.out]
                 have HV3 := Lib.hid (H2.out.below hB3)
                 have hBk := below_then hB hB.size hB3
                 clear hzc hO3)
              | (at_builtin; refine append_one w.heap.size rfl (.tmp 39) (.tmp 41) 24 37 (.slice none 0 0) 24 rfl Try.underlying24 infoB rfl (by decide) _ vs (.slice (some ⟨gz, 0, none⟩) k cz) rfl rfl rfl HV3.out hBk hBk.size HL.out ?_; intro v4 w4 hO4 hB4 hg4 _
                 have hlz : (bv ((l2 ++ List.replicate k 0).take k)).length = k := by rw [bv_length, HCL.out]
                 have hOR := ORows.push_row H1.out H2.out H3.out hB3 hB.size HZ.out hg4 hO4))
            go_roundw
            case rel => exact ⟨i + 1, by omega, by go_num, Lib.hid ⟨_, by rw [List.length_append, HM1.out]; rfl, fun r hr => by
              by_cases e : r < i
              · rw [List.getD_eq_getElem?_getD, List.getElem?_append_left (by rw [HM1.out]; exact e), ← List.getD_eq_getElem?_getD]
                exact HM2.out r e
              · obtain rfl : r = i := by omega
                rw [List.getD_eq_getElem?_getD, List.getElem?_append_right (by rw [HM1.out]; exact Nat.le_refl _), HM1.out, Nat.sub_self]
                exact HCL.out, hOR⟩, hB4⟩
            case measure => simp [intOf]; omega
      · obtain rfl : i = k := by omega
        obtain ⟨M, hM1, hM2, hO⟩ := HO.out
        have hR := hO.reads
        clear HO hO
        go_wp2
        go_ret
        exact ⟨_, M, rfl, hR, ⟨hM1, hM2⟩, hB⟩
  · have hmin : min k q = q := by omega
    rw [hmin]
    clear hmin
    have hcmp : (q : Int) < (k : Int) := by omega
    go_enter Try.func10, Try.ntmps10
    go_wp2
    go_loopw [8, 9, 10, 17] (fun s8 _ _ s17 wr => ∃ i : Nat, i ≤ q ∧ s17 = .int .i64 i ∧ Hid (∃ M : List (List UInt8), M.length = i ∧ (∀ r, r < i → (M.getD r []).length = q) ∧ ORows wr w.heap.size s8 M) ∧ Below w.heap.size w wr) (fun _ _ _ s17 _ => q - (intOf s17).toNat)
    case atStart => exact ⟨0, by omega, rfl, Lib.hid ⟨[], rfl, fun r hr => absurd hr (by omega), hl0.out⟩, (Below.refl _ _).alloc (Nat.le_refl _) _⟩
    case round =>
      clear hl0
      obtain ⟨i, hi, rfl, HO, hB⟩ := hrel
      by_cases hlt : i < q
      · obtain ⟨M, hM1, hM2, vs, v1, v2, v3⟩ := HO.out
        have HM2 := Lib.hid hM2; clear hM2 HO
        obtain ⟨b, off, rfl, hrow⟩ := HC.out (by omega)
        obtain ⟨xr, hx, hR⟩ := hrow i (by omega)
        have hk := (hB.cell (World.block_lt_of_cell? w _ hx)).trans hx
        have hRB := (hR.below hB)
        obtain ⟨Ar, cr, rfl, hr1, hr2, _⟩ := hRB.shape
        have hir : (i : Int) < (k : Int) := by omega
        have hL : (vs.length + 1) * 24 ≤ 140737488355328 := by rw [v1, hM1]; omega
        have HL := Lib.hid hL; clear hL
        have H1 := Lib.hid v1; clear v1
        have H2 := Lib.hid v2; clear v2
        have H3 := Lib.hid v3; clear v3
        have HM1 := Lib.hid hM1; clear hM1
        generalize hlr : x.getD i [] = l at *
        clear hlr hrow hR hx
        rcases Ar with _ | ad
        · have hl0 : l.length = 0 := by
            obtain ⟨A9, c9, he9, _, _, h9⟩ := hRB
            injection he9 with x1 x2 x3
            apply Classical.byContradiction
            intro hne
            obtain ⟨_, _, hx9, _⟩ := h9 (by rw [bv_length]; omega)
            rw [← x1] at hx9
            cases hx9
          have hll : l.length ≤ q := by omega
          have hc3 : ¬ (q < l.length) := by omega
          have hc4 : l.length ≤ cr := by omega
          clear hl0
          have hy0 := hRB.take0 l.length (by rw [bv_length]; omega)
          rw [bv_take] at hy0
          have hl2 : (l.take l.length).length = l.length := by rw [List.length_take]; omega
          have HY0 := Lib.hid hy0.drew; clear hy0
          generalize hlt2 : l.take l.length = l2 at *
          clear hlt2
          have HONE := Lib.hid (bv_one' l2)
          have hL1 : (([] : List Value).length + (bv l2).length) * 1 ≤ 140737488355328 := by rw [bv_length]; simp; omega
          have HL1 := Lib.hid hL1; clear hL1
          have hL2 : l2.length + q ≤ 140737488355328 := by omega
          have HL2 := Lib.hid hL2; clear hL2
          have hlb : (bv (l2 ++ List.replicate q 0)).length = l2.length + q := by rw [bv_length, List.length_append, List.length_replicate]
          have HLB := Lib.hid hlb; clear hlb
          have hcutl : ((l2 ++ List.replicate q 0).take q).length = q := by rw [List.length_take, List.length_append, List.length_replicate]; omega
          have HCL := Lib.hid hcutl; clear hcutl
          clear hRB
          go_wp2
          go_still_tail 12, (by kernel_rfl)
          have HB0 := Lib.hid ((Below.refl wr.heap.size wr).drew)
          have HNI := Lib.hid (Own.nil_ wr.drew wr.heap.size 5)
          have hN1 : 1 ≤ q := by omega
          go_wp2_with (first
            | (at_builtin; refine append_many (w0 := wr) wr.heap.size rfl (.const (.slice none 0 0)) (.tmp 31) 37 5 (.int .u8 0) 1 rfl Try.underlying37 info5 rfl (by decide) _ _ _ _ rfl rfl HY0.out HONE.out HNI.out HB0.out (Nat.le_refl _) HL1.out ?_; intro y w2 hO2 hB2 _ _
               rw [List.nil_append] at hO2
               have HY := Lib.hid hO2
               clear hO2)
            | (at_builtin; refine append_zeros8 (w0 := wr) wr.heap.size rfl (.tmp 34) (.tmp 35) 37 3 rfl Try.underlying37 Try.underlying3 info5 _ l2 .i64 q rfl rfl HY.out hB2 hB2.size HL2.out ?_; intro z w3 hO3 hB3 _ _
               obtain ⟨gz, cz, rfl, hz1, hz2, hz3⟩ := hO3.form (by rw [HLB.out]; omega)
               rw [HLB.out] at hz3
               have hcz : q ≤ cz := by omega
               have hzc := hO3.cut q (by rw [HLB.out]; omega)
               rw [bv_take] at hzc
               have HZ := Lib.hid hzc
               rw [HLB.out]
               have HV3 := Lib.hid (H2.out.below hB3)
               have hBk := below_then hB hB.size hB3
               clear hzc hO3)
            | (at_builtin; refine append_one w.heap.size rfl (.tmp 39) (.tmp 41) 24 37 (.slice none 0 0) 24 rfl Try.underlying24 infoB rfl (by decide) _ vs (.slice (some ⟨gz, 0, none⟩) q cz) rfl rfl rfl HV3.out hBk hBk.size HL.out ?_; intro v4 w4 hO4 hB4 hg4 _
               have hlz : (bv ((l2 ++ List.replicate q 0).take q)).length = q := by rw [bv_length, HCL.out]
               have hOR := ORows.push_row H1.out H2.out H3.out hB3 hB.size HZ.out hg4 hO4))
          go_roundw
          case rel => exact ⟨i + 1, by omega, by go_num, Lib.hid ⟨_, by rw [List.length_append, HM1.out]; rfl, fun r hr => by
            by_cases e : r < i
            · rw [List.getD_eq_getElem?_getD, List.getElem?_append_left (by rw [HM1.out]; exact e), ← List.getD_eq_getElem?_getD]
              exact HM2.out r e
            · obtain rfl : r = i := by omega
              rw [List.getD_eq_getElem?_getD, List.getElem?_append_right (by rw [HM1.out]; exact Nat.le_refl _), HM1.out, Nat.sub_self]
              exact HCL.out, hOR⟩, hB4⟩
          case measure => simp [intOf]; omega
        · by_cases hll : l.length ≤ q
          · have hadd : ad.add 0 = ad := rfl
            have hc3 : ¬ (q < l.length) := by omega
            have hc4 : l.length ≤ cr := by omega
            have hy0 := hRB.take0 l.length (by rw [bv_length]; omega)
            rw [bv_take] at hy0
            have hl2 : (l.take l.length).length = l.length := by rw [List.length_take]; omega
            have HY0 := Lib.hid hy0.drew; clear hy0
            generalize hlt2 : l.take l.length = l2 at *
            clear hlt2
            have HONE := Lib.hid (bv_one' l2)
            have hL1 : (([] : List Value).length + (bv l2).length) * 1 ≤ 140737488355328 := by rw [bv_length]; simp; omega
            have HL1 := Lib.hid hL1; clear hL1
            have hL2 : l2.length + q ≤ 140737488355328 := by omega
            have HL2 := Lib.hid hL2; clear hL2
            have hlb : (bv (l2 ++ List.replicate q 0)).length = l2.length + q := by rw [bv_length, List.length_append, List.length_replicate]
            have HLB := Lib.hid hlb; clear hlb
            have hcutl : ((l2 ++ List.replicate q 0).take q).length = q := by rw [List.length_take, List.length_append, List.length_replicate]; omega
            have HCL := Lib.hid hcutl; clear hcutl
            clear hRB
            go_wp2
            go_still_tail 12, (by kernel_rfl)
            have HB0 := Lib.hid ((Below.refl wr.heap.size wr).drew)
            have HNI := Lib.hid (Own.nil_ wr.drew wr.heap.size 5)
            have hN1 : 1 ≤ q := by omega
            go_wp2_with (first
              | (at_builtin; refine append_many (w0 := wr) wr.heap.size rfl (.const (.slice none 0 0)) (.tmp 31) 37 5 (.int .u8 0) 1 rfl Try.underlying37 info5 rfl (by decide) _ _ _ _ rfl rfl HY0.out HONE.out HNI.out HB0.out (Nat.le_refl _) HL1.out ?_; intro y w2 hO2 hB2 _ _
                 rw [List.nil_append] at hO2
                 have HY := Lib.hid hO2
                 clear hO2)
              | (at_builtin; refine append_zeros8 (w0 := wr) wr.heap.size rfl (.tmp 34) (.tmp 35) 37 3 rfl Try.underlying37 Try.underlying3 info5 _ l2 .i64 q rfl rfl HY.out hB2 hB2.size HL2.out ?_; intro z w3 hO3 hB3 _ _
                 obtain ⟨gz, cz, rfl, hz1, hz2, hz3⟩ := hO3.form (by rw [HLB.out]; omega)
                 rw [HLB.out] at hz3
                 have hcz : q ≤ cz := by omega
                 have hzc := hO3.cut q (by rw [HLB.out]; omega)
                 rw [bv_take] at hzc
                 have HZ := Lib.hid hzc
                 rw [HLB.out]
                 have HV3 := Lib.hid (H2.out.below hB3)
                 have hBk := below_then hB hB.size hB3
                 clear hzc hO3)
              | (at_builtin; refine append_one w.heap.size rfl (.tmp 39) (.tmp 41) 24 37 (.slice none 0 0) 24 rfl Try.underlying24 infoB rfl (by decide) _ vs (.slice (some ⟨gz, 0, none⟩) q cz) rfl rfl rfl HV3.out hBk hBk.size HL.out ?_; intro v4 w4 hO4 hB4 hg4 _
                 have hlz : (bv ((l2 ++ List.replicate q 0).take q)).length = q := by rw [bv_length, HCL.out]
                 have hOR := ORows.push_row H1.out H2.out H3.out hB3 hB.size HZ.out hg4 hO4))
            go_roundw
            case rel => exact ⟨i + 1, by omega, by go_num, Lib.hid ⟨_, by rw [List.length_append, HM1.out]; rfl, fun r hr => by
              by_cases e : r < i
              · rw [List.getD_eq_getElem?_getD, List.getElem?_append_left (by rw [HM1.out]; exact e), ← List.getD_eq_getElem?_getD]
                exact HM2.out r e
              · obtain rfl : r = i := by omega
                rw [List.getD_eq_getElem?_getD, List.getElem?_append_right (by rw [HM1.out]; exact Nat.le_refl _), HM1.out, Nat.sub_self]
                exact HCL.out, hOR⟩, hB4⟩
            case measure => simp [intOf]; omega
          · have hadd : ad.add 0 = ad := rfl
            have hc3 : q < l.length := by omega
            have hc4 : q ≤ cr := by omega
            have hy0 := hRB.take0 q (by rw [bv_length]; omega)
            rw [bv_take] at hy0
            have hl2 : (l.take q).length = q := by rw [List.length_take]; omega
            have HY0 := Lib.hid hy0.drew; clear hy0
            generalize hlt2 : l.take q = l2 at *
            clear hlt2
            have HONE := Lib.hid (bv_one' l2)
            have hL1 : (([] : List Value).length + (bv l2).length) * 1 ≤ 140737488355328 := by rw [bv_length]; simp; omega
            have HL1 := Lib.hid hL1; clear hL1
            have hL2 : l2.length + q ≤ 140737488355328 := by omega
            have HL2 := Lib.hid hL2; clear hL2
            have hlb : (bv (l2 ++ List.replicate q 0)).length = l2.length + q := by rw [bv_length, List.length_append, List.length_replicate]
            have HLB := Lib.hid hlb; clear hlb
            have hcutl : ((l2 ++ List.replicate q 0).take q).length = q := by rw [List.length_take, List.length_append, List.length_replicate]; omega
            have HCL := Lib.hid hcutl; clear hcutl
            clear hRB
            go_wp2
            go_still_tail 12, (by kernel_rfl)
            have HB0 := Lib.hid ((Below.refl wr.heap.size wr).drew)
            have HNI := Lib.hid (Own.nil_ wr.drew wr.heap.size 5)
            have hN1 : 1 ≤ q := by omega
            go_wp2_with (first
              | (at_builtin; refine append_many (w0 := wr) wr.heap.size rfl (.const (.slice none 0 0)) (.tmp 31) 37 5 (.int .u8 0) 1 rfl Try.underlying37 info5 rfl (by decide) _ _ _ _ rfl rfl HY0.out HONE.out HNI.out HB0.out (Nat.le_refl _) HL1.out ?_; intro y w2 hO2 hB2 _ _
                 rw [List.nil_append] at hO2
                 have HY := Lib.hid hO2
                 clear hO2)
              | (at_builtin; refine append_zeros8 (w0 := wr) wr.heap.size rfl (.tmp 34) (.tmp 35) 37 3 rfl Try.underlying37 Try.underlying3 info5 _ l2 .i64 q rfl rfl HY.out hB2 hB2.size HL2.out ?_; intro z w3 hO3 hB3 _ _
                 obtain ⟨gz, cz, rfl, hz1, hz2, hz3⟩ := hO3.form (by rw [HLB.out]; omega)
                 rw [HLB.out] at hz3
                 have hcz : q ≤ cz := by omega
                 have hzc := hO3.cut q (by rw [HLB.out]; omega)
                 rw [bv_take] at hzc
                 have HZ := Lib.hid hzc
                 rw [HLB.out]
                 have HV3 := Lib.hid (H2.out.below hB3)
                 have hBk := below_then hB hB.size hB3
                 clear hzc hO3)
              | (at_builtin; refine append_one w.heap.size rfl (.tmp 39) (.tmp 41) 24 37 (.slice none 0 0) 24 rfl Try.underlying24 infoB rfl (by decide) _ vs (.slice (some ⟨gz, 0, none⟩) q cz) rfl rfl rfl HV3.out hBk hBk.size HL.out ?_; intro v4 w4 hO4 hB4 hg4 _
                 have hlz : (bv ((l2 ++ List.replicate q 0).take q)).length = q := by rw [bv_length, HCL.out]
                 have hOR := ORows.push_row H1.out H2.out H3.out hB3 hB.size HZ.out hg4 hO4))
            go_roundw
            case rel => exact ⟨i + 1, by omega, by go_num, Lib.hid ⟨_, by rw [List.length_append, HM1.out]; rfl, fun r hr => by
              by_cases e : r < i
              · rw [List.getD_eq_getElem?_getD, List.getElem?_append_left (by rw [HM1.out]; exact e), ← List.getD_eq_getElem?_getD]
                exact HM2.out r e
              · obtain rfl : r = i := by omega
                rw [List.getD_eq_getElem?_getD, List.getElem?_append_right (by rw [HM1.out]; exact Nat.le_refl _), HM1.out, Nat.sub_self]
                exact HCL.out, hOR⟩, hB4⟩
            case measure => simp [intOf]; omega
      · obtain rfl : i = q := by omega
        obtain ⟨M, hM1, hM2, hO⟩ := HO.out
        have hR := hO.reads
        clear HO hO
        go_wp2
        go_ret
        exact ⟨_, M, rfl, hR, ⟨hM1, hM2⟩, hB⟩
end Go.Proofs.Ytgphfhpobppmeaa
