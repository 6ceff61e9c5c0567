/-
  The walks of the document's without, Determinant and Invert.
-/
import Derived.Test.YtgphfhpobppmeaaDt
import Derived.Test.YtgphfhpobppmeaaRn
namespace Go.Proofs.Ytgphfhpobppmeaa
open Go.RowKit GfM

/-! ### rows and columns left out, plain -/
/-- the numbers below k but c. -/
def but (c k : Nat) : List Nat := (List.range k).filter fun j => decide (j ≠ c)
theorem but_yes {c k : Nat} (h : k ≠ c) : but c (k + 1) = but c k ++ [k] := by
  unfold but
  rw [List.range_succ, List.filter_append]
  simp [h]
theorem but_no (c : Nat) : but c (c + 1) = but c c := by
  unfold but
  rw [List.range_succ, List.filter_append]
  simp
theorem but_low {c k : Nat} (h : k ≤ c) : but c k = List.range k := by
  unfold but
  rw [List.filter_eq_self]
  intro j hj
  have := List.mem_range.1 hj
  simp; omega
theorem but_all {c n : Nat} (h : c ≤ n) : but c (n + 1) = (List.range n).map (sk c) := by
  induction n with
  | zero =>
    obtain rfl : c = 0 := by omega
    rfl
  | succ n ih =>
    by_cases e : c = n + 1
    · subst e
      rw [but_no, but_low (Nat.le_refl _)]
      apply List.ext_getElem (by simp)
      intro i h1 h2
      simp only [List.getElem_range, List.getElem_map]
      rw [sk_lt (by simpa using h1)]
    · rw [but_yes (by omega), ih (by omega), List.range_succ, List.map_append]
      show _ = _ ++ [sk c n]
      rw [sk_ge (by omega)]
theorem but_len (c k : Nat) : (but c k).length ≤ k := by
  unfold but
  have := List.length_filter_le (fun j => decide (j ≠ c)) (List.range k)
  rwa [List.length_range] at this
/-- row i, without column c, of the first k columns. -/
def wR (M : List (List UInt8)) (c i k : Nat) : List UInt8 := (but c k).map fun j => en M i j
theorem wR_yes (M : List (List UInt8)) {c i k : Nat} (h : k ≠ c) : wR M c i (k + 1) = wR M c i k ++ [en M i k] := by
  unfold wR; rw [but_yes h, List.map_append]; rfl
theorem wR_no (M : List (List UInt8)) (c i : Nat) : wR M c i (c + 1) = wR M c i c := by
  unfold wR; rw [but_no]
theorem wR_len (M : List (List UInt8)) (c i k : Nat) : (wR M c i k).length ≤ k := by
  unfold wR; rw [List.length_map]; exact but_len c k
/-- the first k rows, without row r. -/
def wL (M : List (List UInt8)) (n r c k : Nat) : List (List UInt8) := (but r k).map fun i => wR M c i n
theorem wL_yes (M : List (List UInt8)) (n : Nat) {r c k : Nat} (h : k ≠ r) : wL M n r c (k + 1) = wL M n r c k ++ [wR M c k n] := by
  unfold wL; rw [but_yes h, List.map_append]; rfl
theorem wL_no (M : List (List UInt8)) (n r c : Nat) : wL M n r c (r + 1) = wL M n r c r := by
  unfold wL; rw [but_no]
theorem wL_len (M : List (List UInt8)) (n r c k : Nat) : (wL M n r c k).length ≤ k := by
  unfold wL; rw [List.length_map]; exact but_len r k
theorem wL_row (M : List (List UInt8)) (n r c i : Nat) (hr : r ≤ n) (hi : i < n) : (wL M (n + 1) r c (n + 1)).getD i [] = wR M c (sk r i) (n + 1) := by
  unfold wL
  rw [but_all hr, List.map_map, List.getD_eq_getElem?_getD, List.getElem?_map, List.getElem?_range hi]; rfl
theorem wL_shp (M : List (List UInt8)) (n r c : Nat) (hr : r ≤ n) (hc : c ≤ n) : Shp (wL M (n + 1) r c (n + 1)) n n := by
  refine ⟨by unfold wL; rw [but_all hr]; simp, fun i hi => ?_⟩
  rw [wL_row M n r c i hr hi]
  unfold wR
  rw [but_all hc]; simp
theorem wL_en (M : List (List UInt8)) (n r c i j : Nat) (hr : r ≤ n) (hc : c ≤ n) (hi : i < n) (hj : j < n) : en (wL M (n + 1) r c (n + 1)) i j = wo (en M) r c i j := by
  unfold en wo
  rw [wL_row M n r c i hr hi]
  unfold wR
  rw [but_all hc, List.map_map, List.getD_eq_getElem?_getD, List.getElem?_map, List.getElem?_range hj]; rfl
theorem wL_det (M : List (List UInt8)) (n r c : Nat) (hr : r ≤ n) (hc : c ≤ n) : det n (en (wL M (n + 1) r c (n + 1))) = det n (wo (en M) r c) :=
  det_congr n fun i j hi hj => wL_en M n r c i j hr hc hi hj

/-! ### without -/
theorem eqN {a b : Nat} (h : a = b) : (((a : Nat) : Int) == ((b : Nat) : Int)) = true := by rw [h]; simp
theorem eqN_no {a b : Nat} (h : a ≠ b) : (((a : Nat) : Int) == ((b : Nat) : Int)) = false := by rw [beq_eq_false_iff_ne]; omega
set_option maxRecDepth 100000 in
set_option maxHeartbeats 1000000 in
theorem without_any (w : World) (v : Value) (M : List (List UInt8)) (hv : RMat w v M) (n : Nat) (hS : Shp M n n) (hn1 : 1 ≤ n) (hn : n ≤ 16) (r c : Nat) (ri : Int) (hri : ri = (r : Int)) :
    Calls Try.prog 34 #[v, .int .i64 ri, .int .i64 (c : Int)] w fun e w' => ∃ v', e = .returned v' ∧ RMat w' v' (wL M n r c n) ∧ Below w.heap.size w w' := by
  obtain ⟨b, o, cp, rfl, hcp, hbw⟩ := hv.at_ (by rw [hS.1]; exact hn1)
  have hML : M.length = n := hS.1
  have HS := Lib.hid hS; clear hS
  have HV := Lib.hid hv; clear hv
  have HML := Lib.hid hML
  rw [hML] at hcp ⊢
  clear hML
  have HRI := Lib.hid hri; clear hri
  go_enter Try.func34, Try.ntmps34
  go_wp2
  go_loopw [7, 8, 9, 10] (fun s7 s8 _ _ wr => ∃ i : Nat, i ≤ n ∧ s8 = .int .i64 i ∧ Hid (ORows wr w.heap.size s7 (wL M n r c i)) ∧ Below w.heap.size w wr) (fun _ s8 _ _ _ => n - (intOf s8).toNat)
  case atStart => exact ⟨0, by omega, rfl, Lib.hid (ORows.nil_ _ _), Below.refl _ _⟩
  case round =>
    obtain ⟨i, hi, rfl, HO, hB⟩ := hrel
    by_cases hlt : i < n
    · have hin : (i : Int) < (n : Int) := by omega
      obtain ⟨wq, rfl⟩ : ∃ wq : World, wq = wr := ⟨_, rfl⟩
      by_cases e : i = r
      · subst e
        have hq : ((i : Int) == ri) = true := by rw [HRI.out]; simp
        have HO2 : Hid (ORows wq w.heap.size u7 (wL M n i c (i + 1))) := by rw [wL_no]; exact HO
        clear HO
        go_wp2
        go_roundw
        case rel => exact ⟨i + 1, by omega, by go_num, HO2, hB⟩
        case measure => simp [intOf]; omega
      · have hq : ((i : Int) == ri) = false := by rw [HRI.out]; exact eqN_no e
        have HWY := Lib.hid (wL_yes M n (c := c) e)
        go_wp2
        go_loopw [9, 10] (fun s9 s10 wk => ∃ j : Nat, j ≤ n ∧ s10 = .int .i64 j ∧ Hid (Own wk wq.heap.size 5 s9 (bv (wR M c i j))) ∧ Below wq.heap.size wq wk) (fun _ s10 _ => n - (intOf s10).toNat)
        case atStart => exact ⟨0, by omega, rfl, Lib.hid (Own.nil_ _ _ _), Below.refl _ _⟩
        case round =>
          obtain ⟨j, hj, rfl, HR, hBi⟩ := hrel
          by_cases hlj : j < n
          · have hjn : (j : Int) < (n : Int) := by omega
            by_cases e2 : j = c
            · subst e2
              have hq2 : ((j : Int) != (j : Int)) = false := by simp
              have HR2 : Hid (Own wr wq.heap.size 5 u9 (bv (wR M j i (j + 1)))) := by rw [wR_no]; exact HR
              clear HR
              go_wp2
              go_roundw
              case rel => exact ⟨j + 1, by omega, by go_num, HR2, hBi⟩
              case measure => simp [intOf]; omega
            · have hq2 : ((j : Int) != (c : Int)) = true := by rw [bne_iff_ne]; omega
              have hbk := below_then hB hB.size hBi
              obtain ⟨b1, o1, c1, hx1, hx2, hx3⟩ := RMat.el (HV.out.below hbk) i j (by rw [HML.out]; exact hlt) (by rw [HS.out.2 i hlt]; exact hlj)
              rw [HS.out.2 i hlt] at hx1 hx2
              have HRY := Lib.hid (wR_yes M (i := i) e2)
              have hL : ((bv (wR M c i j)).length + 1) * 1 ≤ 140737488355328 := by rw [bv_length]; have := wR_len M c i j; omega
              have HL := Lib.hid hL; clear hL
              have hone : bv [en M i j] = [.int .u8 ((en M i j).toNat : Int)] := rfl
              have HONE := Lib.hid hone; clear hone
              generalize en M i j = x at *
              go_wp2_with (at_builtin; refine append_one wq.heap.size rfl (.tmp 29) (.tmp 37) 37 5 (.int .u8 0) 1 rfl Try.underlying37 info5 rfl (by decide) _ _ (.int .u8 (x.toNat : Int)) rfl rfl rfl HR.out hBi hBi.size HL.out ?_; intro v1 w2 hO2 hB2 _ _)
              go_roundw
              case rel => exact ⟨j + 1, by omega, by go_num, Lib.hid (by rw [HRY.out, bv_append, HONE.out]; exact hO2), hB2⟩
              case measure => simp [intOf]; omega
          · obtain rfl : j = n := by omega
            obtain ⟨vs, v1, v2, v3⟩ := HO.out
            have hy := HR.out
            obtain ⟨Ay, cy, rfl⟩ := hy.shape
            have hL : (vs.length + 1) * 24 ≤ 140737488355328 := by rw [v1]; have := wL_len M j r c i; omega
            have HL := Lib.hid hL; clear hL
            have HY := Lib.hid hy; clear hy
            have H1 := Lib.hid v1; clear v1
            have H2 := Lib.hid v2; clear v2
            have H3 := Lib.hid v3; clear v3
            have HV2 := Lib.hid (H2.out.below hBi)
            have hBk := below_then hB hB.size hBi
            go_wp2_with (at_builtin; refine append_one w.heap.size rfl (.tmp 39) (.tmp 41) 22 37 (.slice none 0 0) 24 rfl Try.underlying22 infoB rfl (by decide) _ vs (.slice Ay _ cy) rfl rfl rfl HV2.out hBk hBk.size HL.out ?_; intro v4 w3 hO4 hB4 hg4 _
                         have hOR := ORows.push_row H1.out H2.out H3.out hBi hB.size HY.out hg4 hO4
                         rw [← HWY.out] at hOR)
            go_roundw
            case rel => exact ⟨i + 1, by omega, by go_num, Lib.hid hOR, hB4⟩
            case measure => simp [intOf]; omega
    · obtain rfl : i = n := by omega
      have hr := HO.out.reads
      go_wp2
      go_ret
      exact ⟨_, rfl, hr, hB⟩
end Go.Proofs.Ytgphfhpobppmeaa
