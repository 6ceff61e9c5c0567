/-
  The walks of cofferdamlaw04.cut.
-/
import Derived.Test.YtikgipohjoiagaaSc
namespace Go.Proofs.Ytikgipohjoiagaa
open Go.RowKit GfM

/-! ### cut -/
/-- the i-th text, at most n bytes of it. -/
def cut1 (T : List ByteArray) (n i : Nat) : ByteArray := if (tl T i).size ≤ n then tl T i else (tl T i).extract 0 n
/-- the i-th text that is cut; 'prev' are those before. -/
def cutAt (T : List ByteArray) (n : Nat) (even : Bool) (prev : List ByteArray) (i : Nat) : ByteArray :=
  if even = true ∧ 0 < i then (cut1 T n i ++ bs (List.replicate n 0)).extract 0 (tl prev 0).size else cut1 T n i
def cuts (T : List ByteArray) (n : Nat) (even : Bool) : Nat → List ByteArray
  | 0 => []
  | i + 1 => cuts T n even i ++ [cutAt T n even (cuts T n even i) i]
theorem cuts_length (T : List ByteArray) (n : Nat) (even : Bool) (i : Nat) : (cuts T n even i).length = i := by
  induction i with
  | zero => rfl
  | succ i ih => simp [cuts, ih]
theorem cut1_size (T : List ByteArray) (n i : Nat) : (cut1 T n i).size ≤ n := by
  unfold cut1; split
  · assumption
  · rw [ByteArray.size_extract]; omega
theorem cuts_first (T : List ByteArray) (n : Nat) (even : Bool) (i : Nat) : tl (cuts T n even (i + 1)) 0 = cut1 T n 0 := by
  induction i with
  | zero => simp [cuts, tl, cutAt]
  | succ i ih => rw [cuts, tl_append, if_pos (by rw [cuts_length]; omega), ih]
theorem cutAt_zero (T : List ByteArray) (n : Nat) (even : Bool) (prev : List ByteArray) : cutAt T n even prev 0 = cut1 T n 0 := by
  unfold cutAt; rw [if_neg (by omega)]
theorem cuts_even_size (T : List ByteArray) (n : Nat) (i j : Nat) (hj : j < i) : (tl (cuts T n true i) j).size = (cut1 T n 0).size := by
  induction i with
  | zero => omega
  | succ i ih =>
    rw [cuts, tl_append, cuts_length]
    by_cases h : j < i
    · rw [if_pos h, ih h]
    · rw [if_neg h]
      obtain rfl : j = i := by omega
      rw [Nat.sub_self]
      show (cutAt T n true (cuts T n true j) j).size = _
      by_cases h0 : 0 < j
      · unfold cutAt
        rw [if_pos ⟨rfl, h0⟩, ByteArray.size_extract, ByteArray.size_append, bs_size, List.length_replicate]
        obtain ⟨k, rfl⟩ : ∃ k, j = k + 1 := ⟨j - 1, by omega⟩
        rw [cuts_first]
        have := cut1_size T n 0
        omega
      · obtain rfl : j = 0 := by omega
        rw [cutAt_zero]
theorem info9 : (Try.prog.info? 9).map (fun i => (i.zero, i.size, i.bytes)) = some (some (.string ⟨#[]⟩), 1, 16) := by kernel_rfl

set_option maxRecDepth 100000 in
set_option maxHeartbeats 1000000 in
theorem cutF (w : World) (v : Value) (T : List ByteArray) (hv : Reads w v (sv T)) (n : Nat) (hn : n ≤ 1000) (x : Int) (hx : x = n) :
    Calls Try.prog 11 #[v, .int .i64 x, .bool false] w fun e w' => ∃ v', e = .returned v' ∧ Own w' w.heap.size 9 v' (sv (cuts T n false (min T.length 12))) ∧ Below w.heap.size w w' := by
  subst hx
  obtain ⟨A, c, rfl, hc1, hc2, hcell⟩ := hv.texts
  clear hv
  by_cases h0 : 0 < T.length
  · obtain ⟨b, off, rfl, hc⟩ := hcell h0
    have hc0 := hc 0 h0
    rw [Nat.add_zero] at hc0
    have hbl : b < w.heap.size := World.block_lt_of_cell? w _ hc0
    have HC := Lib.hid hc
    clear hcell hc hc0
    have hs0 : sv (cuts T n false 0) = [] := rfl
    have HS0 := Lib.hid hs0; clear hs0
    have hst : ∀ i, sv (cuts T n false (i + 1)) = sv (cuts T n false i) ++ [.string (cutAt T n false (cuts T n false i) i)] := by
      intro i
      rw [cuts, sv_append]; rfl
    have HST := Lib.hid hst; clear hst
    by_cases h12 : T.length ≤ 12
    · have hm : min T.length 12 = T.length := by omega
      rw [hm]
      clear hm
      generalize T.length = m at *
      go_enter Try.func11, Try.ntmps11
      go_wp2
      go_loopw [7, 8, 9, 16] (fun s7 _ _ s16 wr => ∃ i : Nat, i ≤ m ∧ s16 = .int .i64 i ∧ Own wr w.heap.size 9 s7 (sv (cuts T n false i)) ∧ Below w.heap.size w wr) (fun _ _ _ s16 _ => m - (intOf s16).toNat)
      case atStart => exact ⟨0, by omega, rfl, by rw [HS0.out]; exact Own.nil_ _ _ _, Below.refl _ _⟩
      case round =>
        obtain ⟨i, hi, rfl, hO, hB⟩ := hrel
        by_cases hlt : i < m
        · have hci := (hB.cell hbl).trans (HC.out i (by omega))
          have hS := HST.out i
          have hL : ((sv (cuts T n false i)).length + 1) * 16 ≤ 140737488355328 := by rw [sv_length, cuts_length]; omega
          have HL := Lib.hid hL; clear hL
          rw [show cutAt T n false (cuts T n false i) i = cut1 T n i by unfold cutAt; rw [if_neg (by simp)]] at hS
          have HO := Lib.hid hO; clear hO
          have HB := Lib.hid hB
          have HBS := Lib.hid hB.size
          by_cases hsn : (tl T i).size ≤ n
          · have h1 : cut1 T n i = tl T i := by unfold cut1; rw [if_pos hsn]
            rw [h1] at hS
            clear h1
            generalize tl T i = y at *
            have HS := Lib.hid hS; clear hS
            go_wp2_with (at_builtin; refine append_one w.heap.size rfl (.tmp 42) (.tmp 44) 22 9 (.string ⟨#[]⟩) 16 rfl Try.underlying22 info9 rfl (by decide) _ _ (.string y) rfl rfl rfl HO.out HB.out HBS.out HL.out ?_; intro v1 w1 hO1 hB1 _ _)
            go_roundw
            case rel => exact ⟨i + 1, by omega, by go_num, by rw [HS.out]; exact hO1, hB1⟩
            case measure => simp [intOf]; omega
          · have h1 : cut1 T n i = (tl T i).extract 0 n := by unfold cut1; rw [if_neg hsn]
            rw [h1] at hS
            clear h1
            generalize tl T i = s at *
            generalize hy : s.extract 0 n = y at *
            have HS := Lib.hid hS; clear hS
            go_wp2_with (at_builtin; refine append_one w.heap.size rfl (.tmp 42) (.tmp 44) 22 9 (.string ⟨#[]⟩) 16 rfl Try.underlying22 info9 rfl (by decide) _ _ (.string y) rfl rfl rfl HO.out HB.out HBS.out HL.out ?_; intro v1 w1 hO1 hB1 _ _)
            go_roundw
            case rel => exact ⟨i + 1, by omega, by go_num, by rw [HS.out]; exact hO1, hB1⟩
            case measure => simp [intOf]; omega
        · obtain rfl : i = m := by omega
          go_wp2
          go_ret
          exact ⟨_, rfl, hO, hB⟩
    · have hm : min T.length 12 = 12 := by omega
      rw [hm]
      clear hm
      generalize T.length = m at *
      have hmc : ¬ (m : Int) ≤ 12 := by omega
      have h12c : (12 : Nat) ≤ c := by omega
      go_enter Try.func11, Try.ntmps11
      go_wp2
      go_loopw [7, 8, 9, 16] (fun s7 _ _ s16 wr => ∃ i : Nat, i ≤ 12 ∧ s16 = .int .i64 i ∧ Own wr w.heap.size 9 s7 (sv (cuts T n false i)) ∧ Below w.heap.size w wr) (fun _ _ _ s16 _ => 12 - (intOf s16).toNat)
      case atStart => exact ⟨0, by omega, rfl, by rw [HS0.out]; exact Own.nil_ _ _ _, Below.refl _ _⟩
      case round =>
        obtain ⟨i, hi, rfl, hO, hB⟩ := hrel
        by_cases hlt : i < 12
        · have hci := (hB.cell hbl).trans (HC.out i (by omega))
          have hS := HST.out i
          have hL : ((sv (cuts T n false i)).length + 1) * 16 ≤ 140737488355328 := by rw [sv_length, cuts_length]; omega
          have HL := Lib.hid hL; clear hL
          rw [show cutAt T n false (cuts T n false i) i = cut1 T n i by unfold cutAt; rw [if_neg (by simp)]] at hS
          have HO := Lib.hid hO; clear hO
          have HB := Lib.hid hB
          have HBS := Lib.hid hB.size
          by_cases hsn : (tl T i).size ≤ n
          · have h1 : cut1 T n i = tl T i := by unfold cut1; rw [if_pos hsn]
            rw [h1] at hS
            clear h1
            generalize tl T i = y at *
            have HS := Lib.hid hS; clear hS
            go_wp2_with (at_builtin; refine append_one w.heap.size rfl (.tmp 42) (.tmp 44) 22 9 (.string ⟨#[]⟩) 16 rfl Try.underlying22 info9 rfl (by decide) _ _ (.string y) rfl rfl rfl HO.out HB.out HBS.out HL.out ?_; intro v1 w1 hO1 hB1 _ _)
            go_roundw
            case rel => exact ⟨i + 1, by omega, by go_num, by rw [HS.out]; exact hO1, hB1⟩
            case measure => simp [intOf]; omega
          · have h1 : cut1 T n i = (tl T i).extract 0 n := by unfold cut1; rw [if_neg hsn]
            rw [h1] at hS
            clear h1
            generalize tl T i = s at *
            generalize hy : s.extract 0 n = y at *
            have HS := Lib.hid hS; clear hS
            go_wp2_with (at_builtin; refine append_one w.heap.size rfl (.tmp 42) (.tmp 44) 22 9 (.string ⟨#[]⟩) 16 rfl Try.underlying22 info9 rfl (by decide) _ _ (.string y) rfl rfl rfl HO.out HB.out HBS.out HL.out ?_; intro v1 w1 hO1 hB1 _ _)
            go_roundw
            case rel => exact ⟨i + 1, by omega, by go_num, by rw [HS.out]; exact hO1, hB1⟩
            case measure => simp [intOf]; omega
        · obtain rfl : i = 12 := by omega
          go_wp2
          go_ret
          exact ⟨_, rfl, hO, hB⟩
  · obtain rfl : T = [] := List.eq_nil_of_length_eq_zero (by omega)
    clear hcell h0
    simp only [List.length_nil, Nat.zero_min] at *
    go_enter Try.func11, Try.ntmps11
    go_wp2
    go_loopw [7, 8, 9, 16] (fun s7 _ _ s16 wr => s16 = .int .i64 0 ∧ s7 = .slice none 0 0 ∧ wr = w) (fun _ _ _ s16 _ => 1 - (intOf s16).toNat)
    case atStart => exact ⟨rfl, rfl, rfl⟩
    case round =>
      obtain ⟨rfl, rfl, rfl⟩ := hrel
      go_wp2
      go_ret
      exact ⟨_, rfl, Own.nil_ _ _ _, Below.refl _ _⟩
set_option maxRecDepth 100000 in
set_option maxHeartbeats 1000000 in
theorem cutE (w : World) (v : Value) (T : List ByteArray) (hv : Reads w v (sv T)) (n : Nat) (hn : n ≤ 1000) (x : Int) (hx : x = n) :
    Calls Try.prog 11 #[v, .int .i64 x, .bool true] w fun e w' => ∃ v', e = .returned v' ∧ Own w' w.heap.size 9 v' (sv (cuts T n true (min T.length 12))) ∧ Below w.heap.size w w' := by
  subst hx
  obtain ⟨A, c, rfl, hc1, hc2, hcell⟩ := hv.texts
  clear hv
  by_cases h0 : 0 < T.length
  · obtain ⟨b, off, rfl, hc⟩ := hcell h0
    have hc0 := hc 0 h0
    rw [Nat.add_zero] at hc0
    have hbl : b < w.heap.size := World.block_lt_of_cell? w _ hc0
    have HC := Lib.hid hc
    clear hcell hc hc0
    have hm1 := mk_bytes n (by omega)
    have hcv : ∀ W : World, (convert 33 9 (.slice (some ⟨W.heap.size, 0, none⟩) n n)).run Try.prog (W.alloc (.cells (madeCells #[.int .u8 0] n) 5)).drew = .ok (.string (bs (List.replicate n 0))) (W.alloc (.cells (madeCells #[.int .u8 0] n) 5)).drew := by
      intro W
      have hr := (Bytes.made_zero W n (by omega)).reads
      rw [List.length_replicate] at hr
      exact reads_string (P := Try.prog) (src := 33) (dst := 9) Try.underlying33 Try.underlying5 Try.underlying9 hr.drew
    have hz : (bs (List.replicate n 0)).size = n := by rw [bs_size, List.length_replicate]
    have HCV := Lib.hid hcv; clear hcv
    have HM1 := Lib.hid hm1; clear hm1
    have hs0 : sv (cuts T n true 0) = [] := rfl
    have HS0 := Lib.hid hs0; clear hs0
    have hst : ∀ i, sv (cuts T n true (i + 1)) = sv (cuts T n true i) ++ [.string (cutAt T n true (cuts T n true i) i)] := by
      intro i
      rw [cuts, sv_append]; rfl
    have HST := Lib.hid hst; clear hst
    by_cases h12 : T.length ≤ 12
    · have hm : min T.length 12 = T.length := by omega
      rw [hm]
      clear hm
      generalize T.length = m at *
      go_enter Try.func11, Try.ntmps11
      go_wp2
      go_loopw [7, 8, 9, 16] (fun s7 _ _ s16 wr => ∃ i : Nat, i ≤ m ∧ s16 = .int .i64 i ∧ Own wr w.heap.size 9 s7 (sv (cuts T n true i)) ∧ Below w.heap.size w wr) (fun _ _ _ s16 _ => m - (intOf s16).toNat)
      case atStart => exact ⟨0, by omega, rfl, by rw [HS0.out]; exact Own.nil_ _ _ _, Below.refl _ _⟩
      case round =>
        obtain ⟨i, hi, rfl, hO, hB⟩ := hrel
        by_cases hlt : i < m
        · have hci := (hB.cell hbl).trans (HC.out i (by omega))
          have hS := HST.out i
          have hL : ((sv (cuts T n true i)).length + 1) * 16 ≤ 140737488355328 := by rw [sv_length, cuts_length]; omega
          have HL := Lib.hid hL; clear hL
          by_cases hi0 : 0 < i
          · obtain ⟨z, hz0⟩ : ∃ z, tl (cuts T n true i) 0 = z := ⟨_, rfl⟩
            have hzs : z.size ≤ n := by
              obtain ⟨k, rfl⟩ : ∃ k, i = k + 1 := ⟨i - 1, by omega⟩
              rw [← hz0, cuts_first]; exact cut1_size T n 0
            rw [show cutAt T n true (cuts T n true i) i = (cut1 T n i ++ bs (List.replicate n 0)).extract 0 z.size by unfold cutAt; rw [if_pos ⟨rfl, hi0⟩, hz0]] at hS
            have hln : (sv (cuts T n true i)).length = i := by rw [sv_length, cuts_length]
            obtain ⟨g, cap, rfl, hg1, hg2, hcap⟩ := hO.form (by omega)
            have hcz := hO.cell 0 (by omega)
            rw [sv_at _ 0 (by rw [cuts_length]; omega), hz0] at hcz
            rw [hln] at hO hcap ⊢
            clear hz0 hln
            have hm1 := HM1.out
            have hcv := HCV.out
            generalize bs (List.replicate n 0) = z8 at *
            by_cases hsn : (tl T i).size ≤ n
            · have h1 : cut1 T n i = tl T i := by unfold cut1; rw [if_pos hsn]
              rw [h1] at hS
              clear h1
              generalize tl T i = s at *
              have has : (s ++ z8).size = s.size + z8.size := ByteArray.size_append
              have HS := Lib.hid hS; clear hS
              generalize hy : (s ++ z8).extract 0 z.size = y at *
              go_wp2
              go_region
              obtain ⟨W, e, HO, HB⟩ : ∃ W, W = (wr.alloc (.cells (madeCells #[.int .u8 0] n) 5)).drew ∧ Hid (Own W w.heap.size 9 (.slice (some ⟨g, 0, none⟩) i cap) (sv (cuts T n true i))) ∧ Hid (Below w.heap.size w W) := ⟨_, rfl, Lib.hid ((hO.alloc _).drew), Lib.hid ((hB.alloc hB.size _).drew)⟩
              rw [← e]
              clear e
              have HBS := Lib.hid HB.out.size
              go_wp2_with (at_builtin; refine append_one w.heap.size rfl (.tmp 42) (.tmp 44) 22 9 (.string ⟨#[]⟩) 16 rfl Try.underlying22 info9 rfl (by decide) _ _ (.string y) rfl rfl rfl HO.out HB.out HBS.out HL.out ?_; intro v1 w1 hO1 hB1 _ _)
              go_roundw
              case rel => exact ⟨i + 1, by omega, by go_num, by rw [HS.out]; exact hO1, hB1⟩
              case measure => simp [intOf]; omega
            · have h1 : cut1 T n i = (tl T i).extract 0 n := by unfold cut1; rw [if_neg hsn]
              rw [h1] at hS
              clear h1
              generalize tl T i = s0 at *
              have hsz : (s0.extract 0 n).size = n := by rw [ByteArray.size_extract]; omega
              generalize hs1 : s0.extract 0 n = s at *
              have has : (s ++ z8).size = s.size + z8.size := ByteArray.size_append
              have HS := Lib.hid hS; clear hS
              generalize hy : (s ++ z8).extract 0 z.size = y at *
              go_wp2
              go_region
              obtain ⟨W, e, HO, HB⟩ : ∃ W, W = (wr.alloc (.cells (madeCells #[.int .u8 0] n) 5)).drew ∧ Hid (Own W w.heap.size 9 (.slice (some ⟨g, 0, none⟩) i cap) (sv (cuts T n true i))) ∧ Hid (Below w.heap.size w W) := ⟨_, rfl, Lib.hid ((hO.alloc _).drew), Lib.hid ((hB.alloc hB.size _).drew)⟩
              rw [← e]
              clear e
              have HBS := Lib.hid HB.out.size
              go_wp2_with (at_builtin; refine append_one w.heap.size rfl (.tmp 42) (.tmp 44) 22 9 (.string ⟨#[]⟩) 16 rfl Try.underlying22 info9 rfl (by decide) _ _ (.string y) rfl rfl rfl HO.out HB.out HBS.out HL.out ?_; intro v1 w1 hO1 hB1 _ _)
              go_roundw
              case rel => exact ⟨i + 1, by omega, by go_num, by rw [HS.out]; exact hO1, hB1⟩
              case measure => simp [intOf]; omega
          · rw [show cutAt T n true (cuts T n true i) i = cut1 T n i by unfold cutAt; rw [if_neg (by omega)]] at hS
            have HO := Lib.hid hO; clear hO
            have HB := Lib.hid hB
            have HBS := Lib.hid hB.size
            by_cases hsn : (tl T i).size ≤ n
            · have h1 : cut1 T n i = tl T i := by unfold cut1; rw [if_pos hsn]
              rw [h1] at hS
              clear h1
              generalize tl T i = y at *
              have HS := Lib.hid hS; clear hS
              go_wp2_with (at_builtin; refine append_one w.heap.size rfl (.tmp 42) (.tmp 44) 22 9 (.string ⟨#[]⟩) 16 rfl Try.underlying22 info9 rfl (by decide) _ _ (.string y) rfl rfl rfl HO.out HB.out HBS.out HL.out ?_; intro v1 w1 hO1 hB1 _ _)
              go_roundw
              case rel => exact ⟨i + 1, by omega, by go_num, by rw [HS.out]; exact hO1, hB1⟩
              case measure => simp [intOf]; omega
            · have h1 : cut1 T n i = (tl T i).extract 0 n := by unfold cut1; rw [if_neg hsn]
              rw [h1] at hS
              clear h1
              generalize tl T i = s at *
              generalize hy : s.extract 0 n = y at *
              have HS := Lib.hid hS; clear hS
              go_wp2_with (at_builtin; refine append_one w.heap.size rfl (.tmp 42) (.tmp 44) 22 9 (.string ⟨#[]⟩) 16 rfl Try.underlying22 info9 rfl (by decide) _ _ (.string y) rfl rfl rfl HO.out HB.out HBS.out HL.out ?_; intro v1 w1 hO1 hB1 _ _)
              go_roundw
              case rel => exact ⟨i + 1, by omega, by go_num, by rw [HS.out]; exact hO1, hB1⟩
              case measure => simp [intOf]; omega
        · obtain rfl : i = m := by omega
          go_wp2
          go_ret
          exact ⟨_, rfl, hO, hB⟩
    · have hm : min T.length 12 = 12 := by omega
      rw [hm]
      clear hm
      generalize T.length = m at *
      have hmc : ¬ (m : Int) ≤ 12 := by omega
      have h12c : (12 : Nat) ≤ c := by omega
      go_enter Try.func11, Try.ntmps11
      go_wp2
      go_loopw [7, 8, 9, 16] (fun s7 _ _ s16 wr => ∃ i : Nat, i ≤ 12 ∧ s16 = .int .i64 i ∧ Own wr w.heap.size 9 s7 (sv (cuts T n true i)) ∧ Below w.heap.size w wr) (fun _ _ _ s16 _ => 12 - (intOf s16).toNat)
      case atStart => exact ⟨0, by omega, rfl, by rw [HS0.out]; exact Own.nil_ _ _ _, Below.refl _ _⟩
      case round =>
        obtain ⟨i, hi, rfl, hO, hB⟩ := hrel
        by_cases hlt : i < 12
        · have hci := (hB.cell hbl).trans (HC.out i (by omega))
          have hS := HST.out i
          have hL : ((sv (cuts T n true i)).length + 1) * 16 ≤ 140737488355328 := by rw [sv_length, cuts_length]; omega
          have HL := Lib.hid hL; clear hL
          by_cases hi0 : 0 < i
          · obtain ⟨z, hz0⟩ : ∃ z, tl (cuts T n true i) 0 = z := ⟨_, rfl⟩
            have hzs : z.size ≤ n := by
              obtain ⟨k, rfl⟩ : ∃ k, i = k + 1 := ⟨i - 1, by omega⟩
              rw [← hz0, cuts_first]; exact cut1_size T n 0
            rw [show cutAt T n true (cuts T n true i) i = (cut1 T n i ++ bs (List.replicate n 0)).extract 0 z.size by unfold cutAt; rw [if_pos ⟨rfl, hi0⟩, hz0]] at hS
            have hln : (sv (cuts T n true i)).length = i := by rw [sv_length, cuts_length]
            obtain ⟨g, cap, rfl, hg1, hg2, hcap⟩ := hO.form (by omega)
            have hcz := hO.cell 0 (by omega)
            rw [sv_at _ 0 (by rw [cuts_length]; omega), hz0] at hcz
            rw [hln] at hO hcap ⊢
            clear hz0 hln
            have hm1 := HM1.out
            have hcv := HCV.out
            generalize bs (List.replicate n 0) = z8 at *
            by_cases hsn : (tl T i).size ≤ n
            · have h1 : cut1 T n i = tl T i := by unfold cut1; rw [if_pos hsn]
              rw [h1] at hS
              clear h1
              generalize tl T i = s at *
              have has : (s ++ z8).size = s.size + z8.size := ByteArray.size_append
              have HS := Lib.hid hS; clear hS
              generalize hy : (s ++ z8).extract 0 z.size = y at *
              go_wp2
              go_region
              obtain ⟨W, e, HO, HB⟩ : ∃ W, W = (wr.alloc (.cells (madeCells #[.int .u8 0] n) 5)).drew ∧ Hid (Own W w.heap.size 9 (.slice (some ⟨g, 0, none⟩) i cap) (sv (cuts T n true i))) ∧ Hid (Below w.heap.size w W) := ⟨_, rfl, Lib.hid ((hO.alloc _).drew), Lib.hid ((hB.alloc hB.size _).drew)⟩
              rw [← e]
              clear e
              have HBS := Lib.hid HB.out.size
              go_wp2_with (at_builtin; refine append_one w.heap.size rfl (.tmp 42) (.tmp 44) 22 9 (.string ⟨#[]⟩) 16 rfl Try.underlying22 info9 rfl (by decide) _ _ (.string y) rfl rfl rfl HO.out HB.out HBS.out HL.out ?_; intro v1 w1 hO1 hB1 _ _)
              go_roundw
              case rel => exact ⟨i + 1, by omega, by go_num, by rw [HS.out]; exact hO1, hB1⟩
              case measure => simp [intOf]; omega
            · have h1 : cut1 T n i = (tl T i).extract 0 n := by unfold cut1; rw [if_neg hsn]
              rw [h1] at hS
              clear h1
              generalize tl T i = s0 at *
              have hsz : (s0.extract 0 n).size = n := by rw [ByteArray.size_extract]; omega
              generalize hs1 : s0.extract 0 n = s at *
              have has : (s ++ z8).size = s.size + z8.size := ByteArray.size_append
              have HS := Lib.hid hS; clear hS
              generalize hy : (s ++ z8).extract 0 z.size = y at *
              go_wp2
              go_region
              obtain ⟨W, e, HO, HB⟩ : ∃ W, W = (wr.alloc (.cells (madeCells #[.int .u8 0] n) 5)).drew ∧ Hid (Own W w.heap.size 9 (.slice (some ⟨g, 0, none⟩) i cap) (sv (cuts T n true i))) ∧ Hid (Below w.heap.size w W) := ⟨_, rfl, Lib.hid ((hO.alloc _).drew), Lib.hid ((hB.alloc hB.size _).drew)⟩
              rw [← e]
              clear e
              have HBS := Lib.hid HB.out.size
              go_wp2_with (at_builtin; refine append_one w.heap.size rfl (.tmp 42) (.tmp 44) 22 9 (.string ⟨#[]⟩) 16 rfl Try.underlying22 info9 rfl (by decide) _ _ (.string y) rfl rfl rfl HO.out HB.out HBS.out HL.out ?_; intro v1 w1 hO1 hB1 _ _)
              go_roundw
              case rel => exact ⟨i + 1, by omega, by go_num, by rw [HS.out]; exact hO1, hB1⟩
              case measure => simp [intOf]; omega
          · rw [show cutAt T n true (cuts T n true i) i = cut1 T n i by unfold cutAt; rw [if_neg (by omega)]] at hS
            have HO := Lib.hid hO; clear hO
            have HB := Lib.hid hB
            have HBS := Lib.hid hB.size
            by_cases hsn : (tl T i).size ≤ n
            · have h1 : cut1 T n i = tl T i := by unfold cut1; rw [if_pos hsn]
              rw [h1] at hS
              clear h1
              generalize tl T i = y at *
              have HS := Lib.hid hS; clear hS
              go_wp2_with (at_builtin; refine append_one w.heap.size rfl (.tmp 42) (.tmp 44) 22 9 (.string ⟨#[]⟩) 16 rfl Try.underlying22 info9 rfl (by decide) _ _ (.string y) rfl rfl rfl HO.out HB.out HBS.out HL.out ?_; intro v1 w1 hO1 hB1 _ _)
              go_roundw
              case rel => exact ⟨i + 1, by omega, by go_num, by rw [HS.out]; exact hO1, hB1⟩
              case measure => simp [intOf]; omega
            · have h1 : cut1 T n i = (tl T i).extract 0 n := by unfold cut1; rw [if_neg hsn]
              rw [h1] at hS
              clear h1
              generalize tl T i = s at *
              generalize hy : s.extract 0 n = y at *
              have HS := Lib.hid hS; clear hS
              go_wp2_with (at_builtin; refine append_one w.heap.size rfl (.tmp 42) (.tmp 44) 22 9 (.string ⟨#[]⟩) 16 rfl Try.underlying22 info9 rfl (by decide) _ _ (.string y) rfl rfl rfl HO.out HB.out HBS.out HL.out ?_; intro v1 w1 hO1 hB1 _ _)
              go_roundw
              case rel => exact ⟨i + 1, by omega, by go_num, by rw [HS.out]; exact hO1, hB1⟩
              case measure => simp [intOf]; omega
        · obtain rfl : i = 12 := by omega
          go_wp2
          go_ret
          exact ⟨_, rfl, hO, hB⟩
  · obtain rfl : T = [] := List.eq_nil_of_length_eq_zero (by omega)
    clear hcell h0
    simp only [List.length_nil, Nat.zero_min] at *
    go_enter Try.func11, Try.ntmps11
    go_wp2
    go_loopw [7, 8, 9, 16] (fun s7 _ _ s16 wr => s16 = .int .i64 0 ∧ s7 = .slice none 0 0 ∧ wr = w) (fun _ _ _ s16 _ => 1 - (intOf s16).toNat)
    case atStart => exact ⟨rfl, rfl, rfl⟩
    case round =>
      obtain ⟨rfl, rfl, rfl⟩ := hrel
      go_wp2
      go_ret
      exact ⟨_, rfl, Own.nil_ _ _ _, Below.refl _ _⟩
end Go.Proofs.Ytikgipohjoiagaa
