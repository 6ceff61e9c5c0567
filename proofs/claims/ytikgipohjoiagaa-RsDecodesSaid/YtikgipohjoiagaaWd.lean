/-
  Identity and Vandermonde once more: the matrix is the call's own. The walks are We's own text.
-/
import Derived.Test.YtikgipohjoiagaaWe
namespace Go.Proofs.Ytikgipohjoiagaa
open Go.RowKit GfM

set_option maxRecDepth 100000 in
set_option maxHeartbeats 400000 in
theorem identity_om (k : Nat) (h1 : 1 ≤ (k : Int)) (h2 : (k : Int) ≤ 16) (w : World) :
    Calls Try.prog 38 #[.int .i64 k] w fun e w' => e = .returned (.tuple #[.slice (some ⟨w.heap.size, 0, none⟩) k k, .int .i64 0]) ∧ OM w' w.heap.size w.heap.size k k (fun r => (idM k).getD r []) ∧ Below w.heap.size w w' := by
    have hk : k ≤ 16 := by omega
    go_enter Try.func38, Try.ntmps38
    go_wp2_with fail
    refine (may_yes _ h1 h2 _).mono ?_
    rintro e w' ⟨rfl, rfl⟩
    go_wp2_with fail
    refine (empty_any k k hk hk _).mono ?_
    rintro e w1 ⟨rfl, hM1, hB1⟩
    go_wp2_with fail
    obtain ⟨G, hG⟩ : ∃ G, w.heap.size = G := ⟨_, rfl⟩
    rw [hG] at hM1 ⊢
    have HG := Lib.hid hG; clear hG
    go_loopw [5, 13] (fun _ s13 wr => ∃ i : Nat, i ≤ k ∧ s13 = .int .i64 i ∧ OM wr G G k k (idRow k i) ∧ Below w.heap.size w wr) (fun _ s13 _ => k - (intOf s13).toNat)
    case atStart =>
      refine ⟨0, by omega, rfl, hM1.congr fun r _ => ?_, hB1⟩
      unfold idRow; rw [if_neg (by omega)]
    case round =>
      clear hM1 hB1
      obtain ⟨i, hi, rfl, hM, hB⟩ := hrel
      by_cases hlt : i < k
      · obtain ⟨g, c, hc1, hc2, hf, hg, hgl, hlc, _, hst⟩ := hM.elem i i hlt (by rw [idRow_length]; exact hlt)
        rw [idRow_length] at hc1 hlc
        have hst1 := (hst 1).congr fun r _ => idRow_step k i r
        have HS := Lib.hid hst1; clear hst1 hst
        go_wp2
        go_roundw
        case rel => exact ⟨i + 1, by omega, by go_num, HS.out, hB.setCell (by have := HG.out; simp; omega) _⟩
        case measure => simp [intOf]; omega
      · obtain rfl : i = k := by omega
        go_wp2
        go_ret2
        refine ⟨by rw [HG.out]; rfl, ?_, hB⟩
        rw [HG.out]
        refine hM.congr fun r hr => ?_
        rw [idM_row _ _ hr]
        unfold idRow; rw [if_pos hr]
set_option maxRecDepth 100000 in
set_option maxHeartbeats 1000000 in
theorem vandermonde_om (n k : Nat) (h1 : 1 ≤ (n : Int)) (h2 : (n : Int) ≤ 16) (h3 : 1 ≤ (k : Int)) (h4 : (k : Int) ≤ 16) (w : World) :
    Calls Try.prog 39 #[.int .i64 n, .int .i64 k] w fun e w' => e = .returned (.tuple #[.slice (some ⟨w.heap.size, 0, none⟩) n n, .int .i64 0]) ∧ OM w' w.heap.size w.heap.size n n (fun r => (vdM n k).getD r []) ∧ Below w.heap.size w w' := by
      have hn16 : n ≤ 16 := by omega
      have hk16 : k ≤ 16 := by omega
      go_enter Try.func39, Try.ntmps39
      go_wp2_with fail
      refine (may_yes _ h1 h2 _).mono ?_
      rintro e w' ⟨rfl, rfl⟩
      go_wp2_with fail
      refine (may_yes _ h3 h4 _).mono ?_
      rintro e w' ⟨rfl, rfl⟩
      go_wp2_with fail
      refine (empty_any n k hn16 hk16 _).mono ?_
      rintro e w1 ⟨rfl, hM1, hB1⟩
      go_wp2_with fail
      obtain ⟨G, hG⟩ : ∃ G, w.heap.size = G := ⟨_, rfl⟩
      rw [hG] at hM1 ⊢
      have HG := Lib.hid hG; clear hG
      go_loopw [7, 8, 21, 25] (fun _ _ s21 _ wr => ∃ i : Nat, i ≤ n ∧ s21 = .int .i64 i ∧ OM wr G G n n (vdRow k i 0) ∧ Below w.heap.size w wr) (fun _ _ s21 _ _ => n - (intOf s21).toNat)
      case atStart =>
        refine ⟨0, by omega, rfl, hM1.congr fun r _ => ?_, hB1⟩
        unfold vdRow
        rw [if_neg (by omega)]
        split
        · unfold vdPart
          apply List.ext_getElem
          · simp
          · intro j h1 h2; simp
        · rfl
      case round =>
        clear hM1 hB1
        obtain ⟨i, hi, rfl, hM, hB⟩ := hrel
        by_cases hlt : i < n
        · obtain ⟨wo, rfl⟩ : ∃ wo : World, wo = wr := ⟨_, rfl⟩
          go_wp2
          go_loopw [8, 25] (fun _ s25 wi => ∃ c : Nat, c ≤ k ∧ s25 = .int .i64 c ∧ OM wi G G n n (vdRow k i c) ∧ Below w.heap.size w wi) (fun _ s25 _ => k - (intOf s25).toNat)
          case atStart => exact ⟨0, by omega, rfl, hM, hB⟩
          case round =>
            clear hM hB
            obtain ⟨c, hc, rfl, hM, hB⟩ := hrel
            by_cases hlc : c < k
            · obtain ⟨g, kk, hc1, hc2, hf, hg, hgl, hlc2, _, hst⟩ := hM.elem i c hlt (by rw [vdRow_length]; exact hlc)
              rw [vdRow_length] at hc1 hlc2
              have hst1 := (hst (ex (i * c))).congr fun r _ => vdRow_set k i c r hlc
              have HS := Lib.hid hst1; clear hst1 hst
              have hp := fun W => pow_any 2 ((i * c : Nat) : Int) 2 rfl W
              rw [pwI_ex] at hp
              have hb16 : i * c ≤ 16 * 16 := Nat.mul_le_mul (by omega) (by omega)
              have hw : wrap64 ((i : Int) * (c : Int)) = ((i * c : Nat) : Int) := by
                have e : ((i : Int) * (c : Int)) = ((i * c : Nat) : Int) := by simp
                rw [e]; unfold wrap64; omega
              have hw2 : IntKind.i64.wrap ((i : Int) * (c : Int)) = ((i * c : Nat) : Int) := by
                have e : ((i : Int) * (c : Int)) = ((i * c : Nat) : Int) := by simp
                rw [e, IntKind.wrap_i64]; omega
              generalize (vdRow k i c i).getD c 0 = old at *
              generalize ex (i * c) = x at *
              generalize i * c = ic at *
              have HP := Lib.hid hp; clear hp hb16
              go_wp2
              go_region_with (go_at_call 26; refine (HP.out _).mono ?_; rintro e w' ⟨rfl, rfl⟩)
              all_goals
                go_wp2
                go_roundw
                case rel => exact ⟨c + 1, by omega, by go_num, HS.out.drew, (hB.setCell (by have := HG.out; simp; omega) _).drew⟩
                case measure => simp [intOf]; omega
            · obtain rfl : c = k := by omega
              go_wp2
              go_roundw
              case rel => exact ⟨i + 1, by omega, by go_num, hM.congr fun r _ => vdRow_next c i r, hB⟩
              case measure => simp [intOf]; omega
        · obtain rfl : i = n := by omega
          go_wp2
          go_ret2
          refine ⟨by rw [HG.out]; rfl, ?_, hB⟩
          rw [HG.out]
          refine hM.congr fun r hr => ?_
          rw [vdM_row _ _ _ hr]
          unfold vdRow; rw [if_pos hr, vdPart_all]
end Go.Proofs.Ytikgipohjoiagaa
