/-
  The walks of the document's Vandermonde and Mul, of cofferdamlaw03.wakes.
-/
import Derived.Test.YtgphfhpobppmeaaRl
import Derived.Test.YtgphfhpobppmeaaWu
import Derived.Test.YtgphfhpobppmeaaVi
import Derived.Test.YtgphfhpobppmeaaMi
import Derived.Deep.RegionHeld3
namespace Go.Proofs.Ytgphfhpobppmeaa
open Go.RowKit GfM

theorem take_map_range (f : Nat → UInt8) (k c : Nat) (h : c < k) : ((List.range k).map f).take (c + 1) = ((List.range k).map f).take c ++ [f c] := by
  have hl : c < ((List.range k).map f).length := by simpa using h
  rw [List.take_succ_eq_append_getElem hl]
  simp
theorem take_rows (m : List (List UInt8)) (i : Nat) (h : i < m.length) : m.take (i + 1) = m.take i ++ [m.getD i []] := by
  rw [List.take_succ_eq_append_getElem h]
  simp [List.getD_eq_getElem?_getD, h]
/-- a row that grows in an inner loop, laid into the rows. -/
theorem ORows.push_row {wr wk w' : World} {base : Nat} {v v1 y : Value} {m : List (List UInt8)} {l : List UInt8} {vs : List Value} (hlen : vs.length = m.length) (hv : Own wr base 37 v vs)
    (h3 : ∀ r, r < m.length → Own wr base 5 (vs.getD r undef) (bv (m.getD r []))) (hb : Below wr.heap.size wr wk) (hbase : base ≤ wr.heap.size) (hy : Own wk wr.heap.size 5 y (bv l))
    (hg : wk.grownBy w' v.ownBlock) (h1 : Own w' base 37 v1 (vs ++ [y])) : ORows w' base v1 (m ++ [l]) :=
  ORows.push hlen (hv.below hb) (fun r hr => (h3 r hr).below hb) (hy.more hbase) hg h1

set_option maxRecDepth 100000 in
set_option maxHeartbeats 1000000 in
theorem rvander_any (n k : Int) (w : World) :
    Calls Try.prog 23 #[.int .i64 n, .int .i64 k] w fun e w' => ∃ v, e = .returned (.tuple #[v, .int .i64 (vdOut n k).2]) ∧ RMat w' v (vdOut n k).1 ∧ Below w.heap.size w w' := by
  by_cases h : (1 ≤ n ∧ n ≤ 16) ∧ 1 ≤ k ∧ k ≤ 16
  · obtain ⟨N, rfl⟩ : ∃ N : Nat, n = N := ⟨n.toNat, by omega⟩
    obtain ⟨K, rfl⟩ : ∃ K : Nat, k = K := ⟨k.toNat, by omega⟩
    have e : vdOut (N : Int) (K : Int) = (vdM N K, 0) := by unfold vdOut; rw [if_pos h]; rfl
    rw [e]
    have h1 : ¬ (N : Int) < 1 := by omega
    have h2 : ¬ 16 < (N : Int) := by omega
    have h3 : ¬ (K : Int) < 1 := by omega
    have h4 : ¬ 16 < (K : Int) := by omega
    clear e
    have HLM := Lib.hid (vdM_length N K)
    go_enter Try.func23, Try.ntmps23
    go_wp2
    go_loopw [6, 7, 8, 9, 10] (fun s6 s7 _ _ _ wr => ∃ i : Nat, i ≤ N ∧ s7 = .int .i64 i ∧ Hid (ORows wr w.heap.size s6 ((vdM N K).take i)) ∧ Below w.heap.size w wr) (fun _ s7 _ _ _ _ => N - (intOf s7).toNat)
    case atStart => exact ⟨0, by omega, rfl, Lib.hid (by rw [List.take_zero]; exact ORows.nil_ _ _), Below.refl _ _⟩
    case round =>
      obtain ⟨i, hi, rfl, HO, hB⟩ := hrel
      by_cases hlt : i < N
      · obtain ⟨wo, rfl⟩ : ∃ wo : World, wo = wr := ⟨_, rfl⟩
        have HROW := Lib.hid (vdM_row N K i hlt)
        have HTK := Lib.hid (take_rows (vdM N K) i (by rw [HLM.out]; exact hlt))
        go_wp2
        go_loopw [8, 9, 10] (fun s8 s9 _ wk => ∃ c : Nat, c ≤ K ∧ s9 = .int .i64 c ∧ Hid (Own wk wo.heap.size 5 s8 (bv (((List.range K).map fun c => ex (i * c)).take c))) ∧ Below wo.heap.size wo wk) (fun _ s9 _ _ => K - (intOf s9).toNat)
        case atStart => exact ⟨0, by omega, rfl, Lib.hid (Own.nil_ _ _ _), Below.refl _ _⟩
        case round =>
          obtain ⟨c, hc, rfl, HR, hBi⟩ := hrel
          by_cases hlc : c < K
          · have hp := fun W => rpow_any 2 ((i * c : Nat) : Int) 2 rfl W
            rw [pwI_ex] at hp
            have hb16 : i * c ≤ 16 * 16 := Nat.mul_le_mul (by omega) (by omega)
            have hw : wrap64 ((i : Int) * (c : Int)) = ((i * c : Nat) : Int) := by
              have e : ((i : Int) * (c : Int)) = ((i * c : Nat) : Int) := by simp
              rw [e]; unfold wrap64; omega
            have hw2 : IntKind.i64.wrap ((i : Int) * (c : Int)) = ((i * c : Nat) : Int) := by
              have e : ((i : Int) * (c : Int)) = ((i * c : Nat) : Int) := by simp
              rw [e, IntKind.wrap_i64]; omega
            have HT := Lib.hid (take_map_range (fun c => ex (i * c)) K c hlc)
            have hL : ((bv (((List.range K).map fun c => ex (i * c)).take c)).length + 1) * 1 ≤ 140737488355328 := by rw [bv_length, List.length_take]; simp; omega
            have HL := Lib.hid hL; clear hL
            have hone : bv [ex (i * c)] = [.int .u8 ((ex (i * c)).toNat : Int)] := rfl
            have HONE := Lib.hid hone; clear hone
            generalize ex (i * c) = x at *
            generalize i * c = ic at *
            have HP := Lib.hid hp; clear hp hb16
            go_wp2_with (first
              | (go_at_call 45; refine (HP.out _).mono ?_; rintro e w1 ⟨rfl, hb1⟩
                 have hO1 := HR.out.below hb1
                 have hB1 := below_then hBi hBi.size hb1)
              | (at_builtin; refine append_one wo.heap.size rfl (.tmp 39) (.tmp 41) 37 5 (.int .u8 0) 1 rfl Try.underlying37 info5 rfl (by decide) _ _ (.int .u8 (x.toNat : Int)) rfl rfl rfl hO1 hB1 hB1.size HL.out ?_; intro v1 w2 hO2 hB2 _ _))
            go_roundw
            case rel => exact ⟨c + 1, by omega, by go_num, Lib.hid (by rw [HT.out, bv_append, HONE.out]; exact hO2), hB2⟩
            case measure => simp [intOf]; omega
          · obtain rfl : c = K := by omega
            obtain ⟨vs, v1, v2, v3⟩ := HO.out
            have hy := HR.out
            rw [List.take_of_length_le (by simp), ← HROW.out] at hy
            obtain ⟨Ay, cy, rfl⟩ := hy.shape
            have hL : (vs.length + 1) * 24 ≤ 140737488355328 := by rw [v1, List.length_take, HLM.out]; omega
            have HL := Lib.hid hL; clear hL
            have HY := Lib.hid hy; clear hy
            have H1 := Lib.hid v1; clear v1
            have H2 := Lib.hid v2; clear v2
            have H3 := Lib.hid v3; clear v3
            have HV2 := Lib.hid (H2.out.below hBi)
            have hBk := below_then hB hB.size hBi
            go_wp2_with (at_builtin; refine append_one w.heap.size rfl (.tmp 43) (.tmp 45) 22 37 (.slice none 0 0) 24 rfl Try.underlying22 infoB rfl (by decide) _ vs (.slice Ay _ cy) rfl rfl rfl HV2.out hBk hBk.size HL.out ?_; intro v4 w3 hO4 hB4 hg4 _
                         have hOR := ORows.push_row H1.out H2.out H3.out hBi hB.size HY.out hg4 hO4
                         rw [← HTK.out] at hOR)
            go_roundw
            case rel => exact ⟨i + 1, by omega, by go_num, Lib.hid hOR, hB4⟩
            case measure => simp [intOf]; omega
      · obtain rfl : i = N := by omega
        have hr := HO.out.reads
        rw [List.take_of_length_le (by rw [HLM.out]; omega)] at hr
        go_wp2
        go_ret2
        exact ⟨_, rfl, hr, hB⟩
  · have e : vdOut n k = ([], 2) := by unfold vdOut; rw [if_neg h]
    rw [e]
    by_cases h1 : n < 1
    · go_enter Try.func23, Try.ntmps23
      go_wp2
      go_ret2
      exact ⟨_, rfl, RMat.nil_ _, Below.refl _ _⟩
    · by_cases h2 : 16 < n
      · go_enter Try.func23, Try.ntmps23
        go_wp2
        go_ret2
        exact ⟨_, rfl, RMat.nil_ _, Below.refl _ _⟩
      · by_cases h3 : k < 1
        · go_enter Try.func23, Try.ntmps23
          go_wp2
          go_ret2
          exact ⟨_, rfl, RMat.nil_ _, Below.refl _ _⟩
        · have h4 : 16 < k := by omega
          go_enter Try.func23, Try.ntmps23
          go_wp2
          go_ret2
          exact ⟨_, rfl, RMat.nil_ _, Below.refl _ _⟩

/-! ### cofferdamlaw03.wakes -/
/-- a matrix of two rows that is written out. -/
theorem lit_rmat (w : World) (a b c d : UInt8) : RMat (((w.alloc (.cells #[.int .u8 (a.toNat : Int), .int .u8 (b.toNat : Int)] 5)).alloc (.cells #[.int .u8 (c.toNat : Int), .int .u8 (d.toNat : Int)] 5)).alloc
    (.cells #[.slice (some ⟨w.heap.size, 0, none⟩) 2 2, .slice (some ⟨w.heap.size + 1, 0, none⟩) 2 2] 37)) (.slice (some ⟨w.heap.size + 1 + 1, 0, none⟩) 2 2) [[a, b], [c, d]] := by
  have h1 := Own.lit_ w w.heap.size 5 #[.int .u8 (a.toNat : Int), .int .u8 (b.toNat : Int)] (Nat.le_refl _) (by simp [maxLen])
  have h2 := Own.lit_ (w.alloc (.cells #[.int .u8 (a.toNat : Int), .int .u8 (b.toNat : Int)] 5)) w.heap.size 5 #[.int .u8 (c.toNat : Int), .int .u8 (d.toNat : Int)] (by simp) (by simp [maxLen])
  have h3 := Own.lit_ ((w.alloc (.cells #[.int .u8 (a.toNat : Int), .int .u8 (b.toNat : Int)] 5)).alloc (.cells #[.int .u8 (c.toNat : Int), .int .u8 (d.toNat : Int)] 5)) w.heap.size 37
    #[.slice (some ⟨w.heap.size, 0, none⟩) 2 2, .slice (some ⟨w.heap.size + 1, 0, none⟩) 2 2] (by simp; omega) (by simp [maxLen])
  simp only [World.size_alloc] at h2 h3
  refine ⟨_, rfl, h3.reads, fun r hr => ?_⟩
  have : r = 0 ∨ r = 1 := by simp at hr; omega
  rcases this with rfl | rfl
  · exact ((h1.alloc _).alloc _).reads
  · exact (h2.alloc _).reads
set_option maxHeartbeats 1000000 in
theorem wakes03 (w : World) : Calls Try.prog 14 #[] w fun e w' => e = .returned (.bool true) ∧ Below w.heap.size w w' := by
  have h1 := invert_any _ _ _ (lit_rmat w 1 1 1 2)
  have hl2 := fun W => lit_rmat W 0xf5 0xf4 0xf4 0xf4
  have u1 : ((1 : UInt8).toNat : Int) = 1 := rfl
  have u2 : ((2 : UInt8).toNat : Int) = 2 := rfl
  have u3 : ((0xf5 : UInt8).toNat : Int) = 245 := rfl
  have u4 : ((0xf4 : UInt8).toNat : Int) = 244 := rfl
  rw [u1, u2] at h1
  simp only [u3, u4] at hl2
  have HI := Lib.hid h1; clear h1
  have HL2 := Lib.hid hl2; clear hl2
  clear u1 u2 u3 u4
  have hB0 : Below w.heap.size w (((w.alloc (.cells #[.int .u8 1, .int .u8 1] 5)).alloc (.cells #[.int .u8 1, .int .u8 2] 5)).alloc
    (.cells #[.slice (some ⟨w.heap.size, 0, none⟩) 2 2, .slice (some ⟨w.heap.size + 1, 0, none⟩) 2 2] 37)) :=
    (((Below.refl _ _).alloc (Nat.le_refl _) _).alloc (by simp) _).alloc (by simp; omega) _
  go_enter Try.func14, Try.ntmps14
  go_wp2_with fail
  refine (HI.out).mono ?_
  rintro e w1 ⟨v, X, e0, rfl, hR, hInv, hb1⟩
  obtain ⟨rfl, rfl⟩ := wk_of hInv
  have hB1 := below_then hB0 hB0.size hb1
  clear hInv hB0
  have hR1 := ((Below.refl w1.heap.size w1).alloc (Nat.le_refl _) (.cells #[.int .u8 245, .int .u8 244] 5))
  go_wp2_with fail
  have hb2 : Below w1.heap.size w1 (((w1.alloc (.cells #[.int .u8 245, .int .u8 244] 5)).alloc (.cells #[.int .u8 244, .int .u8 244] 5)).alloc
    (.cells #[.slice (some ⟨w1.heap.size, 0, none⟩) 2 2, .slice (some ⟨w1.heap.size + 1, 0, none⟩) 2 2] 37)) :=
    (((Below.refl _ _).alloc (Nat.le_refl _) _).alloc (by simp) _).alloc (by simp; omega) _
  have hs := same_any _ _ _ wkX [[0xf5, 0xf4], [0xf4, 0xf4]] (hR.below hb2) (HL2.out w1)
  have hdec : decide (wkX = [[0xf5, 0xf4], [0xf4, 0xf4]]) = true := decide_eq_true rfl
  rw [hdec] at hs
  refine hs.mono ?_
  rintro e w2 ⟨rfl, hb3⟩
  have hB3 := below_then (below_then hB1 hB1.size hb2) (Nat.le_trans hB1.size hb2.size) hb3
  have hg := good_any w2 v wkX ((hR.below hb2).below hb3)
  rw [wkX_good] at hg
  have HG := Lib.hid hg; clear hg hs hdec
  go_wp2_with fail
  refine (HG.out).mono ?_
  rintro e w3 ⟨rfl, hb4⟩
  have hB4 := below_then hB3 hB3.size hb4
  go_wp2
  go_ret
  exact ⟨rfl, hB4⟩
end Go.Proofs.Ytgphfhpobppmeaa
