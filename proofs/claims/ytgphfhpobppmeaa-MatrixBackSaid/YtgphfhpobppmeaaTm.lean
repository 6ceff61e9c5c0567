/-
  The law MatrixBack: plain, and its walk.
-/
import Derived.Test.YtgphfhpobppmeaaTf
import Derived.Test.YtgphfhpobppmeaaRp
import Derived.Test.YtgphfhpobppmeaaWu
namespace Go.Proofs.Ytgphfhpobppmeaa
open Go.RowKit GfM

theorem good_sq {M : List (List UInt8)} {n : Nat} (h : Shp M n n) (h1 : 1 ≤ n) (h2 : n ≤ 16) : goodM M = true := by
  have h0 := h.2 0 (by omega)
  exact (good_iff M).2 ⟨by rw [h.1]; exact h1, by rw [h.1]; exact h2, by omega, by omega, ⟨rfl, fun r hr => by rw [h.2 r (by rw [← h.1]; exact hr), h0]⟩⟩
theorem idM_shp (n : Nat) : Shp (idM n) n n := ⟨idM_length n, fun r hr => by rw [idM_row n r hr]; exact unitRow_length n r⟩
theorem idM_en (n r c : Nat) (hr : r < n) (hc : c < n) : en (idM n) r c = dl r c := by
  unfold en; rw [idM_row n r hr, unitRow_at n r c hr hc]
theorem mul_id {A B : List (List UInt8)} {n : Nat} (h1 : 1 ≤ n) (h2 : n ≤ 16) (hA : Shp A n n) (hB : Shp B n n) (h : ∀ r c, r < n → c < n → mm n (en A) (en B) r c = dl r c) : mulOut A B = (idM n, 0) := by
  have gA := good_sq hA h1 h2
  have gB := good_sq hB h1 h2
  have hb0 := hB.2 0 (by omega)
  unfold mulOut
  rw [if_neg (by rw [gA, gB]; decide), if_neg (by rw [hA.2 0 (by omega), hB.1]; simp)]
  congr 1
  have hs : Shp (mulM A B) n n := ⟨by rw [mulM_length, hA.1], fun r hr => by rw [mulM_row A B r (by rw [hA.1]; exact hr), List.length_map, List.length_range, hb0]⟩
  refine shp_ext hs (idM_shp n) fun r c hr hc => ?_
  rw [idM_en n r c hr hc, ← h r c hr hc]
  unfold en
  rw [mulM_row A B r (by rw [hA.1]; exact hr), List.getD_eq_getElem?_getD, List.getElem?_map, List.getElem?_range (by rw [hb0]; exact hc), hB.1]
  rfl
/-- what Invert's answer is at a square matrix of n rows, n may be 0. -/
theorem back_plain {M X : List (List UInt8)} {e : Int} {n : Nat} (hM : Shp M n n) (h16 : n ≤ 16) (h : InvR M X e) :
    (e ≠ 0 ∧ X = [] ∧ (0 < n ∨ e = 4)) ∨ (e = 0 ∧ 1 ≤ n ∧ X.length = n ∧ mulOut M X = (idM n, 0) ∧ mulOut X M = (idM n, 0)) := by
  by_cases h1 : 1 ≤ n
  · have hg := good_sq hM h1 h16
    have hs : M.length = (M.getD 0 []).length := by rw [hM.1, hM.2 0 (by omega)]
    rcases invR_sq h hg hs with ⟨he, hX, hi⟩ | ⟨he, hX, _⟩
    · rw [hM.1] at hX hi
      exact .inr ⟨he, h1, hX.1, mul_id h1 h16 hM hX hi.1, mul_id h1 h16 hX hM hi.2⟩
    · exact .inl ⟨by rw [he]; decide, hX, .inl (by omega)⟩
  · have hn : n = 0 := by omega
    have hbad : goodM M = false := good_no (by rw [hM.1]; omega)
    cases h with
    | bad _ => exact .inl ⟨by decide, rfl, .inr rfl⟩
    | shape h _ => rw [hbad] at h; cases h
    | done h _ _ => rw [hbad] at h; cases h

set_option maxRecDepth 100000 in
set_option maxHeartbeats 2000000 in
theorem matrixBack_walk (w : World) (v : Value) (x : List (List UInt8)) (hv : RMat w v x) :
    Calls Try.prog 8 #[v] w fun e w' => e = .returned (.bool true) ∧ Below w.heap.size w w' := by
  have hfew := few_any w v x hv 16 (by decide) (by decide) 16 rfl
  have h16 : min x.length 16 ≤ 16 := by omega
  generalize min x.length 16 = n at *
  have HFEW := Lib.hid hfew; clear hfew hv
  go_enter Try.func8, Try.ntmps8
  go_wp2_with fail
  refine (HFEW.out).mono ?_
  rintro e w1 ⟨vm, M, rfl, hRm, hS, hB1⟩
  have hcp := copied_any w1 vm M hRm (by rw [hS.1]; omega) (fun r hr => by rw [hS.2 r (by rw [← hS.1]; exact hr)]; omega)
  have HCP := Lib.hid hcp; clear hcp
  go_wp2_with fail
  refine (HCP.out).mono ?_
  rintro e w2 ⟨vc, rfl, hRc, hb2⟩
  have hB2 := below_then hB1 hB1.size hb2
  have hRm2 := hRm.below hb2
  have hiv := invert_any w2 vm M hRm2
  have HIV := Lib.hid hiv; clear hiv
  go_wp2_with fail
  refine (HIV.out).mono ?_
  rintro e w3 ⟨va, X, e0, rfl, hRa, hInv, hb3⟩
  have hB3 := below_then hB2 hB2.size hb3
  have hRm3 := hRm2.below hb3
  have hRc3 := hRc.below hb3
  have hlaw := back_plain hS h16 hInv
  have HLAW := Lib.hid hlaw; clear hlaw hInv
  clear hRm hRc hRm2 hb2 hb3
  go_wp2_with fail
  refine (wakes03 _).mono ?_
  rintro e w4 ⟨rfl, hb4⟩
  have hB4 := below_then hB3 hB3.size hb4
  have hRm4 := hRm3.below hb4
  have hRc4 := hRc3.below hb4
  have hRa4 := hRa.below hb4
  have hs1 := same_self w4 vm vc M hRm4 hRc4
  have HS1 := Lib.hid hs1; clear hs1
  go_wp2_with fail
  refine (HS1.out).mono ?_
  rintro e w5 ⟨rfl, hb5⟩
  have hB5 := below_then hB4 hB4.size hb5
  have hRm5 := hRm4.below hb5
  have hRc5 := hRc4.below hb5
  have hRa5 := hRa4.below hb5
  clear hRm3 hRc3 hRa hRm4 hRc4 hRa4 hb4 hb5
  rcases HLAW.out with ⟨he, rfl, hcase⟩ | ⟨rfl, hn1, hXl, hm1, hm2⟩
  · have hb : (e0 != 0) = true := by rw [bne_iff_ne]; exact he
    go_wp2_with fail
    refine (wakes03 _).mono ?_
    rintro e w6 ⟨rfl, hb6⟩
    have hB6 := below_then hB5 hB5.size hb6
    have hs2 := same_self w6 vm vc M (hRm5.below hb6) (hRc5.below hb6)
    have HS2 := Lib.hid hs2; clear hs2
    obtain ⟨Aa, ca, rfl, _, _, _⟩ := hRa5.shape
    have hMl := hS.1
    obtain ⟨Am, cm, rfl, _, _, _⟩ := hRm5.shape
    rw [hMl] at HS2 ⊢
    clear hRa5 hRm5 hRc5
    go_wp2_with fail
    refine (HS2.out).mono ?_
    rintro e w7 ⟨rfl, hb7⟩
    have hB7 := below_then hB6 hB6.size hb7
    clear hS hMl
    rcases hcase with hn | rfl
    · have hn0 : decide (0 < (n : Int)) = true := decide_eq_true (by omega)
      go_wp2
      go_ret
      exact ⟨by simp, hB7⟩
    · by_cases hn : 0 < n
      · have hn0 : decide (0 < (n : Int)) = true := decide_eq_true (by omega)
        go_wp2
        go_ret
        exact ⟨by simp, hB7⟩
      · have hn0 : decide (0 < (n : Int)) = false := decide_eq_false (by omega)
        go_wp2
        go_ret
        exact ⟨by simp, hB7⟩
  · have hid := fun W => identity_any (n : Int) W
    have eid : idOut (n : Int) = (idM n, 0) := by unfold idOut; rw [if_pos (by omega)]; rfl
    rw [eid] at hid
    have HID := Lib.hid hid; clear hid eid
    have hk1 := fun W a b => mulm_any W a b M X
    have hk2 := fun W a b => mulm_any W a b X M
    rw [hm1] at hk1
    rw [hm2] at hk2
    have HK1 := Lib.hid hk1; clear hk1 hm1
    have HK2 := Lib.hid hk2; clear hk2 hm2
    have hMl := hS.1
    obtain ⟨Am, cm, rfl, _, _, _⟩ := hRm5.shape
    rw [hMl] at hRm5 ⊢
    clear hS hMl hRc5
    go_wp2_with fail
    refine (HID.out _).mono ?_
    rintro e w6 ⟨vi, rfl, hRi, hb6⟩
    have hB6 := below_then hB5 hB5.size hb6
    have hRm6 := hRm5.below hb6
    have hRa6 := hRa5.below hb6
    go_wp2_with fail
    refine (HK1.out _ _ _ hRm6 hRa6).mono ?_
    rintro e w7 ⟨vp, rfl, hRp, hb7⟩
    have hB7 := below_then hB6 hB6.size hb7
    have hRm7 := hRm6.below hb7
    have hRa7 := hRa6.below hb7
    have hRi7 := hRi.below hb7
    go_wp2_with fail
    refine (HK2.out _ _ _ hRa7 hRm7).mono ?_
    rintro e w8 ⟨vq, rfl, hRq, hb8⟩
    have hB8 := below_then hB7 hB7.size hb8
    have hRi8 := hRi7.below hb8
    have hRp8 := hRp.below hb8
    have hs3 := same_self w8 vp vi (idM n) hRp8 hRi8
    have HS3 := Lib.hid hs3; clear hs3
    clear hRm5 hRm6 hRm7 hRa5 hRa6 hRa7
    go_wp2_with fail
    refine (HS3.out).mono ?_
    rintro e w9 ⟨rfl, hb9⟩
    have hB9 := below_then hB8 hB8.size hb9
    have hs4 := same_self w9 vq vi (idM n) (hRq.below hb9) (hRi8.below hb9)
    have HS4 := Lib.hid hs4; clear hs4
    go_wp2_with fail
    refine (HS4.out).mono ?_
    rintro e w10 ⟨rfl, hb10⟩
    have hB10 := below_then hB9 hB9.size hb10
    go_wp2
    go_ret
    exact ⟨by simp, hB10⟩
end Go.Proofs.Ytgphfhpobppmeaa
