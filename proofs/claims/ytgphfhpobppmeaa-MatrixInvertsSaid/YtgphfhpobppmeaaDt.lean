/-
  Determinants over the field, by the first row; what they say of inverses. Plain Lean, no program in sight.
-/
import Derived.Test.YtgphfhpobppmeaaMi
namespace Go.Proofs.Ytgphfhpobppmeaa
open Go.RowKit GfM

/-- an index, past a place. -/
def sk (c j : Nat) : Nat := if j < c then j else j + 1
theorem sk_lt {c j : Nat} (h : j < c) : sk c j = j := if_pos h
theorem sk_ge {c j : Nat} (h : c ≤ j) : sk c j = j + 1 := if_neg (by omega)
theorem sk_bd {c j n : Nat} (h : j < n) : sk c j < n + 1 := by unfold sk; split <;> omega
theorem sk_ne (c j : Nat) : sk c j ≠ c := by unfold sk; split <;> omega
/-- a matrix without a row and a column. -/
def wo (A : Mat) (r c : Nat) : Mat := fun i j => A (sk r i) (sk c j)
/-- the determinant, by the first row. -/
def det : Nat → Mat → UInt8
  | 0, _ => 1
  | n + 1, A => sx (n + 1) fun c => mul (A 0 c) (det n (wo A 0 c))
theorem det_succ (n : Nat) (A : Mat) : det (n + 1) A = sx (n + 1) fun c => mul (A 0 c) (det n (wo A 0 c)) := rfl
theorem det_congr (n : Nat) : ∀ {A B : Mat}, (∀ r c, r < n → c < n → A r c = B r c) → det n A = det n B := by
  induction n with
  | zero => intro A B _; rfl
  | succ n ih =>
    intro A B h
    rw [det_succ, det_succ]
    refine sx_congr _ fun c hc => ?_
    rw [h 0 c (by omega) hc, ih (A := wo A 0 c) (B := wo B 0 c) fun i j hi hj => h _ _ (sk_bd hi) (sk_bd hj)]
/-- a sum, one term apart. -/
theorem sx_skip (n : Nat) : ∀ (r : Nat) (f : Nat → UInt8), r ≤ n → sx (n + 1) f = f r ^^^ sx n fun j => f (sk r j) := by
  induction n with
  | zero =>
    intro r f hr
    obtain rfl : r = 0 := by omega
    show (0 : UInt8) ^^^ f 0 = f 0 ^^^ 0
    rw [UInt8.zero_xor, UInt8.xor_zero]
  | succ n ih =>
    intro r f hr
    by_cases e : r = n + 1
    · subst e
      show sx (n + 1) f ^^^ f (n + 1) = _
      rw [UInt8.xor_comm]
      congr 1
      exact sx_congr _ fun j hj => by rw [sk_lt hj]
    · show sx (n + 1) f ^^^ f (n + 1) = f r ^^^ (sx n (fun j => f (sk r j)) ^^^ f (sk r n))
      rw [ih r f (by omega), sk_ge (by omega : r ≤ n), UInt8.xor_assoc]
/-- by any column. -/
theorem det_col (n : Nat) : ∀ (A : Mat) (r : Nat), r ≤ n → det (n + 1) A = sx (n + 1) fun k => mul (A k r) (det n (wo A k r)) := by
  induction n with
  | zero =>
    intro A r hr
    obtain rfl : r = 0 := by omega
    rw [det_succ]
    refine sx_congr 1 fun k hk => ?_
    obtain rfl : k = 0 := by omega
    rfl
  | succ n ih =>
    intro A r hr
    have h1 : ∀ j, j < n + 1 → mul (A 0 (sk r j)) (det (n + 1) (wo A 0 (sk r j))) = sx (n + 1) fun k => mul (A 0 (sk r j)) (mul (A (k + 1) r) (det n (wo (wo A (k + 1) r) 0 j))) := by
      intro j hj
      obtain ⟨u, hu, hu2⟩ : ∃ u, u ≤ n ∧ sk (sk r j) u = r := by
        by_cases h : j < r
        · exact ⟨r - 1, by omega, by rw [sk_lt h]; unfold sk; split <;> omega⟩
        · exact ⟨r, by omega, by rw [sk_ge (by omega : r ≤ j)]; unfold sk; split <;> omega⟩
      rw [ih _ u hu, sx_mul]
      refine sx_congr _ fun k hk => ?_
      have e1 : wo A 0 (sk r j) k u = A (k + 1) r := by
        show A (sk 0 k) (sk (sk r j) u) = _
        rw [hu2, sk_ge (by omega : 0 ≤ k)]
      rw [e1]
      congr 2
      refine det_congr n fun i l hi hl => ?_
      show A (sk 0 (sk k i)) (sk (sk r j) (sk u l)) = A (sk (k + 1) (sk 0 i)) (sk r (sk j l))
      have er : sk 0 (sk k i) = sk (k + 1) (sk 0 i) := by
        rw [sk_ge (by omega : 0 ≤ sk k i), sk_ge (by omega : 0 ≤ i)]
        unfold sk
        split <;> split <;> omega
      have ec : sk (sk r j) (sk u l) = sk r (sk j l) := by
        revert hu2
        unfold sk
        repeat' split
        all_goals omega
      rw [er, ec]
    have h2 : ∀ k, k < n + 1 → mul (A (sk 0 k) r) (det (n + 1) (wo A (sk 0 k) r)) = sx (n + 1) fun j => mul (A 0 (sk r j)) (mul (A (k + 1) r) (det n (wo (wo A (k + 1) r) 0 j))) := by
      intro k hk
      rw [sk_ge (by omega : 0 ≤ k), det_succ, sx_mul]
      refine sx_congr _ fun j hj => ?_
      have e1 : wo A (k + 1) r 0 j = A 0 (sk r j) := by
        show A (sk (k + 1) 0) (sk r j) = _
        rw [sk_lt (by omega : 0 < k + 1)]
      rw [e1, ← mul_assoc, mul_comm (A (k + 1) r), mul_assoc]
    have hS : (sx (n + 1) fun j => mul (A 0 (sk r j)) (det (n + 1) (wo A 0 (sk r j)))) = sx (n + 1) fun k => mul (A (sk 0 k) r) (det (n + 1) (wo A (sk 0 k) r)) := by
      rw [sx_congr _ h1, sx_congr _ h2, sx_swap]
    rw [det_succ, sx_skip (n + 1) r _ hr, hS, sx_skip (n + 1) 0 _ (by omega)]
/-- two columns that are one: nothing. -/
theorem det_alt (n : Nat) : ∀ (A : Mat) (p q : Nat), p < q → q < n → (∀ k, k < n → A k p = A k q) → det n A = 0 := by
  induction n with
  | zero => intro A p q _ h _; omega
  | succ m ih =>
    intro A p q hpq hq h
    by_cases hm : m < 2
    · obtain rfl : m = 1 := by omega
      obtain rfl : p = 0 := by omega
      obtain rfl : q = 1 := by omega
      have e0 := h 0 (by omega)
      have e1 := h 1 (by omega)
      show (0 ^^^ mul (A 0 0) (0 ^^^ mul (A 1 1) 1)) ^^^ mul (A 0 1) (0 ^^^ mul (A 1 0) 1) = 0
      rw [e0, e1, UInt8.zero_xor, UInt8.xor_self]
    · obtain ⟨s, hs, hsp, hsq⟩ : ∃ s, s ≤ m ∧ s ≠ p ∧ s ≠ q := by
        by_cases h0 : p = 0
        · by_cases h1 : q = 1
          · exact ⟨2, by omega, by omega, by omega⟩
          · exact ⟨1, by omega, by omega, by omega⟩
        · exact ⟨0, by omega, by omega, by omega⟩
      rw [det_col m A s hs]
      refine sx_all_zero _ fun k hk => ?_
      obtain ⟨p', hp', ep⟩ : ∃ u, u < m ∧ sk s u = p := by
        by_cases h : p < s
        · exact ⟨p, by omega, sk_lt h⟩
        · exact ⟨p - 1, by omega, by rw [sk_ge (by omega)]; omega⟩
      obtain ⟨q', hq', eq⟩ : ∃ u, u < m ∧ sk s u = q := by
        by_cases h : q < s
        · exact ⟨q, by omega, sk_lt h⟩
        · exact ⟨q - 1, by omega, by rw [sk_ge (by omega)]; omega⟩
      have hlt : p' < q' := by
        revert ep eq
        unfold sk
        split <;> split <;> omega
      rw [ih (wo A k s) p' q' hlt hq' fun i hi => by
        show A (sk k i) (sk s p') = A (sk k i) (sk s q')
        rw [ep, eq]
        exact h _ (sk_bd hi), mul_zero]
/-- the adjoint, from the left. -/
theorem det_adj (n : Nat) (A : Mat) (r c : Nat) (hr : r ≤ n) (hc : c ≤ n) : sx (n + 1) (fun k => mul (A k c) (det n (wo A k r))) = if r = c then det (n + 1) A else 0 := by
  by_cases e : r = c
  · subst e
    rw [if_pos rfl, det_col n A r hr]
  · rw [if_neg e]
    have h1 : det (n + 1) (fun i j => if j = r then A i c else A i j) = 0 := by
      have hk : ∀ k, k < n + 1 → (fun i j => if j = r then A i c else A i j) k r = (fun i j => if j = r then A i c else A i j) k c := fun k _ => by
        show (if r = r then A k c else A k r) = if c = r then A k c else A k c
        rw [if_pos rfl, if_neg (Ne.symm e)]
      rcases Nat.lt_or_gt_of_ne e with h | h
      · exact det_alt (n + 1) _ r c h (by omega) hk
      · exact det_alt (n + 1) _ c r h (by omega) fun k hk' => (hk k hk').symm
    rw [det_col n _ r hr] at h1
    rw [← h1]
    refine sx_congr _ fun k hk => ?_
    rw [if_pos rfl]
    congr 1
    refine det_congr n fun i j hi hj => ?_
    show A (sk k i) (sk r j) = if sk r j = r then A (sk k i) c else A (sk k i) (sk r j)
    rw [if_neg (sk_ne r j)]
/-- a row other than 0 leads A to 0. -/
def LSing (n : Nat) (A : Mat) : Prop := ∃ y : Nat → UInt8, (∃ k, k < n ∧ y k ≠ 0) ∧ ∀ c, c < n → sx n (fun k => mul (y k) (A k c)) = 0
theorem det_zero (n : Nat) : ∀ A : Mat, det n A = 0 → LSing n A := by
  induction n with
  | zero => intro A h; exact absurd h (by show (1 : UInt8) ≠ 0; decide)
  | succ n ih =>
    intro A hd
    by_cases hex : ∃ r k, r ≤ n ∧ k ≤ n ∧ det n (wo A k r) ≠ 0
    · obtain ⟨r, k, hr, hk, hne⟩ := hex
      refine ⟨fun k => det n (wo A k r), ⟨k, by omega, hne⟩, fun c hc => ?_⟩
      have := det_adj n A r c hr (by omega)
      rw [hd] at this
      rw [sx_congr _ fun k _ => mul_comm (det n (wo A k r)) (A k c), this]
      split <;> rfl
    · have hall : ∀ k, k ≤ n → ∃ y : Nat → UInt8, y k = 0 ∧ (∃ i, i ≤ n ∧ y i ≠ 0) ∧ ∀ c, c < n → sx (n + 1) (fun i => mul (y i) (A i (c + 1))) = 0 := by
        intro k hk
        have h0 : det n (wo A k 0) = 0 := Classical.byContradiction fun h => hex ⟨0, k, by omega, hk, h⟩
        obtain ⟨u, ⟨i, hi, hu⟩, hz⟩ := ih _ h0
        obtain ⟨y, hyk, hys⟩ : ∃ y : Nat → UInt8, y k = 0 ∧ ∀ j, y (sk k j) = u j := by
          refine ⟨fun i => if i = k then 0 else u (if i < k then i else i - 1), if_pos rfl, fun j => ?_⟩
          show (if sk k j = k then (0 : UInt8) else u (if sk k j < k then sk k j else sk k j - 1)) = u j
          rw [if_neg (sk_ne k j)]
          congr 1
          unfold sk
          repeat' split
          all_goals omega
        refine ⟨y, hyk, ⟨sk k i, by have := sk_bd (c := k) hi; omega, by rw [hys]; exact hu⟩, fun c hc => ?_⟩
        rw [sx_skip n k _ hk, hyk, zero_mul, UInt8.zero_xor, ← hz c hc]
        refine sx_congr _ fun j hj => ?_
        rw [hys]
        show mul (u j) (A (sk k j) (c + 1)) = mul (u j) (A (sk k j) (sk 0 c))
        rw [sk_ge (by omega : 0 ≤ c)]
      have full : ∀ y : Nat → UInt8, (∃ i, i ≤ n ∧ y i ≠ 0) → (∀ c, c < n → sx (n + 1) (fun i => mul (y i) (A i (c + 1))) = 0) → sx (n + 1) (fun i => mul (y i) (A i 0)) = 0 → LSing (n + 1) A := by
        rintro y ⟨i, hi, hy⟩ h1 h2
        refine ⟨y, ⟨i, by omega, hy⟩, fun c hc => ?_⟩
        rcases Nat.eq_zero_or_pos c with rfl | hp
        · exact h2
        · have := h1 (c - 1) (by omega)
          rwa [show c - 1 + 1 = c by omega] at this
      obtain ⟨y, hy0, ⟨m, hm, hym⟩, hyz⟩ := hall 0 (by omega)
      by_cases t0 : sx (n + 1) (fun i => mul (y i) (A i 0)) = 0
      · exact full y ⟨m, hm, hym⟩ hyz t0
      · obtain ⟨z, hz0, ⟨q, hq, hzq⟩, hzz⟩ := hall m hm
        by_cases t1 : sx (n + 1) (fun i => mul (z i) (A i 0)) = 0
        · exact full z ⟨q, hq, hzq⟩ hzz t1
        · generalize ht0 : sx (n + 1) (fun i => mul (y i) (A i 0)) = a at *
          generalize ht1 : sx (n + 1) (fun i => mul (z i) (A i 0)) = b at *
          have comb : ∀ c, sx (n + 1) (fun i => mul (mul b (y i) ^^^ mul a (z i)) (A i c)) = mul b (sx (n + 1) fun i => mul (y i) (A i c)) ^^^ mul a (sx (n + 1) fun i => mul (z i) (A i c)) := fun c => by
            rw [sx_mul, sx_mul, ← sx_add]
            exact sx_congr _ fun i _ => by rw [add_mul, mul_assoc, mul_assoc]
          refine full (fun i => mul b (y i) ^^^ mul a (z i)) ⟨m, hm, ?_⟩ (fun c hc => ?_) ?_
          · show mul b (y m) ^^^ mul a (z m) ≠ 0
            rw [hz0, mul_zero, UInt8.xor_zero]
            exact mul_ne t1 hym
          · rw [comb, hyz c hc, hzz c hc, mul_zero, mul_zero]; rfl
          · rw [comb, ht0, ht1, mul_comm b a, UInt8.xor_self]
theorem lsing_no (n : Nat) (A X : Mat) (h : ∀ r c, r < n → c < n → mm n A X r c = dl r c) : ¬ LSing n A := by
  rintro ⟨y, ⟨k, hk, hy⟩, hz⟩
  apply hy
  have e1 : mm n (fun _ r => y r) (mm n A X) 0 k = y k := by
    rw [mm_congr n (A' := fun _ r => y r) (B' := dl) (fun _ _ => rfl) (fun j hj => h j k hj hk)]
    exact sx_dl_right n k (fun j => y j) hk
  rw [← e1, ← mm_assoc]
  refine sx_all_zero n fun j hj => ?_
  have : mm n (fun _ r => y r) A 0 j = 0 := hz j hj
  rw [this, zero_mul]
/-- the inverse by determinants, from the left. -/
theorem det_left (n : Nat) (A : Mat) (hd : det (n + 1) A ≠ 0) : ∀ r c, r < n + 1 → c < n + 1 → mm (n + 1) (fun r c => mul (inv (det (n + 1) A)) (det n (wo A c r))) A r c = dl r c := by
  intro r c hr hc
  have e : mm (n + 1) (fun r c => mul (inv (det (n + 1) A)) (det n (wo A c r))) A r c = mul (inv (det (n + 1) A)) (sx (n + 1) fun k => mul (A k c) (det n (wo A k r))) := by
    rw [sx_mul]
    exact sx_congr _ fun k _ => by rw [mul_assoc, mul_comm (det n _)]
  rw [e, det_adj n A r c (by omega) (by omega)]
  unfold dl
  by_cases q : r = c
  · rw [if_pos q, if_pos q, inv_mul hd]
  · rw [if_neg q, if_neg q, mul_zero]

/-! ### the document's inverse -/
def adM (A : List (List UInt8)) : List (List UInt8) := (List.range A.length).map fun r => (List.range A.length).map fun c => mul (inv (det A.length (en A))) (det (A.length - 1) (wo (en A) c r))
def adOut (A : List (List UInt8)) : List (List UInt8) × Int :=
  if goodM A = false then ([], 4) else if A.length ≠ (A.getD 0 []).length then ([], 7) else if det A.length (en A) = 0 then ([], 6) else (adM A, 0)
theorem adM_shp (A : List (List UInt8)) : Shp (adM A) A.length A.length := by
  refine ⟨by simp [adM], fun r hr => ?_⟩
  unfold adM
  rw [List.getD_eq_getElem?_getD, List.getElem?_map, List.getElem?_range hr]; simp
theorem adM_en (A : List (List UInt8)) (r c : Nat) (hr : r < A.length) (hc : c < A.length) : en (adM A) r c = mul (inv (det A.length (en A))) (det (A.length - 1) (wo (en A) c r)) := by
  unfold en adM
  rw [List.getD_eq_getElem?_getD (l := List.map _ _), List.getElem?_map, List.getElem?_range hr]
  show (List.map _ _).getD c 0 = _
  rw [List.getD_eq_getElem?_getD, List.getElem?_map, List.getElem?_range hc]; rfl
theorem ad_same {A X : List (List UInt8)} {e : Int} (h : InvR A X e) : X = (adOut A).1 ∧ e = (adOut A).2 := by
  unfold adOut
  cases h with
  | bad hb => rw [if_pos hb]; exact ⟨rfl, rfl⟩
  | shape hg hs => rw [if_neg (by rw [hg]; decide), if_pos hs]; exact ⟨rfl, rfl⟩
  | done hg hs hi =>
    have h' := InvR.done hg hs hi
    rw [if_neg (by rw [hg]; decide), if_neg (by rw [← hs]; exact fun h => h rfl)]
    have hpos : 1 ≤ A.length := ((good_iff A).1 hg).1
    obtain ⟨n, hn⟩ : ∃ n, A.length = n + 1 := ⟨A.length - 1, by omega⟩
    have hleft : det A.length (en A) ≠ 0 → ∀ r c, r < A.length → c < A.length → mm A.length (en (adM A)) (en A) r c = dl r c := by
      intro hd r c hr hc
      have e1 : mm A.length (en (adM A)) (en A) r c = mm A.length (fun r c => mul (inv (det A.length (en A))) (det (A.length - 1) (wo (en A) c r))) (en A) r c := mm_congr _ (fun j hj => adM_en A r j hr hj) (fun _ _ => rfl)
      rw [e1]
      rw [hn] at hd hr hc ⊢
      exact det_left n (en A) hd r c hr hc
    rcases invR_sq h' hg hs with ⟨rfl, hX, hI⟩ | ⟨rfl, rfl, hsing⟩
    · have hd : det A.length (en A) ≠ 0 := fun hd => lsing_no _ _ _ hI.1 (det_zero _ _ hd)
      rw [if_neg hd]
      exact ⟨(shp_ext (adM_shp A) hX (left_right _ _ _ _ (hleft hd) hI.1)).symm, rfl⟩
    · have hd : det A.length (en A) = 0 := Classical.byContradiction fun hd => inv_not_sing _ _ _ (hleft hd) hsing
      rw [if_pos hd]
      exact ⟨rfl, rfl⟩
end Go.Proofs.Ytgphfhpobppmeaa
