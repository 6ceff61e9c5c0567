/-
  What rs.Decode answers, plain: any k rows of the generator have no kernel; so the data chunks come back.
-/
import Derived.Test.YtikgipohjoiagaaDe
import Derived.Test.YtikgipohjoiagaaMi
import Derived.Test.YtikgipohjoiagaaMv
namespace Go.Proofs.Ytikgipohjoiagaa
open Go.RowKit GfM

/-! ### which places lack -/
theorem take_pk (B : List Bool) (k : Nat) (n : Nat) : k ≤ (pk B n).length → ∃ j, j ≤ n ∧ (pk B n).take k = pk B j ∧ (pk B j).length = k := by
  induction n with
  | zero =>
    intro h
    have : k = 0 := by simpa [pk] using h
    subst this
    exact ⟨0, Nat.le_refl _, by simp [pk], rfl⟩
  | succ n ih =>
    intro h
    by_cases hk : k ≤ (pk B n).length
    · obtain ⟨j, hj, h1, h2⟩ := ih hk
      refine ⟨j, by omega, ?_, h2⟩
      by_cases hb : B.getD n false = true
      · rw [pk_yes hb, List.take_append_of_le_length hk, h1]
      · rw [pk_no (by simpa using hb), h1]
    · have hl : (pk B (n + 1)).length = k := by
        by_cases hb : B.getD n false = true
        · rw [pk_yes hb, List.length_append, List.length_singleton] at h ⊢; omega
        · rw [pk_no (by simpa using hb)] at h; omega
      exact ⟨n + 1, Nat.le_refl _, List.take_of_length_le (by omega), hl⟩
theorem pk_all (B : List Bool) (n : Nat) : (pk B n).length = n → ∀ s, s < n → s ∈ pk B n := by
  induction n with
  | zero => intro _ s hs; omega
  | succ n ih =>
    intro h s hs
    have hn := pk_len B n
    by_cases hb : B.getD n false = true
    · rw [pk_yes hb] at h ⊢
      rw [List.length_append, List.length_singleton] at h
      by_cases e : s = n
      · subst e; simp
      · exact List.mem_append_left _ (ih (by omega) s (by omega))
    · rw [pk_no (by simpa using hb)] at h; omega
theorem pk_one (B : List Bool) (n : Nat) : (pk B n).length + 1 = n → ∃ x, x < n ∧ ∀ s, s < n → s ≠ x → s ∈ pk B n := by
  induction n with
  | zero => intro h; omega
  | succ n ih =>
    intro h
    by_cases hb : B.getD n false = true
    · rw [pk_yes hb] at h ⊢
      rw [List.length_append, List.length_singleton] at h
      obtain ⟨x, hx, hs⟩ := ih (by omega)
      refine ⟨x, by omega, fun s h1 h2 => ?_⟩
      by_cases e : s = n
      · subst e; simp
      · exact List.mem_append_left _ (hs s (by omega) h2)
    · rw [pk_no (by simpa using hb)] at h ⊢
      exact ⟨n, by omega, fun s h1 h2 => pk_all B n (by omega) s (by omega)⟩
theorem pk_two (B : List Bool) (n : Nat) : (pk B n).length + 2 = n → ∃ x y, x < y ∧ y < n ∧ ∀ s, s < n → s ≠ x → s ≠ y → s ∈ pk B n := by
  induction n with
  | zero => intro h; omega
  | succ n ih =>
    intro h
    by_cases hb : B.getD n false = true
    · rw [pk_yes hb] at h ⊢
      rw [List.length_append, List.length_singleton] at h
      obtain ⟨x, y, hxy, hy, hs⟩ := ih (by omega)
      refine ⟨x, y, hxy, by omega, fun s h1 h2 h3 => ?_⟩
      by_cases e : s = n
      · subst e; simp
      · exact List.mem_append_left _ (hs s (by omega) h2 h3)
    · rw [pk_no (by simpa using hb)] at h ⊢
      obtain ⟨x, hx, hs⟩ := pk_one B n (by omega)
      exact ⟨x, n, hx, by omega, fun s h1 h2 h3 => hs s (by omega) h2⟩
/-- but two places, all are among the first k. -/
theorem pk_lack (B : List Bool) (k : Nat) (h : k ≤ (pk B (k + 2)).length) : ∃ x y, x < y ∧ y < k + 2 ∧ ∀ s, s < k + 2 → s ≠ x → s ≠ y → s ∈ (pk B (k + 2)).take k := by
  obtain ⟨j, hj, h1, h2⟩ := take_pk B k (k + 2) h
  rw [h1]
  have hj2 := pk_len B j
  have hc : j = k + 2 ∨ j = k + 1 ∨ j = k := by omega
  rcases hc with rfl | rfl | rfl
  · exact pk_two B (k + 2) (by omega)
  · obtain ⟨x, hx, hs⟩ := pk_one B (k + 1) (by omega)
    exact ⟨x, k + 1, hx, by omega, fun s a b c => hs s (by omega) b⟩
  · exact ⟨j, j + 1, by omega, by omega, fun s a b c => pk_all B j h2 s (by omega)⟩

/-! ### the generator -/
theorem genM_row (k r : Nat) (h : r < k) : (genM k).getD r [] = unitRow k r := by
  unfold genM
  rw [List.getD_eq_getElem?_getD, List.getElem?_append_left (by rw [idM_length]; exact h), ← List.getD_eq_getElem?_getD, idM_row k r h]
theorem genM_par (k j : Nat) (h : j < 2) : (genM k).getD (k + j) [] = (List.range k).map fun c => ex (j * c) := by
  unfold genM
  rw [List.getD_eq_getElem?_getD, List.getElem?_append_right (by rw [idM_length]; omega), idM_length, Nat.add_sub_cancel_left, ← List.getD_eq_getElem?_getD, vdM_row 2 k j h]
theorem genM_shp (k : Nat) : Shp (genM k) (k + 2) k := by
  refine ⟨genM_length k, fun r hr => ?_⟩
  by_cases h : r < k
  · rw [genM_row k r h, unitRow_length]
  · obtain ⟨j, rfl⟩ : ∃ j, r = k + j := ⟨r - k, by omega⟩
    rw [genM_par k j (by omega)]; simp
theorem genM_en (k r c : Nat) (h : r < k) (hc : c < k) : en (genM k) r c = dl r c := by
  unfold en
  rw [genM_row k r h, unitRow_at k r c h hc]
theorem genM_enp (k j c : Nat) (h : j < 2) (hc : c < k) : en (genM k) (k + j) c = ex (j * c) := by
  unfold en
  rw [genM_par k j h, List.getD_eq_getElem?_getD, List.getElem?_map, List.getElem?_range hc]; rfl
theorem genM_good (k : Nat) (h1 : 1 ≤ k) (h8 : k ≤ 8) : goodM (genM k) = true := by
  have hS := genM_shp k
  have h0 := hS.2 0 (by omega)
  exact (good_iff _).2 ⟨by rw [hS.1]; omega, by rw [hS.1]; omega, by omega, by omega, ⟨rfl, fun r hr => by rw [hS.2 r (by rw [← hS.1]; exact hr), h0]⟩⟩
theorem sx_two (n a b : Nat) (f : Nat → UInt8) (ha : a < n) (hb : b < n) (hab : a ≠ b) (h : ∀ j, j < n → j ≠ a → j ≠ b → f j = 0) : sx n f = f a ^^^ f b := by
  have e : sx n f = sx n (fun j => (if j = a then f j else 0) ^^^ (if j = a then 0 else f j)) := sx_congr n fun j _ => by
    by_cases q : j = a
    · rw [if_pos q, if_pos q, UInt8.xor_zero]
    · rw [if_neg q, if_neg q, UInt8.zero_xor]
  rw [e, sx_add, sx_one n a _ ha (fun j _ hj => if_neg hj), if_pos rfl]
  rw [sx_one n b (fun j => if j = a then 0 else f j) hb (fun j hj hne => by
    by_cases q : j = a
    · exact if_pos q
    · exact (if_neg q).trans (h j hj q hne))]
  rw [if_neg (Ne.symm hab)]
/-- but for two rows, the generator has no kernel. -/
theorem gen_noker (k : Nat) (h8 : k ≤ 8) (x y : Nat) (hxy : x < y) (hy : y < k + 2) (v : Nat → UInt8) (hv : ∀ r, r < k + 2 → r ≠ x → r ≠ y → sx k (fun c => mul (en (genM k) r c) (v c)) = 0) : ∀ c, c < k → v c = 0 := by
  have hd : ∀ r, r < k → r ≠ x → r ≠ y → v r = 0 := by
    intro r hr h1 h2
    have := hv r (by omega) h1 h2
    rw [sx_congr k (fun c hc => by rw [genM_en k r c hr hc]), sx_dl_left k r v hr] at this
    exact this
  have hp : ∀ j, j < 2 → k + j ≠ x → k + j ≠ y → sx k (fun c => mul (ex (j * c)) (v c)) = 0 := by
    intro j hj h1 h2
    have := hv (k + j) (by omega) h1 h2
    rw [sx_congr k (fun c hc => by rw [genM_enp k j c hj hc])] at this
    exact this
  by_cases hyk : y < k
  · have p0 := hp 0 (by omega) (by omega) (by omega)
    have p1 := hp 1 (by omega) (by omega) (by omega)
    rw [sx_two k x y _ (by omega) hyk (by omega) (fun j hj a b => by rw [hd j hj a b, mul_zero])] at p0 p1
    simp only [Nat.zero_mul, ex_zero, one_mul, Nat.one_mul] at p0 p1
    have exy := xor_eq p0
    rw [exy, ← add_mul] at p1
    have hvy : v y = 0 := by
      rcases (mul_eq_zero _ _).1 p1 with h | h
      · have := ex_inj (by omega) (by omega) (xor_eq h)
        omega
      · exact h
    intro c hc
    by_cases e1 : c = x
    · rw [e1, exy, hvy]
    · by_cases e2 : c = y
      · rw [e2, hvy]
      · exact hd c hc e1 e2
  · by_cases hxk : x < k
    · have hvx : v x = 0 := by
        have hj : ∃ j, j < 2 ∧ k + j ≠ y := by
          by_cases e : y = k
          · exact ⟨1, by omega, by omega⟩
          · exact ⟨0, by omega, by omega⟩
        obtain ⟨j, hj1, hj2⟩ := hj
        have p := hp j hj1 (by omega) hj2
        rw [sx_one k x _ hxk (fun c hc hne => by rw [hd c hc hne (by omega), mul_zero])] at p
        rcases (mul_eq_zero _ _).1 p with h | h
        · exact absurd h (ex_ne _)
        · exact h
      intro c hc
      by_cases e1 : c = x
      · rw [e1, hvx]
      · exact hd c hc e1 (by omega)
    · exact fun c hc => hd c hc (by omega) (by omega)

/-! ### the rows that are there -/
/-- the place of the r-th of these chunks. -/
def ix (B : List Bool) (k r : Nat) : Nat := ((pk B (k + 2)).take k).getD r 0
section
variable {B : List Bool} {k : Nat}
theorem tk_len (h : k ≤ (pk B (k + 2)).length) : ((pk B (k + 2)).take k).length = k := by rw [List.length_take]; omega
theorem ix_mem (h : k ≤ (pk B (k + 2)).length) (r : Nat) (hr : r < k) : ix B k r ∈ (pk B (k + 2)).take k := by
  unfold ix
  rw [List.getD_eq_getElem?_getD, List.getElem?_eq_getElem (by rw [tk_len h]; exact hr)]
  exact List.getElem_mem _
theorem mem_ix (h : k ≤ (pk B (k + 2)).length) {s : Nat} (hs : s ∈ (pk B (k + 2)).take k) : ∃ r, r < k ∧ ix B k r = s := by
  obtain ⟨r, hr, he⟩ := List.getElem_of_mem hs
  refine ⟨r, by rw [tk_len h] at hr; exact hr, ?_⟩
  unfold ix
  rw [List.getD_eq_getElem?_getD, List.getElem?_eq_getElem hr, he]; rfl
theorem ix_lt (h : k ≤ (pk B (k + 2)).length) (r : Nat) (hr : r < k) : ix B k r < k + 2 := (pk_lt B (k + 2) _ (List.mem_of_mem_take (ix_mem h r hr))).1
theorem pkR_row (h : k ≤ (pk B (k + 2)).length) (r : Nat) (hr : r < k) : (pkR B k).getD r [] = (genM k).getD (ix B k r) [] := by
  unfold pkR ix
  rw [List.getD_eq_getElem?_getD, List.getElem?_map, List.getD_eq_getElem?_getD (l := (pk B (k + 2)).take k), List.getElem?_eq_getElem (by rw [tk_len h]; exact hr)]; rfl
theorem pkR_shp (h : k ≤ (pk B (k + 2)).length) : Shp (pkR B k) k k := by
  refine ⟨by unfold pkR; rw [List.length_map, tk_len h], fun r hr => ?_⟩
  rw [pkR_row h r hr]
  exact (genM_shp k).2 _ (ix_lt h r hr)
theorem pkR_en (h : k ≤ (pk B (k + 2)).length) (r c : Nat) (hr : r < k) : en (pkR B k) r c = en (genM k) (ix B k r) c := by
  unfold en; rw [pkR_row h r hr]
theorem pkC_len (C : List ByteArray) (h : k ≤ (pk B (k + 2)).length) : (pkC B C k).length = k := by unfold pkC; rw [List.length_map, tk_len h]
theorem pkC_tl (C : List ByteArray) (h : k ≤ (pk B (k + 2)).length) (r : Nat) (hr : r < k) : tl (pkC B C k) r = tl C (ix B k r) := by
  unfold pkC ix
  show (List.map (tl C) _).getD r _ = _
  rw [List.getD_eq_getElem?_getD, List.getElem?_map, List.getD_eq_getElem?_getD (l := (pk B (k + 2)).take k), List.getElem?_eq_getElem (by rw [tk_len h]; exact hr)]; rfl
/-- they can be undone. -/
theorem pkR_inv (h : k ≤ (pk B (k + 2)).length) (h1 : 1 ≤ k) (h8 : k ≤ 8) {X : List (List UInt8)} {e : Int} (hR : InvR (pkR B k) X e) : Shp X k k ∧ IsInv k (en (pkR B k)) (en X) := by
  have hS := pkR_shp (B := B) h
  have h0 := hS.2 0 (by omega)
  have hg : goodM (pkR B k) = true := (good_iff _).2 ⟨by rw [hS.1]; exact h1, by rw [hS.1]; omega, by omega, by omega, ⟨rfl, fun r hr => by rw [hS.2 r (by rw [← hS.1]; exact hr), h0]⟩⟩
  have hs : (pkR B k).length = ((pkR B k).getD 0 []).length := by rw [hS.1, h0]
  rcases invR_sq hR hg hs with ⟨_, hX, hi⟩ | ⟨_, _, hsing⟩
  · rw [hS.1] at hX hi
    exact ⟨hX, hi⟩
  · exfalso
    rw [hS.1] at hsing
    obtain ⟨v, ⟨c, hc, hvc⟩, hz⟩ := hsing
    obtain ⟨x, y, hxy, hy, hall⟩ := pk_lack B k h
    refine hvc (gen_noker k h8 x y hxy hy v (fun s hs a b => ?_) c hc)
    obtain ⟨r, hr, rfl⟩ := mem_ix h (hall s hs a b)
    rw [← hz r hr]
    exact sx_congr k fun j _ => by rw [pkR_en h r j hr]
end

/-! ### texts by their places -/
theorem tl_ext {A C : List ByteArray} (hl : A.length = C.length) (h : ∀ i, i < A.length → tl A i = tl C i) : A = C := by
  apply List.ext_getElem hl
  intro i h1 h2
  have := h i h1
  simpa [tl, List.getD_eq_getElem?_getD, h1, h2] using this
theorem tl_bytes {s t : ByteArray} {n : Nat} (hs : s.size = n) (ht : t.size = n) (h : ∀ j, j < n → s.data.toList.getD j 0 = t.data.toList.getD j 0) : s = t := by
  rw [← bs_data s, ← bs_data t]
  exact congrArg bs (list_ext0 (n := n) hs ht h)
theorem apL_sz {A : List (List UInt8)} {T : List ByteArray} (h : ∀ j, j < T.length → (tl T j).size = nn T) (r : Nat) (hr : r < A.length) : (tl (apL A T) r).size = nn T := by
  rw [apL_at A T r hr, bs_size, apRow_length A T (nn T) r _ h]
theorem apL_byte {A : List (List UInt8)} {T : List ByteArray} (h : ∀ j, j < T.length → (tl T j).size = nn T) (r : Nat) (hr : r < A.length) (j : Nat) (hj : j < nn T) :
    (tb (apL A T) r).getD j 0 = sx T.length (fun c => mul (en A r c) ((tb T c).getD j 0)) := by
  unfold tb
  rw [apL_at A T r hr, bs_toList, apRow_at A T (nn T) r T.length j h hj]
  rfl
theorem pb_sx (T : List ByteArray) (j i : Nat) : pb T j i = sx i (fun c => (tb T c).getD j 0) := by
  induction i with
  | zero => rfl
  | succ i ih => show pb T j i ^^^ _ = sx i _ ^^^ _; rw [ih]
theorem qb_sx (T : List ByteArray) (j i : Nat) : qb T j i = sx i (fun c => mul (ex c) ((tb T c).getD j 0)) := by
  induction i with
  | zero => rfl
  | succ i ih =>
    show qb T j i ^^^ mul (wt i) _ = sx i _ ^^^ mul (ex i) _
    rw [ih]; unfold wt; rw [pwI_ex]
/-- the generator times the data chunks is all chunks. -/
theorem gen_all {D : List ByteArray} (h : enE D = 0) : apL (genM D.length) D = D ++ [bs (enP D), bs (enQ D)] := by
  obtain ⟨h1, h8, hs, hN⟩ := enE_ok h
  have e2 : enP D = pp D (nn D) D.length := by unfold enP; rw [if_pos h]
  have e3 : enQ D = qq D (nn D) D.length := by unfold enQ; rw [if_pos h]
  have hlen : (apL (genM D.length) D).length = (D ++ [bs (enP D), bs (enQ D)]).length := by rw [apL_length, genM_length, List.length_append]; rfl
  refine tl_ext hlen fun i hi => ?_
  rw [apL_length, genM_length] at hi
  have hsz := apL_sz hs i (A := genM D.length) (by rw [genM_length]; exact hi)
  rw [tl_append]
  by_cases hd : i < D.length
  · rw [if_pos hd]
    refine tl_bytes hsz (hs i hd) fun j hj => ?_
    have := apL_byte hs i (A := genM D.length) (by rw [genM_length]; exact hi) j hj
    rw [sx_congr D.length (fun c hc => by rw [genM_en D.length i c hd hc]), sx_dl_left D.length i _ hd] at this
    exact this
  · rw [if_neg hd]
    have hc : i = D.length + 0 ∨ i = D.length + 1 := by omega
    rcases hc with rfl | rfl
    · rw [Nat.add_sub_cancel_left]
      show _ = bs (enP D)
      refine tl_bytes hsz (by rw [bs_size, e2]; exact pp_length D _ _ (fun j hj => hs j hj)) fun j hj => ?_
      have := apL_byte hs (D.length + 0) (A := genM D.length) (by rw [genM_length]; exact hi) j hj
      rw [sx_congr D.length (fun c hc => by rw [genM_enp D.length 0 c (by omega) hc, Nat.zero_mul, ex_zero, one_mul])] at this
      rw [bs_toList, e2, pp_at D _ _ j hs hj, pb_sx]
      exact this
    · rw [Nat.add_sub_cancel_left]
      show _ = bs (enQ D)
      refine tl_bytes hsz (by rw [bs_size, e3]; exact qq_length D _ _ (fun j hj => hs j hj)) fun j hj => ?_
      have := apL_byte hs (D.length + 1) (A := genM D.length) (by rw [genM_length]; exact hi) j hj
      rw [sx_congr D.length (fun c hc => by rw [genM_enp D.length 1 c (by omega) hc, Nat.one_mul])] at this
      rw [bs_toList, e3, qq_at D _ _ j hs hj, qb_sx]
      exact this
/-- the data chunks that fit what is there come back. -/
theorem dec_of {B : List Bool} {C D : List ByteArray} {k : Nat} (hk1 : 1 ≤ k) (hk8 : k ≤ 8) (hp : k ≤ (pk B (k + 2)).length) (hD : D.length = k) (hE : enE D = 0)
    (hfit : ∀ s ∈ (pk B (k + 2)).take k, tl C s = tl (apL (genM k) D) s) {X : List (List UInt8)} {e : Int} (hR : InvR (pkR B k) X e) :
    apT (genM k) (apT X (pkC B C k)) = D ++ [bs (enP D), bs (enQ D)] := by
  obtain ⟨hX, hi⟩ := pkR_inv hp hk1 hk8 hR
  obtain ⟨_, _, hs, hN⟩ := enE_ok hE
  have hlc := pkC_len C hp
  have hfit' : ∀ r, r < k → tl (pkC B C k) r = tl (apL (genM k) D) (ix B k r) := fun r hr => by rw [pkC_tl C hp r hr, hfit _ (ix_mem hp r hr)]
  have hsz : ∀ r, r < k → (tl (pkC B C k) r).size = nn D := fun r hr => by
    rw [hfit' r hr]
    exact apL_sz hs _ (by rw [genM_length]; exact ix_lt hp r hr)
  have hnn : nn (pkC B C k) = nn D := hsz 0 (by omega)
  have hsz' : ∀ j, j < (pkC B C k).length → (tl (pkC B C k) j).size = nn (pkC B C k) := fun j hj => by rw [hnn]; exact hsz j (by rw [hlc] at hj; exact hj)
  have hX0 := hX.2 0 (by omega)
  have hgX : goodM X = true := (good_iff _).2 ⟨by rw [hX.1]; exact hk1, by rw [hX.1]; omega, by omega, by omega, ⟨rfl, fun r hr => by rw [hX.2 r (by rw [← hX.1]; exact hr), hX0]⟩⟩
  have eA : apE X (pkC B C k) = 0 := apE_of hgX (by rw [hlc, hX0]) hsz' (by rw [hnn]; exact hN)
  have eD : apL X (pkC B C k) = D := by
    refine tl_ext (by rw [apL_length, hX.1, hD]) fun i hi' => ?_
    rw [apL_length, hX.1] at hi'
    refine tl_bytes (n := nn D) (by rw [← hnn]; exact apL_sz hsz' i (by rw [hX.1]; exact hi')) (hs i (by rw [hD]; exact hi')) fun j hj => ?_
    have hb := apL_byte hsz' i (A := X) (by rw [hX.1]; exact hi') j (by rw [hnn]; exact hj)
    have f1 : ∀ r, r < k → (tb (pkC B C k) r).getD j 0 = sx k (fun c => mul (en (pkR B k) r c) ((tb D c).getD j 0)) := fun r hr => by
      unfold tb
      rw [hfit' r hr]
      have := apL_byte hs (ix B k r) (A := genM k) (by rw [genM_length]; exact ix_lt hp r hr) j hj
      rw [hD] at this
      refine this.trans (sx_congr k fun c _ => ?_)
      rw [pkR_en hp r c hr]
      rfl
    rw [hlc, sx_congr k (fun r hr => by rw [f1 r hr])] at hb
    have f2 : sx k (fun r => mul (en X i r) (sx k (fun c => mul (en (pkR B k) r c) ((tb D c).getD j 0)))) = mm k (en X) (mm k (en (pkR B k)) (fun c j => (tb D c).getD j 0)) i j := rfl
    rw [f2, ← mm_assoc] at hb
    have f3 : mm k (mm k (en X) (en (pkR B k))) (fun c j => (tb D c).getD j 0) i j = sx k (fun c => mul (dl i c) ((tb D c).getD j 0)) := sx_congr k fun c hc => by rw [hi.2 i c hi' hc]
    rw [f3, sx_dl_left k i _ hi'] at hb
    exact hb
  have e1 : apT X (pkC B C k) = D := by unfold apT; rw [if_pos eA, eD]
  have hgG := genM_good k hk1 hk8
  have eG : apE (genM k) D = 0 := apE_of hgG (by rw [hD, (genM_shp k).2 0 (by omega)]) hs hN
  rw [e1]
  unfold apT
  rw [if_pos eG]
  have := gen_all hE
  rw [hD] at this
  exact this
end Go.Proofs.Ytikgipohjoiagaa
