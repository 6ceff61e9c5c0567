/-
  Sums, matrices and their elimination over the field. Plain Lean, no program in sight.
-/
import Derived.Test.YtgphfhpobppmeaaGf
namespace Go.Proofs.Ytgphfhpobppmeaa.GfM

/-! ### sums -/
/-- the sum of f over the numbers below n. -/
def sx : Nat → (Nat → UInt8) → UInt8
  | 0, _ => 0
  | n + 1, f => sx n f ^^^ f n
theorem sx_congr (n : Nat) {f g : Nat → UInt8} (h : ∀ k, k < n → f k = g k) : sx n f = sx n g := by
  induction n with
  | zero => rfl
  | succ n ih =>
    show sx n f ^^^ f n = sx n g ^^^ g n
    rw [ih (fun k hk => h k (by omega)), h n (by omega)]
theorem xor_zero (a : UInt8) : a ^^^ 0 = a := UInt8.xor_zero
theorem zero_xor (a : UInt8) : 0 ^^^ a = a := by rw [UInt8.xor_comm]; exact UInt8.xor_zero
theorem xor_four8 (a b c d : UInt8) : (a ^^^ b) ^^^ (c ^^^ d) = (a ^^^ c) ^^^ (b ^^^ d) := by
  rw [UInt8.xor_assoc, UInt8.xor_assoc, ← UInt8.xor_assoc b c d, UInt8.xor_comm b c, UInt8.xor_assoc c b d]
theorem sx_zero (n : Nat) : sx n (fun _ => 0) = 0 := by
  induction n with
  | zero => rfl
  | succ n ih => show sx n _ ^^^ 0 = 0; rw [ih]; rfl
theorem sx_all_zero (n : Nat) {f : Nat → UInt8} (h : ∀ k, k < n → f k = 0) : sx n f = 0 := (sx_congr n h).trans (sx_zero n)
theorem sx_add (n : Nat) (f g : Nat → UInt8) : sx n (fun k => f k ^^^ g k) = sx n f ^^^ sx n g := by
  induction n with
  | zero => show (0 : UInt8) = 0 ^^^ 0; decide
  | succ n ih => show sx n _ ^^^ (f n ^^^ g n) = (sx n f ^^^ f n) ^^^ (sx n g ^^^ g n); rw [ih, xor_four8]
theorem sx_mul (n : Nat) (a : UInt8) (f : Nat → UInt8) : mul a (sx n f) = sx n (fun k => mul a (f k)) := by
  induction n with
  | zero => exact mul_zero a
  | succ n ih => show mul a (sx n f ^^^ f n) = sx n _ ^^^ mul a (f n); rw [mul_add, ih]
theorem sx_mul_right (n : Nat) (a : UInt8) (f : Nat → UInt8) : mul (sx n f) a = sx n (fun k => mul (f k) a) := by
  rw [mul_comm, sx_mul]; exact sx_congr n fun k _ => mul_comm _ _
theorem sx_swap (n m : Nat) (f : Nat → Nat → UInt8) : sx n (fun i => sx m (fun j => f i j)) = sx m (fun j => sx n (fun i => f i j)) := by
  induction n with
  | zero => exact (sx_zero m).symm
  | succ n ih => show sx n _ ^^^ sx m (fun j => f n j) = sx m (fun j => sx n (fun i => f i j) ^^^ f n j); rw [ih, sx_add]
theorem sx_one (n k : Nat) (f : Nat → UInt8) (hk : k < n) (h : ∀ j, j < n → j ≠ k → f j = 0) : sx n f = f k := by
  induction n with
  | zero => omega
  | succ n ih =>
    show sx n f ^^^ f n = f k
    by_cases e : k = n
    · subst e
      rw [sx_all_zero k (fun j hj => h j (by omega) (by omega)), zero_xor]
    · rw [ih (by omega) (fun j hj hne => h j (by omega) hne), h n (by omega) (fun h => e h.symm), xor_zero]
/-- one of the identity. -/
def dl (r c : Nat) : UInt8 := if r = c then 1 else 0
theorem sx_dl_left (n r : Nat) (f : Nat → UInt8) (h : r < n) : sx n (fun k => mul (dl r k) (f k)) = f r := by
  rw [sx_one n r _ h (fun j _ hj => by unfold dl; rw [if_neg (fun e => hj e.symm), zero_mul])]
  unfold dl; rw [if_pos rfl, one_mul]
theorem sx_dl_right (n c : Nat) (f : Nat → UInt8) (h : c < n) : sx n (fun k => mul (f k) (dl k c)) = f c := by
  rw [sx_one n c _ h (fun j _ hj => by unfold dl; rw [if_neg hj, mul_zero])]
  unfold dl; rw [if_pos rfl, mul_one]

/-! ### products of matrices, as functions -/
abbrev Mat := Nat → Nat → UInt8
/-- the product; k is what they have in common. -/
def mm (k : Nat) (A B : Mat) : Mat := fun r c => sx k (fun j => mul (A r j) (B j c))
theorem mm_assoc (k l : Nat) (A B C : Mat) (r c : Nat) : mm l (mm k A B) C r c = mm k A (mm l B C) r c := by
  unfold mm
  rw [sx_congr l (g := fun j => sx k (fun i => mul (mul (A r i) (B i j)) (C j c))) (fun j _ => sx_mul_right k _ _), sx_swap]
  refine sx_congr k fun i _ => ?_
  rw [sx_mul]
  exact sx_congr l fun j _ => mul_assoc _ _ _
theorem mm_congr (k : Nat) {A A' B B' : Mat} {r c : Nat} (hA : ∀ j, j < k → A r j = A' r j) (hB : ∀ j, j < k → B j c = B' j c) : mm k A B r c = mm k A' B' r c :=
  sx_congr k fun j hj => by rw [hA j hj, hB j hj]
/-- X is A's inverse, of n rows and columns. -/
def IsInv (n : Nat) (A X : Mat) : Prop := (∀ r c, r < n → c < n → mm n A X r c = dl r c) ∧ (∀ r c, r < n → c < n → mm n X A r c = dl r c)
/-- A leads a vector other than 0 to 0. -/
def Sing (n : Nat) (A : Mat) : Prop := ∃ v : Nat → UInt8, (∃ k, k < n ∧ v k ≠ 0) ∧ ∀ r, r < n → sx n (fun k => mul (A r k) (v k)) = 0
theorem left_right (n : Nat) (A X Y : Mat) (h1 : ∀ r c, r < n → c < n → mm n X A r c = dl r c) (h2 : ∀ r c, r < n → c < n → mm n A Y r c = dl r c) :
    ∀ r c, r < n → c < n → X r c = Y r c := by
  intro r c hr hc
  have e1 : mm n X (mm n A Y) r c = X r c := by
    rw [mm_congr n (A' := X) (B' := dl) (fun _ _ => rfl) (fun j hj => h2 j c hj hc)]
    exact sx_dl_right n c (fun k => X r k) hc
  have e2 : mm n (mm n X A) Y r c = Y r c := by
    rw [mm_congr n (A' := dl) (B' := Y) (fun j hj => h1 r j hr hj) (fun _ _ => rfl)]
    exact sx_dl_left n r (fun k => Y k c) hr
  rw [← e1, ← e2, mm_assoc]
theorem inv_not_sing (n : Nat) (A X : Mat) (h : ∀ r c, r < n → c < n → mm n X A r c = dl r c) : ¬ Sing n A := by
  rintro ⟨v, ⟨k, hk, hv⟩, hz⟩
  apply hv
  have e1 : mm n X (mm n A (fun j _ => v j)) k 0 = 0 := sx_all_zero n fun j hj => by
    have : mm n A (fun j _ => v j) j 0 = 0 := hz j hj
    show mul (X k j) (mm n A (fun j _ => v j) j 0) = 0
    rw [this, mul_zero]
  have e2 : mm n (mm n X A) (fun j _ => v j) k 0 = v k := by
    rw [mm_congr n (A' := dl) (B' := fun j _ => v j) (fun j hj => h k j hk hj) (fun _ _ => rfl)]
    exact sx_dl_left n k v hk
  rw [← e2, mm_assoc, e1]

/-! ### matrices as lists of rows -/
/-- the element in row r and column c. -/
def en (m : List (List UInt8)) (r c : Nat) : UInt8 := (m.getD r []).getD c 0
/-- n rows of k elements. -/
def Shp (m : List (List UInt8)) (n k : Nat) : Prop := m.length = n ∧ ∀ r, r < n → (m.getD r []).length = k
theorem Shp.row {m : List (List UInt8)} {n k r : Nat} (h : Shp m n k) (hr : r < n) : (m.getD r []).length = k := h.2 r hr
theorem getD_set (m : List (List UInt8)) (r : Nat) (x : List UInt8) (i : Nat) (hr : r < m.length) : (m.set r x).getD i [] = if i = r then x else m.getD i [] := by
  rw [List.getD_eq_getElem?_getD, List.getD_eq_getElem?_getD, List.getElem?_set]
  by_cases e : r = i
  · subst e; rw [if_pos rfl, if_pos rfl, if_pos hr]; rfl
  · rw [if_neg e, if_neg (fun h => e h.symm)]
theorem Shp.set {m : List (List UInt8)} {n k r : Nat} (h : Shp m n k) (hr : r < n) {x : List UInt8} (hx : x.length = k) : Shp (m.set r x) n k := by
  refine ⟨by rw [List.length_set]; exact h.1, fun i hi => ?_⟩
  rw [getD_set m r x i (by rw [h.1]; exact hr)]
  split
  · exact hx
  · exact h.2 i hi
theorem en_set (m : List (List UInt8)) (r : Nat) (x : List UInt8) (i j : Nat) (hr : r < m.length) : en (m.set r x) i j = if i = r then x.getD j 0 else en m i j := by
  unfold en
  rw [getD_set m r x i hr]
  split <;> rfl

/-- two rows change places. -/
def swapM (m : List (List UInt8)) (a b : Nat) : List (List UInt8) := (m.set a (m.getD b [])).set b (m.getD a [])
/-- a row times an element. -/
def scaleM (m : List (List UInt8)) (c : Nat) (i : UInt8) : List (List UInt8) := m.set c ((m.getD c []).map (mul i))
/-- x and f times y. -/
def addRow (x y : List UInt8) (f : UInt8) : List UInt8 := List.zipWith (fun p q => p ^^^ mul f q) x y
/-- a multiple of row c is added to row r. -/
def addM (m : List (List UInt8)) (r c : Nat) (f : UInt8) : List (List UInt8) := m.set r (addRow (m.getD r []) (m.getD c []) f)
theorem addRow_length (x y : List UInt8) (f : UInt8) (h : x.length = y.length) : (addRow x y f).length = x.length := by
  unfold addRow; simp; omega
theorem addRow_at (x y : List UInt8) (f : UInt8) (j : Nat) (h : x.length = y.length) : (addRow x y f).getD j 0 = x.getD j 0 ^^^ mul f (y.getD j 0) := by
  unfold addRow
  simp only [List.getD_eq_getElem?_getD, List.getElem?_zipWith]
  rcases Nat.lt_or_ge j x.length with hj | hj
  · rw [List.getElem?_eq_getElem hj, List.getElem?_eq_getElem (show j < y.length by omega)]; rfl
  · rw [List.getElem?_eq_none hj, List.getElem?_eq_none (show y.length ≤ j by omega)]
    show (0 : UInt8) = 0 ^^^ mul f 0
    rw [mul_zero]; decide
section
variable {m : List (List UInt8)} {n k : Nat}
theorem swap_shp (h : Shp m n k) {a b : Nat} (ha : a < n) (hb : b < n) : Shp (swapM m a b) n k := (h.set ha (h.2 b hb)).set hb (h.2 a ha)
theorem scale_shp (h : Shp m n k) {c : Nat} (hc : c < n) (i : UInt8) : Shp (scaleM m c i) n k := h.set hc (by rw [List.length_map]; exact h.2 c hc)
theorem add_shp (h : Shp m n k) {r c : Nat} (hr : r < n) (hc : c < n) (f : UInt8) : Shp (addM m r c f) n k := h.set hr (by rw [addRow_length _ _ _ ((h.2 r hr).trans (h.2 c hc).symm)]; exact h.2 r hr)
theorem en_swap (h : Shp m n k) {a b : Nat} (ha : a < n) (hb : b < n) (i j : Nat) : en (swapM m a b) i j = if i = b then en m a j else if i = a then en m b j else en m i j := by
  unfold swapM
  rw [en_set _ _ _ _ _ (by rw [List.length_set, h.1]; exact hb), en_set _ _ _ _ _ (by rw [h.1]; exact ha)]
  rfl
theorem en_scale (h : Shp m n k) {c : Nat} (hc : c < n) (f : UInt8) (i j : Nat) : en (scaleM m c f) i j = if i = c then mul f (en m c j) else en m i j := by
  unfold scaleM
  rw [en_set _ _ _ _ _ (by rw [h.1]; exact hc)]
  by_cases e : i = c
  · rw [if_pos e, if_pos e]
    unfold en
    simp only [List.getD_eq_getElem?_getD, List.getElem?_map]
    cases (m[c]?.getD [])[j]? with
    | none => show (0 : UInt8) = mul f 0; rw [mul_zero]
    | some x => rfl
  · rw [if_neg e, if_neg e]
theorem en_add (h : Shp m n k) {r c : Nat} (hr : r < n) (hc : c < n) (f : UInt8) (i j : Nat) : en (addM m r c f) i j = if i = r then en m r j ^^^ mul f (en m c j) else en m i j := by
  unfold addM
  rw [en_set _ _ _ _ _ (by rw [h.1]; exact hr), addRow_at _ _ _ _ ((h.2 r hr).trans (h.2 c hc).symm)]
  rfl
end

/-- what the changes of rows lead to. -/
inductive Steps (n : Nat) : List (List UInt8) → List (List UInt8) → Prop
  | refl (m) : Steps n m m
  | swap {m m' a b} : Steps n m m' → a < n → b < n → Steps n m (swapM m' a b)
  | scale {m m' c f} : Steps n m m' → c < n → f ≠ 0 → Steps n m (scaleM m' c f)
  | add {m m' r c f} : Steps n m m' → r < n → c < n → r ≠ c → Steps n m (addM m' r c f)
theorem Steps.shp {n k : Nat} {m m' : List (List UInt8)} (h : Steps n m m') (hm : Shp m n k) : Shp m' n k := by
  induction h with
  | refl => exact hm
  | swap _ ha hb ih => exact swap_shp ih ha hb
  | scale _ hc _ ih => exact scale_shp ih hc _
  | add _ hr hc _ ih => exact add_shp ih hr hc _

/-- the identity, beside a matrix: row r. -/
def unitRow (n r : Nat) : List UInt8 := (List.replicate n 0).set r 1
def aug (A : List (List UInt8)) (n : Nat) : List (List UInt8) := (List.range n).map fun r => A.getD r [] ++ unitRow n r
theorem unitRow_length (n r : Nat) : (unitRow n r).length = n := by simp [unitRow]
theorem unitRow_at (n r j : Nat) (hr : r < n) (hj : j < n) : (unitRow n r).getD j 0 = dl r j := by
  unfold unitRow dl
  rw [List.getD_eq_getElem?_getD, List.getElem?_set]
  by_cases e : r = j
  · subst e; rw [if_pos rfl, if_pos (by simpa using hr), if_pos rfl]; rfl
  · rw [if_neg e, if_neg e, List.getElem?_replicate, if_pos hj]; rfl
theorem aug_row (A : List (List UInt8)) (n r : Nat) (hr : r < n) : (aug A n).getD r [] = A.getD r [] ++ unitRow n r := by
  unfold aug
  rw [List.getD_eq_getElem?_getD, List.getElem?_map, List.getElem?_range hr]
  rfl
theorem aug_shp {A : List (List UInt8)} {n : Nat} (h : Shp A n n) : Shp (aug A n) n (2 * n) := by
  refine ⟨by simp [aug], fun r hr => ?_⟩
  rw [aug_row A n r hr, List.length_append, unitRow_length, h.2 r hr]; omega
theorem aug_left {A : List (List UInt8)} {n : Nat} (h : Shp A n n) (r j : Nat) (hr : r < n) (hj : j < n) : en (aug A n) r j = en A r j := by
  unfold en
  rw [aug_row A n r hr, List.getD_eq_getElem?_getD, List.getElem?_append_left (by rw [h.2 r hr]; exact hj), ← List.getD_eq_getElem?_getD]
theorem aug_right {A : List (List UInt8)} {n : Nat} (h : Shp A n n) (r j : Nat) (hr : r < n) (hj : j < n) : en (aug A n) r (n + j) = dl r j := by
  unfold en
  rw [aug_row A n r hr, List.getD_eq_getElem?_getD, List.getElem?_append_right (by rw [h.2 r hr]; omega), h.2 r hr, show n + j - n = j by omega, ← List.getD_eq_getElem?_getD]
  exact unitRow_at n r j hr hj

/-- the right half, as a function. -/
def half (n : Nat) (m : List (List UInt8)) : Mat := fun r c => en m r (n + c)
/-- a row times a matrix. -/
def rc (n : Nat) (x : Nat → UInt8) (A : Mat) (j : Nat) : UInt8 := sx n (fun k => mul (x k) (A k j))
theorem rc_scale (n : Nat) (f : UInt8) (x : Nat → UInt8) (A : Mat) (j : Nat) : rc n (fun k => mul f (x k)) A j = mul f (rc n x A j) := by
  unfold rc; rw [sx_mul]; exact sx_congr n fun k _ => mul_assoc _ _ _
theorem rc_add (n : Nat) (x y : Nat → UInt8) (A : Mat) (j : Nat) : rc n (fun k => x k ^^^ y k) A j = rc n x A j ^^^ rc n y A j := by
  unfold rc; rw [← sx_add]; exact sx_congr n fun k _ => add_mul _ _ _
section
variable {m : List (List UInt8)} {n k : Nat}
theorem half_swap (h : Shp m n k) {a b : Nat} (ha : a < n) (hb : b < n) (r : Nat) : half n (swapM m a b) r = if r = b then half n m a else if r = a then half n m b else half n m r := by
  funext j
  unfold half
  rw [en_swap h ha hb]
  split
  · rfl
  · split <;> rfl
theorem half_scale (h : Shp m n k) {c : Nat} (hc : c < n) (f : UInt8) (r : Nat) : half n (scaleM m c f) r = if r = c then (fun j => mul f (half n m c j)) else half n m r := by
  funext j
  unfold half
  rw [en_scale h hc]
  split <;> rfl
theorem half_add (h : Shp m n k) {r c : Nat} (hr : r < n) (hc : c < n) (f : UInt8) (i : Nat) : half n (addM m r c f) i = if i = r then (fun j => half n m r j ^^^ mul f (half n m c j)) else half n m i := by
  funext j
  unfold half
  rw [en_add h hr hc]
  split <;> rfl
end
section
variable {A m : List (List UInt8)} {n : Nat}
/-- the left half is the right one times A. -/
theorem Steps.comb (h : Steps n (aug A n) m) (hA : Shp A n n) : ∀ r j, r < n → j < n → en m r j = rc n (half n m r) (en A) j := by
  induction h with
  | refl =>
    intro r j hr hj
    rw [aug_left hA r j hr hj]
    unfold rc
    rw [sx_congr n (g := fun k => mul (dl r k) (en A k j)) (fun k hk => by show mul (en (aug A n) r (n + k)) _ = _; rw [aug_right hA r k hr hk])]
    exact (sx_dl_left n r (fun k => en A k j) hr).symm
  | swap h1 ha hb ih =>
    intro r j hr hj
    have hs := h1.shp (aug_shp hA)
    rw [en_swap hs ha hb, half_swap hs ha hb]
    split
    · exact ih _ j ha hj
    · split
      · exact ih _ j hb hj
      · exact ih r j hr hj
  | @scale m' c f h1 hc hf ih =>
    intro r j hr hj
    have hs := h1.shp (aug_shp hA)
    rw [en_scale hs hc, half_scale hs hc]
    split
    · rw [rc_scale, ih c j hc hj]
    · exact ih r j hr hj
  | @add m' r' c f h1 hr' hc hne ih =>
    intro r j hr hj
    have hs := h1.shp (aug_shp hA)
    rw [en_add hs hr' hc, half_add hs hr' hc]
    split
    · rw [rc_add, rc_scale, ih r' j hr' hj, ih c j hc hj]
    · exact ih r j hr hj
/-- a row times a vector. -/
def rv (n : Nat) (x v : Nat → UInt8) : UInt8 := sx n (fun k => mul (x k) (v k))
theorem rv_scale (n : Nat) (f : UInt8) (x v : Nat → UInt8) : rv n (fun k => mul f (x k)) v = mul f (rv n x v) := by
  unfold rv; rw [sx_mul]; exact sx_congr n fun k _ => mul_assoc _ _ _
theorem rv_add (n : Nat) (x y v : Nat → UInt8) : rv n (fun k => x k ^^^ y k) v = rv n x v ^^^ rv n y v := by
  unfold rv; rw [← sx_add]; exact sx_congr n fun k _ => add_mul _ _ _
/-- the right half leads nothing but 0 to 0. -/
theorem Steps.inj (h : Steps n (aug A n) m) (hA : Shp A n n) (v : Nat → UInt8) : (∀ r, r < n → rv n (half n m r) v = 0) → ∀ k, k < n → v k = 0 := by
  induction h with
  | refl =>
    intro hv k hk
    have := hv k hk
    unfold rv at this
    rw [sx_congr n (g := fun j => mul (dl k j) (v j)) (fun j hj => by show mul (en (aug A n) k (n + j)) _ = _; rw [aug_right hA k j hk hj])] at this
    rwa [sx_dl_left n k v hk] at this
  | @swap m' a b h1 ha hb ih =>
    intro hv
    have hs := h1.shp (aug_shp hA)
    refine ih fun r hr => ?_
    by_cases e1 : r = b
    · have := hv a ha
      rw [half_swap hs ha hb] at this
      by_cases e2 : a = b
      · rw [if_pos e2] at this; rw [e1, ← e2]; exact this
      · rw [if_neg e2, if_pos rfl] at this; rw [e1]; exact this
    · by_cases e2 : r = a
      · have := hv b hb
        rw [half_swap hs ha hb, if_pos rfl] at this
        rw [e2]; exact this
      · have := hv r hr
        rw [half_swap hs ha hb, if_neg e1, if_neg e2] at this
        exact this
  | @scale m' c f h1 hc hf ih =>
    intro hv
    have hs := h1.shp (aug_shp hA)
    refine ih fun r hr => ?_
    have := hv r hr
    rw [half_scale hs hc] at this
    by_cases e1 : r = c
    · rw [if_pos e1, rv_scale] at this
      rcases (mul_eq_zero _ _).1 this with h | h
      · exact absurd h hf
      · rw [e1]; exact h
    · rw [if_neg e1] at this; exact this
  | @add m' r' c f h1 hr' hc hne ih =>
    intro hv
    have hs := h1.shp (aug_shp hA)
    have hcz := hv c hc
    rw [half_add hs hr' hc, if_neg (fun h => hne h.symm)] at hcz
    refine ih fun r hr => ?_
    have := hv r hr
    rw [half_add hs hr' hc] at this
    by_cases e1 : r = r'
    · rw [if_pos e1, rv_add, rv_scale, hcz, mul_zero, xor_zero] at this
      rw [e1]; exact this
    · rw [if_neg e1] at this; exact this

/-- the left half is the identity: the right one is the inverse. -/
theorem Steps.inverse (h : Steps n (aug A n) m) (hA : Shp A n n) (hI : ∀ r j, r < n → j < n → en m r j = dl r j) : IsInv n (en A) (half n m) := by
  have hl : ∀ r c, r < n → c < n → mm n (half n m) (en A) r c = dl r c := fun r c hr hc => by rw [← hI r c hr hc, h.comb hA r c hr hc]; rfl
  refine ⟨fun r c hr hc => ?_, hl⟩
  have hl' : ∀ r c, r < n → c < n → mm n (half n m) (en A) r c = dl r c := hl
  have hz := h.inj hA (fun k => mm n (en A) (half n m) k c ^^^ dl k c) (fun r' hr' => ?_) r hr
  · have hz : mm n (en A) (half n m) r c ^^^ dl r c = 0 := hz
    have := congrArg (· ^^^ dl r c) hz
    simp only [UInt8.xor_assoc, UInt8.xor_self, xor_zero, zero_xor] at this
    exact this
  · unfold rv
    rw [sx_congr n (g := fun k => mul (half n m r' k) (mm n (en A) (half n m) k c) ^^^ mul (half n m r' k) (dl k c)) (fun k _ => mul_add _ _ _), sx_add, sx_dl_right n c _ hc]
    have e : sx n (fun k => mul (half n m r' k) (mm n (en A) (half n m) k c)) = mm n (mm n (half n m) (en A)) (half n m) r' c := (mm_assoc n n _ _ _ r' c).symm
    rw [e, mm_congr n (A' := dl) (B' := half n m) (fun j hj => hl r' j hr' hj) (fun _ _ => rfl)]
    show sx n (fun k => mul (dl r' k) (half n m k c)) ^^^ _ = 0
    rw [sx_dl_left n r' (fun k => half n m k c) hr', UInt8.xor_self]
/-- what is led to 0, where column c has noughts from row c on. -/
def ker (m : List (List UInt8)) (c k : Nat) : UInt8 := if k < c then en m k c else if k = c then 1 else 0
theorem ker_at (m : List (List UInt8)) (c : Nat) : ker m c c = 1 := by unfold ker; rw [if_neg (Nat.lt_irrefl c), if_pos rfl]
theorem ker_zero (n c : Nat) (hc : c < n) (hI : ∀ r j, r < n → j < c → en m r j = dl r j) (hz : ∀ r, c ≤ r → r < n → en m r c = 0) (r : Nat) (hr : r < n) :
    sx n (fun k => mul (en m r k) (ker m c k)) = 0 := by
  have split : ∀ k, k < n → mul (en m r k) (ker m c k) = (if k < c then mul (dl r k) (en m k c) else 0) ^^^ (if k = c then en m r c else 0) := by
    intro k hk
    unfold ker
    by_cases h1 : k < c
    · rw [if_pos h1, if_pos h1, if_neg (by omega), xor_zero, hI r k hr h1]
    · rw [if_neg h1, if_neg h1, zero_xor]
      by_cases h2 : k = c
      · rw [if_pos h2, if_pos h2, h2, mul_one]
      · rw [if_neg h2, if_neg h2, mul_zero]
  rw [sx_congr n split, sx_add, sx_one n c (fun k => if k = c then en m r c else 0) hc (fun j _ hj => if_neg hj), if_pos rfl]
  by_cases hrc : r < c
  · rw [sx_one n r _ hr (fun j _ hj => ?_), if_pos hrc]
    · unfold dl; rw [if_pos rfl, one_mul, UInt8.xor_self]
    · split
      · unfold dl; rw [if_neg (fun e => hj e.symm), zero_mul]
      · rfl
  · rw [hz r (by omega) hr, xor_zero]
    refine sx_all_zero n fun k hk => ?_
    split
    · unfold dl; rw [if_neg (by omega), zero_mul]
    · rfl
theorem rv_rc (n : Nat) (x : Nat → UInt8) (A : Mat) (v : Nat → UInt8) : rv n x (fun j => rv n (A j) v) = rv n (rc n x A) v := by
  unfold rv rc
  rw [sx_congr n (g := fun j => sx n (fun k => mul (x j) (mul (A j k) (v k)))) (fun j _ => sx_mul n _ _), sx_swap]
  refine sx_congr n fun k _ => ?_
  rw [sx_mul_right]
  exact sx_congr n fun j _ => (mul_assoc _ _ _).symm
/-- what the changed rows lead to 0, A leads to 0. -/
theorem Steps.kern (h : Steps n (aug A n) m) (hA : Shp A n n) (v : Nat → UInt8) (hm : ∀ r, r < n → rv n (en m r) v = 0) : ∀ r, r < n → rv n (en A r) v = 0 := by
  refine h.inj hA (fun j => rv n (en A j) v) (fun r hr => ?_)
  rw [rv_rc, ← hm r hr]
  unfold rv
  exact sx_congr n fun k hk => by rw [h.comb hA r k hr hk]
/-- columns below c are the identity's, column c has noughts from row c on: A leads something to 0. -/
theorem Steps.singular (h : Steps n (aug A n) m) (hA : Shp A n n) (c : Nat) (hc : c < n) (hI : ∀ r j, r < n → j < c → en m r j = dl r j) (hz : ∀ r, c ≤ r → r < n → en m r c = 0) : Sing n (en A) :=
  ⟨ker m c, ⟨c, hc, by rw [ker_at]; decide⟩, h.kern hA (ker m c) (ker_zero n c hc hI hz)⟩
end
end Go.Proofs.Ytgphfhpobppmeaa.GfM
