/-
  Which chunks the document's Decode uses, plain; rows that grow, from nothing.
-/
import Derived.Test.YtikgipohjoiagaaVq
namespace Go.Proofs.Ytikgipohjoiagaa
open Go.RowKit GfM

/-- which chunks are used; the first i are told. -/
def us (B : List Bool) (k i : Nat) : List Bool := (List.range (k + 2)).map fun r => decide (r < i) && (B.getD r false && decide ((pk B r).length < k))
theorem us_len (B : List Bool) (k i : Nat) : (us B k i).length = k + 2 := by simp [us]
theorem us_at (B : List Bool) (k i r : Nat) (h : r < k + 2) : (us B k i).getD r false = (decide (r < i) && (B.getD r false && decide ((pk B r).length < k))) := by
  unfold us
  rw [List.getD_eq_getElem?_getD, List.getElem?_map, List.getElem?_range h]; rfl
theorem us_zero (B : List Bool) (k : Nat) : us B k 0 = List.replicate (k + 2) false := by
  unfold us
  apply List.ext_getElem (by simp)
  intro j h1 h2
  simp
theorem us_yes (B : List Bool) (k i : Nat) (hi : i < k + 2) (h : B.getD i false = true) : (us B k i).set i (decide ((pk B i).length < k)) = us B k (i + 1) := by
  apply List.ext_getElem (by simp [us])
  intro j h1 h2
  rw [List.getElem_set]
  by_cases e : i = j
  · subst e
    rw [if_pos rfl]
    simp only [us, List.getElem_map, List.getElem_range, h]
    simp
  · rw [if_neg e]
    have : decide (j < i) = decide (j < i + 1) := by rw [Bool.eq_iff_iff, decide_eq_true_iff, decide_eq_true_iff]; omega
    simp only [us, List.getElem_map, List.getElem_range, this]
theorem us_no (B : List Bool) (k i : Nat) (h : B.getD i false = false) : us B k (i + 1) = us B k i := by
  unfold us
  apply List.map_congr_left
  intro j _
  by_cases e : j = i
  · subst e
    rw [h]; simp
  · have : decide (j < i + 1) = decide (j < i) := by rw [Bool.eq_iff_iff, decide_eq_true_iff, decide_eq_true_iff]; omega
    simp only [this]
/-- all are told. -/
def ua (B : List Bool) (k : Nat) : List Bool := us B k (k + 2)
theorem ua_at (B : List Bool) (k r : Nat) (h : r < k + 2) : (ua B k).getD r false = (B.getD r false && decide ((pk B r).length < k)) := by
  unfold ua
  rw [us_at B k _ r h]; simp [h]
theorem ua_pk (B : List Bool) (k : Nat) (m : Nat) : m ≤ k + 2 → pk (ua B k) m = (pk B m).take k := by
  induction m with
  | zero => intro _; simp [pk]
  | succ m ih =>
    intro hm
    have h0 := ih (by omega)
    have ha := ua_at B k m (by omega)
    by_cases hb : B.getD m false = true
    · rw [hb, Bool.true_and] at ha
      rw [pk_yes hb]
      by_cases hl : (pk B m).length < k
      · rw [pk_yes (by rw [ha]; simpa using hl), h0, List.take_of_length_le (by omega), List.take_of_length_le (by rw [List.length_append, List.length_singleton]; omega)]
      · rw [pk_no (by rw [ha]; simpa using hl), h0, List.take_append_of_le_length (by omega)]
    · have hb' : B.getD m false = false := by simpa using hb
      rw [hb', Bool.false_and] at ha
      rw [pk_no hb', pk_no ha, h0]
theorem pk_lk (U : List Bool) (m : Nat) : (pk U m).length + (lk U m).length = m := by
  induction m with
  | zero => rfl
  | succ m ih =>
    by_cases h : U.getD m false = true
    · rw [pk_yes h, lk_yes h, List.length_append, List.length_singleton]; omega
    · have h' : U.getD m false = false := by simpa using h
      rw [pk_no h', lk_no h', List.length_append, List.length_singleton]; omega
theorem ua_cas (B : List Bool) (k : Nat) (h : k ≤ (pk B (k + 2)).length) : Cas (ua B k) k := by
  have h1 : (pk (ua B k) (k + 2)).length = k := by rw [ua_pk B k (k + 2) (Nat.le_refl _), List.length_take]; omega
  have h2 := pk_lk (ua B k) k
  generalize ua B k = U at *
  have one : ∀ l : List Nat, l.length = 1 → ∃ x, l = [x] := fun l h => by
    match l, h with
    | [x], _ => exact ⟨x, rfl⟩
  have two : ∀ l : List Nat, l.length = 2 → ∃ x y, l = [x, y] := fun l h => by
    match l, h with
    | [x, y], _ => exact ⟨x, y, rfl⟩
  by_cases a : U.getD k false = true
  · by_cases b : U.getD (k + 1) false = true
    · rw [pk_yes b, pk_yes a, List.length_append, List.length_append, List.length_singleton, List.length_singleton] at h1
      obtain ⟨x, y, hl⟩ := two (lk U k) (by omega)
      exact .two x y hl a b
    · have b' : U.getD (k + 1) false = false := by simpa using b
      rw [pk_no b', pk_yes a, List.length_append, List.length_singleton] at h1
      obtain ⟨x, hl⟩ := one (lk U k) (by omega)
      exact .par x hl a b'
  · have a' : U.getD k false = false := by simpa using a
    by_cases b : U.getD (k + 1) false = true
    · rw [pk_yes b, pk_no a', List.length_append, List.length_singleton] at h1
      obtain ⟨x, hl⟩ := one (lk U k) (by omega)
      exact .qar x hl a' b
    · have b' : U.getD (k + 1) false = false := by simpa using b
      rw [pk_no b', pk_no a'] at h1
      exact .zero (List.eq_nil_of_length_eq_zero (by omega)) a' b'
theorem ua_there {B : List Bool} {k r : Nat} (h : r < k + 2) (hu : (ua B k).getD r false = true) : B.getD r false = true := by
  rw [ua_at B k r h, Bool.and_eq_true] at hu
  exact hu.1
theorem pk_mem {B : List Bool} {r m : Nat} (hr : r < m) (hb : B.getD r false = true) : r ∈ pk B m := by
  induction m with
  | zero => omega
  | succ m ih =>
    by_cases h : B.getD m false = true
    · rw [pk_yes h]
      by_cases e : r = m
      · subst e; simp
      · exact List.mem_append_left _ (ih (by omega))
    · rw [pk_no (by simpa using h)]
      by_cases e : r = m
      · subst e; exact absurd hb h
      · exact ih (by omega)
/-- how long the chunks that are there are. -/
def ln (C : List ByteArray) (B : List Bool) (k : Nat) : Nat := (tl ((pk B (k + 2)).map (tl C)) 0).size
theorem ln_of {C : List ByteArray} {B : List Bool} {k r : Nat} (hs : shE ((pk B (k + 2)).map (tl C)) = 0) (hr : r < k + 2) (hb : B.getD r false = true) : (tl C r).size = ln C B k := by
  obtain ⟨j, hj, he⟩ := List.getElem_of_mem (pk_mem hr hb)
  have h1 := (shE_ok hs).1 j (by rw [List.length_map]; exact hj)
  have h2 : tl ((pk B (k + 2)).map (tl C)) j = tl C r := by
    show (List.map (tl C) _).getD j _ = _
    rw [List.getD_eq_getElem?_getD, List.getElem?_map, List.getElem?_eq_getElem hj, he]; rfl
  rw [h2] at h1
  exact h1
/-- the bytes of data chunk r. -/
def dr (C : List ByteArray) (B : List Bool) (k r m : Nat) : List UInt8 := (List.range m).map fun p => (sol C (ua B k) k p).getD r 0
theorem dr_len (C : List ByteArray) (B : List Bool) (k r m : Nat) : (dr C B k r m).length = m := by simp [dr]
theorem dr_succ (C : List ByteArray) (B : List Bool) (k r m : Nat) : dr C B k r (m + 1) = dr C B k r m ++ [(sol C (ua B k) k m).getD r 0] := by simp [dr, List.range_succ]
theorem dr_at (C : List ByteArray) (B : List Bool) (k r m p : Nat) (h : p < m) : (dr C B k r m).getD p 0 = (sol C (ua B k) k p).getD r 0 := by
  unfold dr
  rw [List.getD_eq_getElem?_getD, List.getElem?_map, List.getElem?_range h]; rfl
/-- the data chunks. -/
def dC (C : List ByteArray) (B : List Bool) (k : Nat) : List ByteArray := (List.range k).map fun r => bs (dr C B k r (ln C B k))
theorem dC_len (C : List ByteArray) (B : List Bool) (k : Nat) : (dC C B k).length = k := by simp [dC]
theorem dC_tl (C : List ByteArray) (B : List Bool) (k r : Nat) (h : r < k) : tl (dC C B k) r = bs (dr C B k r (ln C B k)) := by
  show (List.map _ _).getD r _ = _
  rw [List.getD_eq_getElem?_getD, List.getElem?_map, List.getElem?_range h]; rfl
theorem dC_take (C : List ByteArray) (B : List Bool) (k i : Nat) (h : i < k) : (dC C B k).take (i + 1) = (dC C B k).take i ++ [bs (dr C B k i (ln C B k))] := by
  have hl : i < (dC C B k).length := by rw [dC_len]; exact h
  rw [List.take_succ_eq_append_getElem hl]
  congr 2
  have := dC_tl C B k i h
  rw [← this]
  simp [tl, hl]
theorem sol_len (C : List ByteArray) (U : List Bool) (k p : Nat) : (sol C U k p).length = k := by
  unfold sol
  split <;> simp [du_len]
/-- what the document's Decode answers. -/
inductive RefR (C : List ByteArray) (B : List Bool) : List ByteArray → Int → Prop
  | arg (h : ¬ (3 ≤ C.length ∧ C.length ≤ 10 ∧ B.length = C.length)) : RefR C B [] 2
  | lost (h1 : 3 ≤ C.length) (h2 : C.length ≤ 10) (h3 : B.length = C.length) (h4 : (pk B C.length).length < C.length - 2) : RefR C B [] 24
  | shape (h1 : 3 ≤ C.length) (h2 : C.length ≤ 10) (h3 : B.length = C.length) (h4 : C.length - 2 ≤ (pk B C.length).length) (h5 : shE ((pk B C.length).map (tl C)) ≠ 0) : RefR C B [] (shE ((pk B C.length).map (tl C)))
  | done (k : Nat) (h0 : C.length = k + 2) (h1 : 1 ≤ k) (h2 : k ≤ 8) (h3 : B.length = C.length) (h4 : k ≤ (pk B C.length).length) (h5 : shE ((pk B C.length).map (tl C)) = 0) : RefR C B (dC C B k ++ [bs (enP (dC C B k)), bs (enQ (dC C B k))]) 0

/-! ### memory -/
theorem make_rows2 (m : Nat) (hm : m ≤ 1000) : ∀ W : World, (Instr.makeSlice 59 (.int .i64 (m : Int)) (.int .i64 (m : Int))).run Try.prog W = .ok (.slice (some ⟨W.heap.size, 0, none⟩) m m) (W.alloc (.cells (madeCells #[.slice none 0 0] m) 33)) := by
  intro W
  exact run_make_row' 59 33 (.slice none 0 0) 24 Try.underlying59 infoB rfl .i64 .i64 m (by omega) (by omega) W
theorem DRows.made (W : World) (k : Nat) (hk : k ≤ 1000) (gd : Nat) : DRows (W.alloc (.cells (madeCells #[.slice none 0 0] k) 33)) W.heap.size W.heap.size k (fun _ => []) gd := by
  have h := Own.lit_ W W.heap.size 33 (madeCells #[.slice none 0 0] k) (Nat.le_refl _) (by simp [size_madeCells, maxLen]; omega)
  have e1 : (madeCells #[Value.slice none 0 0] k).size = k := by simp [size_madeCells]
  have e2 : (madeCells #[Value.slice none 0 0] k).toList = List.replicate k (.slice none 0 0) := by rw [toList_madeCells_one]
  rw [e1, e2] at h
  have e3 : ∀ r, r < k → (List.replicate k (Value.slice none 0 0)).getD r undef = .slice none 0 0 := fun r hr => by
    rw [List.getD_eq_getElem?_getD, List.getElem?_replicate, if_pos hr]; rfl
  refine ⟨_, by simp, h, fun r hr => ?_, fun r s hr hs _ => ?_, fun r hr => ?_⟩
  · rw [e3 r hr]; exact Own.nil_ _ _ _
  · rw [e3 r hr]; exact Sep.nil_ _
  · rw [e3 r hr]; simp [Value.ownBlock]
theorem DRows.congr {w : World} {base G k gd : Nat} {row row' : Nat → List UInt8} (h : DRows w base G k row gd) (e : ∀ r, r < k → row r = row' r) : DRows w base G k row' gd := by
  obtain ⟨vs, h1, h2, h3, h4, h5⟩ := h
  exact ⟨vs, h1, h2, fun r hr => e r hr ▸ h3 r hr, h4, h5⟩
theorem DRows.home {w : World} {base G k gd : Nat} {row : Nat → List UInt8} (h : DRows w base G k row gd) : DRows w base G k row G := by
  obtain ⟨vs, h1, h2, h3, h4, h5⟩ := h
  refine ⟨vs, h1, h2, h3, h4, fun r hr e => ?_⟩
  exact ((h3 r hr).ne_ h2 ne5B).elim (fun h => by rw [h] at e; cases e) fun h => h e
end Go.Proofs.Ytikgipohjoiagaa
