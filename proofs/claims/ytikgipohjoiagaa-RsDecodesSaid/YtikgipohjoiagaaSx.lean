/-
  Double parity, plain: the parity chunks of data chunks, byte by byte and text by text; what changes when one chunk changes.
-/
import Derived.Test.YtikgipohjoiagaaSw
namespace Go.Proofs.Ytikgipohjoiagaa
open Go.RowKit GfM

/-! ### texts -/
/-- texts, as Go holds them. -/
def sv (T : List ByteArray) : List Value := T.map Value.string
theorem sv_length (T : List ByteArray) : (sv T).length = T.length := by simp [sv]
theorem sv_append (T U : List ByteArray) : sv (T ++ U) = sv T ++ sv U := by simp [sv]
/-- the i-th text. -/
def tl (T : List ByteArray) (i : Nat) : ByteArray := T.getD i ByteArray.empty
/-- its bytes. -/
def tb (T : List ByteArray) (i : Nat) : List UInt8 := (tl T i).data.toList
theorem tb_length (T : List ByteArray) (i : Nat) : (tb T i).length = (tl T i).size := rfl
theorem tl_at (T : List ByteArray) (i : Nat) (h : i < T.length) : T[i]? = some (tl T i) := by
  simp [tl, h]
theorem sv_at (T : List ByteArray) (i : Nat) (h : i < T.length) : (sv T)[i]? = some (.string (tl T i)) := by
  rw [sv, List.getElem?_map, tl_at T i h]; rfl
theorem sv_set (T : List ByteArray) (i : Nat) (s : ByteArray) : (sv T).set i (.string s) = sv (T.set i s) := by simp [sv, List.map_set]
theorem sv_take (T : List ByteArray) (i : Nat) : (sv T).take i = sv (T.take i) := by simp [sv, List.map_take]
theorem tl_mem (T : List ByteArray) (i : Nat) (h : i < T.length) : tl T i ∈ T := List.mem_of_getElem? (tl_at T i h)
theorem tl_of_mem {T : List ByteArray} {s : ByteArray} (h : s ∈ T) : ∃ i, i < T.length ∧ tl T i = s := by
  obtain ⟨i, hi, he⟩ := List.getElem_of_mem h
  exact ⟨i, hi, by simp [tl, hi, he]⟩
theorem tl_append (T U : List ByteArray) (i : Nat) : tl (T ++ U) i = if i < T.length then tl T i else tl U (i - T.length) := by
  unfold tl
  by_cases h : i < T.length
  · rw [if_pos h, List.getD_eq_getElem?_getD, List.getElem?_append_left h, List.getD_eq_getElem?_getD]
  · rw [if_neg h, List.getD_eq_getElem?_getD, List.getElem?_append_right (Nat.le_of_not_lt h), List.getD_eq_getElem?_getD]
theorem tl_set (T : List ByteArray) (i j : Nat) (s : ByteArray) (h : i < T.length) : tl (T.set i s) j = if j = i then s else tl T j := by
  unfold tl
  by_cases e : j = i
  · subst e; simp [h]
  · rw [if_neg e]; simp [List.getElem?_set, Ne.symm e]
theorem tl_take (T : List ByteArray) (n i : Nat) (h : i < n) : tl (T.take n) i = tl T i := by
  unfold tl
  simp [List.getElem?_take, h]

/-! ### the shape -/
/-- texts of one length. -/
def Evn (T : List ByteArray) : Prop := ∀ i, i < T.length → (tl T i).size = (tl T 0).size
open Classical in
/-- the error's number of a shape. -/
noncomputable def shE (T : List ByteArray) : Int := if Evn T then (if 0 < T.length ∧ 65536 < (tl T 0).size then 5 else 0) else 7
theorem shE_zero {T : List ByteArray} (h : Evn T) (hs : (tl T 0).size ≤ 65536) : shE T = 0 := by
  unfold shE; rw [if_pos h, if_neg (by omega)]
theorem shE_ok {T : List ByteArray} (h : shE T = 0) : Evn T ∧ (0 < T.length → (tl T 0).size ≤ 65536) := by
  unfold shE at h
  by_cases h1 : Evn T
  · rw [if_pos h1] at h
    refine ⟨h1, fun hp => ?_⟩
    by_cases h2 : 0 < T.length ∧ 65536 < (tl T 0).size
    · rw [if_pos h2] at h; cases h
    · omega
  · rw [if_neg h1] at h; cases h
theorem shE_long {T : List ByteArray} (h : Evn T) (hp : 0 < T.length) (hs : 65536 < (tl T 0).size) : shE T = 5 := by
  unfold shE; rw [if_pos h, if_pos ⟨hp, hs⟩]
theorem shE_odd {T : List ByteArray} (h : ¬ Evn T) : shE T = 7 := by unfold shE; rw [if_neg h]
/-- the first text of another length. -/
theorem odd_first {T : List ByteArray} (h : ¬ Evn T) : ∃ i, i < T.length ∧ (tl T i).size ≠ (tl T 0).size ∧ ∀ j, j < i → (tl T j).size = (tl T 0).size := by
  have hx : ∃ i, i < T.length ∧ (tl T i).size ≠ (tl T 0).size := by
    apply Classical.byContradiction
    intro hn
    apply h
    intro i hi
    apply Classical.byContradiction
    intro he
    exact hn ⟨i, hi, he⟩
  obtain ⟨i, hi⟩ := hx
  induction i using Nat.strongRecOn with
  | ind i ih =>
    by_cases hj : ∃ j, j < i ∧ (tl T j).size ≠ (tl T 0).size
    · obtain ⟨j, hj1, hj2⟩ := hj
      exact ih j hj1 ⟨by omega, hj2⟩
    · refine ⟨i, hi.1, hi.2, fun j hj1 => ?_⟩
      apply Classical.byContradiction
      intro he
      exact hj ⟨j, hj1, he⟩

/-! ### sums of texts -/
theorem xorL_at (a b : List UInt8) (k : Nat) (ha : k < a.length) (hb : k < b.length) : (xorL a b).getD k 0 = a.getD k 0 ^^^ b.getD k 0 := by
  simp [xorL, List.getElem?_zipWith, ha, hb]
theorem list_ext0 {a b : List UInt8} {n : Nat} (ha : a.length = n) (hb : b.length = n) (h : ∀ k, k < n → a.getD k 0 = b.getD k 0) : a = b := by
  apply List.ext_getElem (by omega)
  intro k h1 h2
  have := h k (by omega)
  simpa [List.getD_eq_getElem?_getD, h1, h2] using this
/-- a weight. -/
def wt (i : Nat) : UInt8 := pwI 2 (i : Int)
/-- P and Q at a place, of the first i texts. -/
def pb (T : List ByteArray) (k : Nat) : Nat → UInt8
  | 0 => 0
  | i + 1 => pb T k i ^^^ (tb T i).getD k 0
def qb (T : List ByteArray) (k : Nat) : Nat → UInt8
  | 0 => 0
  | i + 1 => qb T k i ^^^ mul (wt i) ((tb T i).getD k 0)
/-- P and Q of the first i texts. -/
def pp (T : List ByteArray) (n : Nat) : Nat → List UInt8
  | 0 => List.replicate n 0
  | i + 1 => xorL (pp T n i) (tb T i)
def qq (T : List ByteArray) (n : Nat) : Nat → List UInt8
  | 0 => List.replicate n 0
  | i + 1 => xorL (qq T n i) ((tb T i).map (mul (wt i)))
theorem getD_map (f : UInt8 → UInt8) (l : List UInt8) (k : Nat) (h : k < l.length) : (l.map f).getD k 0 = f (l.getD k 0) := by simp [h]
theorem pp_length (T : List ByteArray) (n i : Nat) (h : ∀ j, j < i → (tl T j).size = n) : (pp T n i).length = n := by
  induction i with
  | zero => simp [pp]
  | succ i ih => rw [pp, xorL_length, ih (fun j hj => h j (by omega)), tb_length, h i (by omega), Nat.min_self]
theorem qq_length (T : List ByteArray) (n i : Nat) (h : ∀ j, j < i → (tl T j).size = n) : (qq T n i).length = n := by
  induction i with
  | zero => simp [qq]
  | succ i ih => rw [qq, xorL_length, ih (fun j hj => h j (by omega)), List.length_map, tb_length, h i (by omega), Nat.min_self]
theorem pp_at (T : List ByteArray) (n i k : Nat) (h : ∀ j, j < i → (tl T j).size = n) (hk : k < n) : (pp T n i).getD k 0 = pb T k i := by
  induction i with
  | zero => simp [pp, pb, hk]
  | succ i ih =>
    have h' : ∀ j, j < i → (tl T j).size = n := fun j hj => h j (by omega)
    rw [pp, pb, xorL_at _ _ _ (by rw [pp_length T n i h']; exact hk) (by rw [tb_length, h i (by omega)]; exact hk), ih h']
theorem qq_at (T : List ByteArray) (n i k : Nat) (h : ∀ j, j < i → (tl T j).size = n) (hk : k < n) : (qq T n i).getD k 0 = qb T k i := by
  induction i with
  | zero => simp [qq, qb, hk]
  | succ i ih =>
    have h' : ∀ j, j < i → (tl T j).size = n := fun j hj => h j (by omega)
    have hl : k < (tb T i).length := by rw [tb_length, h i (by omega)]; exact hk
    rw [qq, qb, xorL_at _ _ _ (by rw [qq_length T n i h']; exact hk) (by rw [List.length_map]; exact hl), ih h', getD_map _ _ _ hl]
/-- P and Q byte by byte, the first k places. -/
def pbs (T : List ByteArray) (k : Nat) : List UInt8 := (List.range k).map fun j => pb T j T.length
def qbs (T : List ByteArray) (k : Nat) : List UInt8 := (List.range k).map fun j => qb T j T.length
theorem pbs_succ (T : List ByteArray) (k : Nat) : pbs T (k + 1) = pbs T k ++ [pb T k T.length] := by simp [pbs, List.range_succ]
theorem qbs_succ (T : List ByteArray) (k : Nat) : qbs T (k + 1) = qbs T k ++ [qb T k T.length] := by simp [qbs, List.range_succ]
theorem pbs_length (T : List ByteArray) (k : Nat) : (pbs T k).length = k := by simp [pbs]
theorem qbs_length (T : List ByteArray) (k : Nat) : (qbs T k).length = k := by simp [qbs]
theorem pp_pbs (T : List ByteArray) (n : Nat) (h : ∀ j, j < T.length → (tl T j).size = n) : pbs T n = pp T n T.length := by
  refine list_ext0 (n := n) (pbs_length T n) (pp_length T n _ h) fun k hk => ?_
  rw [pp_at T n _ k h hk]
  simp [pbs, hk]
theorem qq_qbs (T : List ByteArray) (n : Nat) (h : ∀ j, j < T.length → (tl T j).size = n) : qbs T n = qq T n T.length := by
  refine list_ext0 (n := n) (qbs_length T n) (qq_length T n _ h) fun k hk => ?_
  rw [qq_at T n _ k h hk]
  simp [qbs, hk]

/-! ### the answers -/
/-- the size of the chunks. -/
def nn (T : List ByteArray) : Nat := (tl T 0).size
/-- the error of Encode. -/
noncomputable def enE (T : List ByteArray) : Int := if T.length < 1 ∨ 8 < T.length then 2 else shE T
open Classical in
/-- P and Q of T, nothing with an error. -/
noncomputable def enP (T : List ByteArray) : List UInt8 := if enE T = 0 then pp T (nn T) T.length else []
open Classical in
noncomputable def enQ (T : List ByteArray) : List UInt8 := if enE T = 0 then qq T (nn T) T.length else []
theorem enE_ok {T : List ByteArray} (h : enE T = 0) : 1 ≤ T.length ∧ T.length ≤ 8 ∧ (∀ j, j < T.length → (tl T j).size = nn T) ∧ nn T ≤ 65536 := by
  unfold enE at h
  by_cases h1 : T.length < 1 ∨ 8 < T.length
  · rw [if_pos h1] at h; cases h
  · rw [if_neg h1] at h
    obtain ⟨h2, h3⟩ := shE_ok h
    exact ⟨by omega, by omega, h2, h3 (by omega)⟩
theorem enE_of {T : List ByteArray} (h1 : 1 ≤ T.length) (h2 : T.length ≤ 8) (h3 : ∀ j, j < T.length → (tl T j).size = nn T) (h4 : nn T ≤ 65536) : enE T = 0 := by
  unfold enE
  rw [if_neg (by omega)]
  exact shE_zero h3 h4
end Go.Proofs.Ytikgipohjoiagaa
