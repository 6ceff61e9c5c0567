/-
  What changes in P and Q when one chunk changes: plain.
-/
import Derived.Test.YtikgipohjoiagaaSu
namespace Go.Proofs.Ytikgipohjoiagaa
open Go.RowKit GfM

theorem tb_set (T : List ByteArray) (i j : Nat) (s : ByteArray) (h : i < T.length) : tb (T.set i s) j = if j = i then s.data.toList else tb T j := by
  unfold tb; rw [tl_set T i j s h]; split <;> rfl
/-- P at a place behind a change. -/
theorem pb_set (T : List ByteArray) (i k : Nat) (s : ByteArray) (h : i < T.length) (m : Nat) : pb (T.set i s) k m = if i < m then pb T k m ^^^ ((tb T i).getD k 0 ^^^ s.data.toList.getD k 0) else pb T k m := by
  induction m with
  | zero => rw [if_neg (by omega)]; rfl
  | succ m ih =>
    rw [pb, pb, ih, tb_set T i m s h]
    by_cases h1 : i < m
    · rw [if_pos h1, if_neg (show ¬ m = i by omega), if_pos (show i < m + 1 by omega)]
      generalize pb T k m = a
      generalize (tb T m).getD k 0 = b
      generalize (tb T i).getD k 0 ^^^ s.data.toList.getD k 0 = c
      rw [UInt8.xor_assoc, UInt8.xor_assoc, UInt8.xor_comm c b]
    · rw [if_neg h1]
      by_cases h2 : i = m
      · subst h2
        rw [if_pos rfl, if_pos (show i < i + 1 by omega)]
        generalize pb T k i = a
        generalize (tb T i).getD k 0 = b
        generalize s.data.toList.getD k 0 = c
        rw [UInt8.xor_assoc, ← UInt8.xor_assoc b b c, UInt8.xor_self, UInt8.zero_xor]
      · rw [if_neg (show ¬ m = i by omega), if_neg (show ¬ i < m + 1 by omega)]
theorem mul_xor (a b c : UInt8) : mul a (b ^^^ c) = mul a b ^^^ mul a c := mul_add a b c
theorem qb_set (T : List ByteArray) (i k : Nat) (s : ByteArray) (h : i < T.length) (m : Nat) : qb (T.set i s) k m = if i < m then qb T k m ^^^ mul (wt i) ((tb T i).getD k 0 ^^^ s.data.toList.getD k 0) else qb T k m := by
  induction m with
  | zero => rw [if_neg (by omega)]; rfl
  | succ m ih =>
    rw [qb, qb, ih, tb_set T i m s h]
    by_cases h1 : i < m
    · rw [if_pos h1, if_neg (show ¬ m = i by omega), if_pos (show i < m + 1 by omega)]
      generalize qb T k m = a
      generalize mul (wt m) ((tb T m).getD k 0) = b
      generalize mul (wt i) ((tb T i).getD k 0 ^^^ s.data.toList.getD k 0) = c
      rw [UInt8.xor_assoc, UInt8.xor_assoc, UInt8.xor_comm c b]
    · rw [if_neg h1]
      by_cases h2 : i = m
      · subst h2
        rw [if_pos rfl, if_pos (show i < i + 1 by omega), mul_xor]
        generalize qb T k i = a
        generalize mul (wt i) ((tb T i).getD k 0) = b
        generalize mul (wt i) (s.data.toList.getD k 0) = c
        rw [UInt8.xor_assoc, ← UInt8.xor_assoc b b c, UInt8.xor_self, UInt8.zero_xor]
      · rw [if_neg (show ¬ m = i by omega), if_neg (show ¬ i < m + 1 by omega)]
/-- texts of one size, and their change. -/
def Siz (T : List ByteArray) (n : Nat) : Prop := ∀ j, j < T.length → (tl T j).size = n
theorem Siz.set_ {T : List ByteArray} {n : Nat} (h : Siz T n) (i : Nat) (s : ByteArray) (hs : s.size = n) : Siz (T.set i s) n := by
  intro j hj
  rw [List.length_set] at hj
  by_cases hi : i < T.length
  · rw [tl_set T i j s hi]
    split
    · exact hs
    · exact h j hj
  · rw [List.set_eq_of_length_le (by omega)]
    exact h j hj
theorem Siz.nn {T : List ByteArray} {n : Nat} (h : Siz T n) (h0 : 0 < T.length) : nn T = n := h 0 h0
theorem Siz.enE {T : List ByteArray} {n : Nat} (h : Siz T n) (h1 : 1 ≤ T.length) (h2 : T.length ≤ 8) (h3 : n ≤ 65536) : enE T = 0 := enE_of h1 h2 (fun j hj => by rw [h j hj, h.nn h1]) (by rw [h.nn h1]; exact h3)
theorem Siz.enP {T : List ByteArray} {n : Nat} (h : Siz T n) (h1 : 1 ≤ T.length) (h2 : T.length ≤ 8) (h3 : n ≤ 65536) : enP T = pp T n T.length := by
  unfold Go.Proofs.Ytikgipohjoiagaa.enP; rw [if_pos (h.enE h1 h2 h3), h.nn h1]
theorem Siz.enQ {T : List ByteArray} {n : Nat} (h : Siz T n) (h1 : 1 ≤ T.length) (h2 : T.length ≤ 8) (h3 : n ≤ 65536) : enQ T = qq T n T.length := by
  unfold Go.Proofs.Ytikgipohjoiagaa.enQ; rw [if_pos (h.enE h1 h2 h3), h.nn h1]
/-- the change of one text, by Update. -/
theorem pp_set {T : List ByteArray} {n : Nat} (h : Siz T n) (i : Nat) (hi : i < T.length) (s : ByteArray) (hs : s.size = n) : pp (T.set i s) n T.length = xorL (pp T n T.length) (dl (tl T i) s) := by
  have hd : (dl (tl T i) s).length = n := dl_length (h i hi) hs
  have h' := h.set_ i s hs
  refine list_ext0 (n := n) (pp_length _ _ _ fun j hj => h' j (by rw [List.length_set]; exact hj)) (by rw [xorL_length, hd, pp_length _ _ _ h, Nat.min_self]) fun k hk => ?_
  rw [pp_at _ _ _ _ (fun j hj => h' j (by rw [List.length_set]; exact hj)) hk, pb_set T i k s hi, if_pos hi, xorL_at _ _ _ (by rw [pp_length _ _ _ h]; exact hk) (by rw [hd]; exact hk), pp_at _ _ _ _ h hk]
  congr 1
  unfold dl
  rw [xorL_at _ _ _ (by rw [size_toList, h i hi]; exact hk) (by rw [size_toList, hs]; exact hk)]
  rfl
theorem qq_set {T : List ByteArray} {n : Nat} (h : Siz T n) (i : Nat) (hi : i < T.length) (s : ByteArray) (hs : s.size = n) : qq (T.set i s) n T.length = xorL (qq T n T.length) ((dl (tl T i) s).map (mul (wt i))) := by
  have hd : (dl (tl T i) s).length = n := dl_length (h i hi) hs
  have h' := h.set_ i s hs
  refine list_ext0 (n := n) (qq_length _ _ _ fun j hj => h' j (by rw [List.length_set]; exact hj)) (by rw [xorL_length, List.length_map, hd, qq_length _ _ _ h, Nat.min_self]) fun k hk => ?_
  rw [qq_at _ _ _ _ (fun j hj => h' j (by rw [List.length_set]; exact hj)) hk, qb_set T i k s hi, if_pos hi, xorL_at _ _ _ (by rw [qq_length _ _ _ h]; exact hk) (by rw [List.length_map, hd]; exact hk), qq_at _ _ _ _ h hk, getD_map _ _ _ (by rw [hd]; exact hk)]
  congr 2
  unfold dl
  rw [xorL_at _ _ _ (by rw [size_toList, h i hi]; exact hk) (by rw [size_toList, hs]; exact hk)]
  rfl
/-- Update on a stripe's own P and Q. -/
theorem up_set {T : List ByteArray} {n : Nat} (h : Siz T n) (h1 : 1 ≤ T.length) (h2 : T.length ≤ 8) (h3 : n ≤ 65536) (i : Nat) (hi : i < T.length) (s : ByteArray) (hs : s.size = n) :
    upE (bs (enP T)) (bs (enQ T)) i (tl T i) s = 0 ∧ upP (bs (enP T)) (bs (enQ T)) i (tl T i) s = enP (T.set i s) ∧ upQ (bs (enP T)) (bs (enQ T)) i (tl T i) s = enQ (T.set i s) := by
  have hp : (bs (enP T)).size = n := by rw [bs_size, h.enP h1 h2 h3]; exact pp_length _ _ _ h
  have hq : (bs (enQ T)).size = n := by rw [bs_size, h.enQ h1 h2 h3]; exact qq_length _ _ _ h
  have e0 : upE (bs (enP T)) (bs (enQ T)) i (tl T i) s = 0 := by
    unfold upE
    rw [if_neg (by omega)]
    refine shE_zero ?_ (by show (bs (enP T)).size ≤ 65536; omega)
    intro j hj
    have : j = 0 ∨ j = 1 ∨ j = 2 ∨ j = 3 := by simp at hj; omega
    rcases this with rfl | rfl | rfl | rfl
    · rfl
    · show (bs (enQ T)).size = (bs (enP T)).size; omega
    · show (tl T i).size = (bs (enP T)).size; rw [h i hi, hp]
    · show s.size = (bs (enP T)).size; omega
  have h' := h.set_ i s hs
  refine ⟨e0, ?_, ?_⟩
  · unfold upP
    rw [if_pos e0, bs_toList, h'.enP (by rw [List.length_set]; exact h1) (by rw [List.length_set]; exact h2) h3, List.length_set, h.enP h1 h2 h3, pp_set h i hi s hs]
  · unfold upQ
    rw [if_pos e0, bs_toList, h'.enQ (by rw [List.length_set]; exact h1) (by rw [List.length_set]; exact h2) h3, List.length_set, h.enQ h1 h2 h3, qq_set h i hi s hs]
    rfl
end Go.Proofs.Ytikgipohjoiagaa
