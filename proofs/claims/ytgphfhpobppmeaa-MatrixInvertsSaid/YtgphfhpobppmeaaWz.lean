/-
  Words for the walk of matrix.Invert: the closure, the search of a row, the cuts.
-/
import Derived.Test.YtgphfhpobppmeaaWy
import Derived.Test.YtgphfhpobppmeaaMy
namespace Go.Proofs.Ytgphfhpobppmeaa
open Go.RowKit GfM

/-- the closure: is element c of a row not 0? -/
theorem invc_any (w : World) (x : Value) (l : List UInt8) (hx : Reads w x (bv l)) (a : Addr) (c : Nat) (ha : w.cell? a = some (.int .i64 c)) (hc : c < l.length) :
    Calls Try.prog 28 #[x, .pointer (some a)] w fun e w' => e = .returned (.bool (decide (l.getD c 0 ≠ 0))) ∧ w = w' := by
  have hlen := hx.len
  rw [bv_length] at hlen
  obtain ⟨A, k, rfl, h1, h2, hcell⟩ := hx.shape
  obtain ⟨b, off, rfl, hc2⟩ := hcell (by omega)
  have hx0 := hc2 c hc
  have hd : (decide (l.getD c 0 ≠ 0)) = ((((l.getD c 0).toNat : Nat) : Int) != 0) := by
    by_cases h : l.getD c 0 = 0
    · rw [h]; rfl
    · have h3 := toNat_ne h
      rw [decide_eq_true (by simpa using h), eq_comm, bne_iff_ne]
      omega
  rw [hd]
  generalize l.getD c 0 = u at *
  generalize l.length = n at *
  clear hcell hc2 hx hd
  go_enter Try.func28, Try.ntmps28
  go_wp2
  go_ret
  exact ⟨rfl, rfl⟩
/-- the rows from row c on. -/
theorem OM.from_ {w : World} {base G n : Nat} {row : Nat → List UInt8} (h : OM w base G n n row) (hn : n ≤ 1000) (c : Nat) (hc : c < n) :
    ∃ xs : List Value, xs.length = n - c ∧ Reads w (.slice (some ⟨G, c, none⟩) ((n - c : Nat) : Int).toNat ((n - c : Nat) : Int).toNat) xs ∧ ∀ r, r < n - c → Reads w (xs.getD r undef) (bv (row (c + r))) := by
  obtain ⟨h1, h2, gs, ks, h3, h4, h5⟩ := h
  rw [Int.toNat_natCast]
  refine ⟨(outer n n row gs ks).toList.drop c, by rw [List.length_drop, Array.length_toList, outer_size], ?_, fun r hr => ?_⟩
  · refine ⟨some ⟨G, c, none⟩, n - c, by rw [List.length_drop, Array.length_toList, outer_size], by rw [List.length_drop, Array.length_toList, outer_size]; exact Nat.le_refl _, by omega, fun _ => ⟨G, c, rfl, fun j hj => ?_⟩⟩
    rw [h3.cell, List.getElem?_drop, Array.getElem?_toList]
  · rw [List.getD_eq_getElem?_getD, List.getElem?_drop, Array.getElem?_toList, outer_at _ _ _ _ _ _ (by omega), if_pos (by omega)]
    exact (h4 (c + r) (by omega)).2.reads
/-- the search of a row whose element c isn't 0. -/
theorem find_any {w : World} {base G n : Nat} {row : Nat → List UInt8} (h : OM w base G n n row) (hn : n ≤ 1000) (c : Nat) (hc : c < n) (hK : ∀ r, r < n → c < (row r).length) (p : Nat) (hp : Blk w p 3 #[.int .i64 c]) :
    Calls Try.prog 27 #[.slice (some ⟨G, c, none⟩) (n - c) (n - c), .func (.func 28) #[] #[.pointer (some ⟨p, 0, none⟩)]] w fun e w' => e = .returned (.int .i64 (firstI (n - c) (fun r => decide ((row (c + r)).getD c 0 ≠ 0)) 0)) ∧ w = w' := by
  obtain ⟨xs, hl, hx, hr⟩ := h.from_ hn c hc
  rw [Int.toNat_natCast] at hx
  have := index_invert w _ xs hx ⟨p, 0, none⟩ (fun r => decide ((row (c + r)).getD c 0 ≠ 0)) (fun r hr2 => invc_any w _ _ (hr r (by omega)) _ c (by rw [hp.cell]; rfl) (hK _ (by omega)))
  rw [hl] at this
  exact this

/-- a row of the call's own is stored behind those that stand; then one of its elements is changed. -/
theorem OM.push {wr w3 : World} {base G n i : Nat} {row : Nat → List UInt8} (hM : OM wr base G n i row) (hb : Below wr.heap.size wr w3) {v : Value} {l : List UInt8} (hO : Own w3 wr.heap.size 5 v (bv l)) {j : Nat} (hj : j < l.length) (hi : i < n) (x : UInt8) (row' : Nat → List UInt8) (e : ∀ r, r < i + 1 → upd row i (l.set j x) r = row' r) :
    ∃ g cap, v = .slice (some ⟨g, 0, none⟩) l.length cap ∧ l.length ≤ cap ∧ w3.cell? ⟨G, i, none⟩ = some (.slice none 0 0) ∧ w3.frozen? ⟨G, i, none⟩ = false ∧ G < w3.heap.size ∧ G ≤ g ∧ g < w3.heap.size ∧
      w3.cell? ⟨g, j, none⟩ = some (.int .u8 ((l.getD j 0).toNat : Int)) ∧ w3.frozen? ⟨g, j, none⟩ = false ∧ g ≠ G ∧ G ≠ g ∧
      (w3.setCell ⟨G, i, none⟩ (.slice (some ⟨g, 0, none⟩) l.length cap)).cell? ⟨g, j, none⟩ = some (.int .u8 ((l.getD j 0).toNat : Int)) ∧
      (w3.setCell ⟨G, i, none⟩ (.slice (some ⟨g, 0, none⟩) l.length cap)).frozen? ⟨g, j, none⟩ = false ∧
      OM ((w3.setCell ⟨G, i, none⟩ (.slice (some ⟨g, 0, none⟩) l.length cap)).setCell ⟨g, j, none⟩ (.int .u8 (x.toNat : Int))) base G n (i + 1) row' := by
  obtain ⟨g, cap, rfl, hg, hlt, hc⟩ := hO.form (by rw [bv_length]; omega)
  rw [bv_length] at hO hc ⊢
  have hM3 := hM.below hb
  have hGg : G < g := by have := hM.lt; omega
  have hB := Bytes.of_own hO
  have h := hM.put hb (Nat.le_refl i) hi hB hg
  rw [Nat.max_eq_right (by omega)] at h
  obtain ⟨g', k', h1, h2, h3, _, h5, _, _, h8⟩ := h.elem i j (Nat.lt_succ_self i) (by rw [upd_same]; exact hj)
  rw [upd_same] at h1 h2
  have hB1 := hB.far (p := ⟨G, i, none⟩) (by simp; omega) (.slice (some ⟨g, 0, none⟩) l.length cap)
  have e1 : g' = g := by
    obtain ⟨_, _, gs, ks, hb3, _, _⟩ := hM3
    have hs := (hb3.set_ i (.slice (some ⟨g, 0, none⟩) l.length cap)).cell i
    rw [h1, Array.getElem?_setIfInBounds, if_pos rfl, if_pos (by rw [outer_size]; exact hi)] at hs
    injection hs with hs
    injection hs with hs _ _
    injection hs with hs
    injection hs
  subst e1
  refine ⟨g', cap, rfl, hc, hM3.nil_at i hi (Nat.le_refl _), hM3.frozen i, hM3.lt, by omega, hlt, hB.cell j hj, hB.frozen j (by omega), by omega, by omega, hB1.cell j hj, hB1.frozen j (by omega), ?_⟩
  refine (h8 x).congr fun r hr => ?_
  rw [← e r hr, upd_same]
  unfold upd
  split <;> rfl

theorem OM.cell_set {w : World} {base G n i : Nat} {row : Nat → List UInt8} (h : OM w base G n i row) (a : Nat) {b : Nat} (hb : b < n) (v : Value) : ∃ x, (w.setCell ⟨G, a, none⟩ v).cell? ⟨G, b, none⟩ = some x := by
  obtain ⟨_, _, gs, ks, h3, _⟩ := h
  rw [(h3.set_ a v).cell]
  exact ⟨_, Array.getElem?_eq_getElem (by rw [Array.size_setIfInBounds, outer_size]; exact hb)⟩
theorem w64_add (a b : Nat) (h : a + b ≤ 1000) : wrap64 ((a : Int) + (b : Int)) = ((a + b : Nat) : Int) := by unfold wrap64; omega
theorem i64_add (a b : Nat) (h : a + b ≤ 1000) : IntKind.i64.wrap ((a : Int) + (b : Int)) = ((a + b : Nat) : Int) := by rw [IntKind.wrap_i64]; omega

/-- one row is scaled, by way of texts, and stored again. -/
theorem scale_row {W : World} {base G n K : Nat} {row : Nat → List UInt8} (hM : OM W base G n n row) {c : Nat} (hc : c < n) (hK : (row c).length = K) (hK1 : K ≤ 1000) (a : UInt8) {p : Nat} {x : Value} (hbx : Blk W p 3 #[x])
    (row' : Nat → List UInt8) (e : ∀ r, r < n → upd row c ((row c).map (mul a)) r = row' r) :
    Calls Try.prog 30 #[.int .u8 ((a.toNat : Nat) : Int), .string (bs (row c))] W fun e w3 => ∃ (s : ByteArray) (g cap : Nat) (W4 : World) (y : Value), e = .returned (.string s) ∧ w3.cell? ⟨p, 0, none⟩ = some x ∧
      (convert 9 37 (.string s)).run Try.prog w3 = .ok (.slice (some ⟨g, 0, none⟩) K cap) W4 ∧ W4.cell? ⟨p, 0, none⟩ = some x ∧ W4.cell? ⟨G, c, none⟩ = some y ∧ W4.frozen? ⟨G, c, none⟩ = false ∧ G < W4.heap.size ∧
      (W4.setCell ⟨G, c, none⟩ (.slice (some ⟨g, 0, none⟩) K cap)).cell? ⟨p, 0, none⟩ = some x ∧
      OM (W4.setCell ⟨G, c, none⟩ (.slice (some ⟨g, 0, none⟩) K cap)) base G n n row' ∧ Blk (W4.setCell ⟨G, c, none⟩ (.slice (some ⟨g, 0, none⟩) K cap)) p 3 #[x] ∧ Below base W (W4.setCell ⟨G, c, none⟩ (.slice (some ⟨g, 0, none⟩) K cap)) := by
  have hl : ((row c).map (mul a)).length = K := by rw [List.length_map, hK]
  have hsz : (bs ((row c).map (mul a))).size = K := hl
  refine (scale_ba _ a rfl (bs (row c)) (row c) (bs_toList _).symm (by rw [bs_size, hK]; omega) W).mono ?_
  rintro e w3 ⟨rfl, hb⟩
  have hcv := Lib.run_convert_string_bytes (P := Try.prog) w3 9 37 5 (bs ((row c).map (mul a))) Try.underlying9 Try.underlying37 Try.underlying5
  have hB0 := Bytes.made w3 (bs ((row c).map (mul a))) _ (bs_toList _).symm (by rw [hsz]; omega)
  have hbw := Lib.bytesWorld_below w3 5 (bs ((row c).map (mul a)))
  have hB4 := below_then hb hb.size hbw
  have hput := (hM.put hB4 (by omega : c ≤ n) hc hB0 hb.size).congr (row' := row') fun r hr => e r (by omega)
  rw [Nat.max_eq_left (by omega), hl] at hput
  rw [hsz] at hcv hput
  have hpG : p ≠ G := fun e => by
    obtain ⟨_, _, gs, ks, h3, _⟩ := hM
    unfold Blk at h3 hbx
    rw [e, h3] at hbx
    injection hbx with hbx
    injection hbx with _ ht
    exact absurd ht (by decide)
  have hx4 := hbx.below hB4 hbx.lt
  have hx5 := hx4.far (p := ⟨G, c, none⟩) hpG (.slice (some ⟨w3.heap.size, 0, none⟩) K (grownCap w3 K 0 5))
  have hM4 := hM.below hB4
  obtain ⟨g1, k1, hc1, _⟩ := hM4.rowAt c hc
  refine ⟨_, _, _, _, _, rfl, (hbx.below hb hbx.lt).cell 0, hcv, hx4.cell 0, hc1, hM4.frozen c, hM4.lt, hx5.cell 0, hput, hx5, (hB4.mono ?_).setCell hM.1 _⟩
  exact Nat.le_trans hM.1 (Nat.le_of_lt hM.lt)

/-! ### the cuts -/
/-- the outer row's cells: i rows are cut. -/
def cutO (n i : Nat) (gs ks : Nat → Nat) : Array Value :=
  ((List.range n).map fun r => if r < i then Value.slice (some ⟨gs r, n, none⟩) n n else .slice (some ⟨gs r, 0, none⟩) (2 * n) (ks r)).toArray
theorem cutO_size (n i : Nat) (gs ks : Nat → Nat) : (cutO n i gs ks).size = n := by simp [cutO]
theorem cutO_at (n i : Nat) (gs ks : Nat → Nat) (r : Nat) (hr : r < n) :
    (cutO n i gs ks)[r]? = some (if r < i then Value.slice (some ⟨gs r, n, none⟩) n n else .slice (some ⟨gs r, 0, none⟩) (2 * n) (ks r)) := by
  simp [cutO, hr]
theorem cutO_set (n i : Nat) (gs ks : Nat → Nat) (hi : i < n) : (cutO n i gs ks).setIfInBounds i (.slice (some ⟨gs i, n, none⟩) n n) = cutO n (i + 1) gs ks := by
  apply Array.ext_getElem?
  intro s
  rw [Array.getElem?_setIfInBounds]
  by_cases hsn : s < n
  · rw [cutO_at _ _ _ _ _ hsn, cutO_at _ _ _ _ _ hsn]
    by_cases e : i = s
    · subst e
      rw [if_pos rfl, if_pos (by rw [cutO_size]; exact hi), if_pos (by omega)]
    · rw [if_neg e]
      by_cases hsi : s < i
      · rw [if_pos hsi, if_pos (by omega)]
      · rw [if_neg hsi, if_neg (by omega)]
  · rw [if_neg (by omega), Array.getElem?_eq_none (by rw [cutO_size]; omega), Array.getElem?_eq_none (by rw [cutO_size]; omega)]
/-- i rows of block G are cut, in the middle; all stand in rows of their own. -/
def Cuts (w : World) (base G n i : Nat) (gs ks : Nat → Nat) (m : List (List UInt8)) : Prop :=
  base ≤ G ∧ Blk w G 37 (cutO n i gs ks) ∧ ∀ r, r < n → base ≤ gs r ∧ Bytes w (gs r) (m.getD r []) (ks r) ∧ (m.getD r []).length = 2 * n
section
variable {w w' : World} {base G n i : Nat} {m : List (List UInt8)}
theorem OM.cuts (h : OM w base G n n fun r => m.getD r []) (hs : Shp m n (2 * n)) : ∃ gs ks, Cuts w base G n 0 gs ks m := by
  obtain ⟨h1, h2, gs, ks, h3, h4, h5⟩ := h
  refine ⟨gs, ks, h1, ?_, fun r hr => ⟨(h4 r hr).1, (h4 r hr).2, hs.2 r hr⟩⟩
  have e : outer n n (fun r => m.getD r []) gs ks = cutO n 0 gs ks := by
    unfold outer cutO
    congr 1
    apply List.map_congr_left
    intro r hr
    have hr : r < n := by simpa using hr
    rw [if_pos hr, if_neg (by omega), hs.2 r hr]
  rwa [← e]
variable {gs ks : Nat → Nat}
theorem Cuts.next (h : Cuts w base G n i gs ks m) (hi : i < n) : w.cell? ⟨G, i, none⟩ = some (.slice (some ⟨gs i, 0, none⟩) (2 * n) (ks i)) ∧ w.frozen? ⟨G, i, none⟩ = false ∧ 2 * n ≤ ks i ∧ ks i ≤ 9223372036854775807 ∧ G < w.heap.size ∧
    Cuts (w.setCell ⟨G, i, none⟩ (.slice (some ⟨gs i, n, none⟩) n n)) base G n (i + 1) gs ks m := by
  obtain ⟨h1, h2, h3⟩ := h
  obtain ⟨_, hB, hl⟩ := h3 i hi
  refine ⟨by rw [h2.cell, cutO_at _ _ _ _ _ hi, if_neg (by omega)], h2.frozen i, by have := hB.1; omega, hB.2.1, h2.lt, h1, ?_, fun r hr => ⟨(h3 r hr).1, ?_, (h3 r hr).2.2⟩⟩
  · have := h2.set_ i (.slice (some ⟨gs i, n, none⟩) n n)
    rwa [cutO_set _ _ _ _ hi] at this
  · exact (h3 r hr).2.1.far (Bytes.ne_ (h3 r hr).2.1 h2 (by decide)) _
theorem Cuts.drew (h : Cuts w base G n i gs ks m) : Cuts w.drew base G n i gs ks m := h
theorem Cuts.done (h : Cuts w base G n n gs ks m) (hn : n ≤ 1000) : RMat w (.slice (some ⟨G, 0, none⟩) n n) ((List.range n).map fun r => (m.getD r []).drop n) := by
  obtain ⟨h1, h2, h3⟩ := h
  have hlen : ((List.range n).map fun r => (m.getD r []).drop n).length = n := by simp
  refine ⟨(cutO n n gs ks).toList, by rw [Array.length_toList, cutO_size, hlen], ?_, fun r hr => ?_⟩
  · refine ⟨some ⟨G, 0, none⟩, n, by rw [Array.length_toList, cutO_size], by rw [Array.length_toList, cutO_size]; exact Nat.le_refl _, by omega, fun _ => ⟨G, 0, rfl, fun j hj => ?_⟩⟩
    rw [Nat.zero_add, h2.cell]; simp
  · have hrn : r < n := by omega
    obtain ⟨_, hB, hl⟩ := h3 r hrn
    rw [List.getD_eq_getElem?_getD, Array.getElem?_toList, cutO_at _ _ _ _ _ hrn, if_pos hrn]
    have e : ((List.range n).map fun r => (m.getD r []).drop n).getD r [] = (m.getD r []).drop n := by
      rw [List.getD_eq_getElem?_getD, List.getElem?_map, List.getElem?_range hrn]; rfl
    rw [e]
    have hd : ((m.getD r []).drop n).length = n := by rw [List.length_drop]; omega
    refine ⟨some ⟨gs r, n, none⟩, n, by rw [bv_length, hd]; rfl, by rw [bv_length, hd]; exact Nat.le_refl _, by omega, fun _ => ⟨gs r, n, rfl, fun j hj => ?_⟩⟩
    rw [bv_length, hd] at hj
    rw [hB.cell (n + j) (by omega), bv_at _ _ (by rw [hd]; exact hj)]
    congr 4
    simp only [List.getD_eq_getElem?_getD, List.getElem?_drop]
end
/-- Invert's answer. -/
inductive InvR (A : List (List UInt8)) : List (List UInt8) → Int → Prop
  | bad : goodM A = false → InvR A [] 4
  | shape : goodM A = true → A.length ≠ (A.getD 0 []).length → InvR A [] 7
  | done {X e} : goodM A = true → A.length = (A.getD 0 []).length → InvOut A A.length X e → InvR A X e
end Go.Proofs.Ytgphfhpobppmeaa
