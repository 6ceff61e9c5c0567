/-
  Words on memory: a matrix that the call made itself, row by row.
-/
import Derived.Test.YtgphfhpobppmeaaWo
namespace Go.Proofs.Ytgphfhpobppmeaa
open Go.RowKit GfM

/-- the outer row's cells: i rows stand, the others are nil. -/
def outer (n i : Nat) (row : Nat → List UInt8) (gs ks : Nat → Nat) : Array Value :=
  ((List.range n).map fun r => if r < i then Value.slice (some ⟨gs r, 0, none⟩) (row r).length (ks r) else .slice none 0 0).toArray
theorem outer_size (n i : Nat) (row : Nat → List UInt8) (gs ks : Nat → Nat) : (outer n i row gs ks).size = n := by simp [outer]
theorem outer_at (n i : Nat) (row : Nat → List UInt8) (gs ks : Nat → Nat) (r : Nat) (hr : r < n) :
    (outer n i row gs ks)[r]? = some (if r < i then Value.slice (some ⟨gs r, 0, none⟩) (row r).length (ks r) else .slice none 0 0) := by
  simp [outer, hr]
/-- Block G is the outer row of a matrix of n rows, i of which stand; each in a block of its own, from block 'base' on. -/
def OM (w : World) (base G n i : Nat) (row : Nat → List UInt8) : Prop :=
  base ≤ G ∧ i ≤ n ∧ ∃ gs ks : Nat → Nat, Blk w G 37 (outer n i row gs ks) ∧ (∀ r, r < i → base ≤ gs r ∧ Bytes w (gs r) (row r) (ks r)) ∧ (∀ r s, r < i → s < i → gs r = gs s → r = s)
/-- a row takes another's place. -/
def upd (row : Nat → List UInt8) (r : Nat) (l : List UInt8) : Nat → List UInt8 := fun s => if s = r then l else row s
theorem upd_same (row : Nat → List UInt8) (r : Nat) (l : List UInt8) : upd row r l r = l := if_pos rfl
theorem upd_other (row : Nat → List UInt8) {r s : Nat} (l : List UInt8) (h : s ≠ r) : upd row r l s = row s := if_neg h
section
variable {w w' : World} {base G n i : Nat} {row : Nat → List UInt8}
theorem OM.lt (h : OM w base G n i row) : G < w.heap.size := by
  obtain ⟨_, _, gs, ks, hb, _⟩ := h
  exact hb.lt
theorem OM.frozen (h : OM w base G n i row) (r : Nat) : w.frozen? ⟨G, r, none⟩ = false := by
  obtain ⟨_, _, gs, ks, hb, _⟩ := h
  exact hb.frozen r
theorem OM.nil_at (h : OM w base G n i row) (r : Nat) (hr : r < n) (hi : i ≤ r) : w.cell? ⟨G, r, none⟩ = some (.slice none 0 0) := by
  obtain ⟨_, _, gs, ks, hb, _⟩ := h
  rw [hb.cell, outer_at _ _ _ _ _ _ hr, if_neg (by omega)]
theorem OM.below (h : OM w base G n i row) (hb : Below w.heap.size w w') : OM w' base G n i row := by
  obtain ⟨h1, h2, gs, ks, h3, h4, h5⟩ := h
  exact ⟨h1, h2, gs, ks, h3.below hb h3.lt, fun r hr => ⟨(h4 r hr).1, (h4 r hr).2.below hb (h4 r hr).2.lt⟩, h5⟩
theorem OM.drewN (h : OM w base G n i row) (k : Nat) : OM (w.drewN k) base G n i row := h
theorem OM.drew (h : OM w base G n i row) : OM w.drew base G n i row := h
theorem OM.alloc (h : OM w base G n i row) (o : Obj) : OM (w.alloc o) base G n i row := h.below ((Below.refl _ _).alloc (Nat.le_refl _) o)
theorem OM.congr (h : OM w base G n i row) {row' : Nat → List UInt8} (e : ∀ r, r < i → row r = row' r) : OM w base G n i row' := by
  obtain ⟨h1, h2, gs, ks, h3, h4, h5⟩ := h
  refine ⟨h1, h2, gs, ks, ?_, fun r hr => ⟨(h4 r hr).1, e r hr ▸ (h4 r hr).2⟩, h5⟩
  have : outer n i row gs ks = outer n i row' gs ks := by
    unfold outer
    congr 1
    apply List.map_congr_left
    intro r _
    by_cases hr : r < i
    · rw [if_pos hr, if_pos hr, e r hr]
    · rw [if_neg hr, if_neg hr]
  rwa [← this]
/-- one element: where it lies, and what the matrix is behind a store into it. -/
theorem OM.elem (h : OM w base G n i row) (r c : Nat) (hr : r < i) (hc : c < (row r).length) : ∃ g k,
    w.cell? ⟨G, r, none⟩ = some (.slice (some ⟨g, 0, none⟩) (row r).length k) ∧ w.cell? ⟨g, c, none⟩ = some (.int .u8 (((row r).getD c 0).toNat : Int)) ∧ w.frozen? ⟨g, c, none⟩ = false ∧
    base ≤ g ∧ g < w.heap.size ∧ (row r).length ≤ k ∧ (∀ b t cs, (5 : Nat) ≠ t → Blk w b t cs → b ≠ g) ∧ (∀ u : UInt8, OM (w.setCell ⟨g, c, none⟩ (.int .u8 (u.toNat : Int))) base G n i (upd row r ((row r).set c u))) := by
  obtain ⟨h1, h2, gs, ks, h3, h4, h5⟩ := h
  obtain ⟨hb, hB⟩ := h4 r hr
  refine ⟨gs r, ks r, ?_, hB.cell c hc, hB.frozen c (by have := hB.1; omega), hb, hB.lt, hB.1, fun b t cs hne hbk e => Bytes.ne_ hB (e ▸ hbk) hne rfl, fun u => ?_⟩
  · rw [h3.cell, outer_at _ _ _ _ _ _ (by omega), if_pos hr]
  · refine ⟨h1, h2, gs, ks, ?_, fun s hs => ⟨(h4 s hs).1, ?_⟩, h5⟩
    · have e : outer n i (upd row r ((row r).set c u)) gs ks = outer n i row gs ks := by
        unfold outer
        congr 1
        apply List.map_congr_left
        intro s _
        by_cases hs : s = r
        · subst hs; rw [upd_same, List.length_set]
        · rw [upd_other _ _ hs]
      rw [e]
      exact h3.far (fun e => Bytes.ne_ hB h3 (by decide) e.symm) _
    · by_cases e : s = r
      · subst e; rw [upd_same]; exact hB.set_ c u
      · rw [upd_other _ _ e]
        exact (h4 s hs).2.far (fun e2 => e (h5 s r hs hr e2)) _
/-- a row's shape. -/
theorem OM.rowAt (h : OM w base G n i row) (r : Nat) (hr : r < i) : ∃ g k, w.cell? ⟨G, r, none⟩ = some (.slice (some ⟨g, 0, none⟩) (row r).length k) ∧ base ≤ g ∧ g < w.heap.size ∧ Bytes w g (row r) k := by
  obtain ⟨h1, h2, gs, ks, h3, h4, h5⟩ := h
  refine ⟨gs r, ks r, ?_, (h4 r hr).1, (h4 r hr).2.lt, (h4 r hr).2⟩
  rw [h3.cell, outer_at _ _ _ _ _ _ (by omega), if_pos hr]
/-- a new row is stored, in the place of one that stands, or behind them all. -/
theorem OM.put (h0 : OM w base G n i row) (hb : Below w.heap.size w w') {r : Nat} (hri : r ≤ i) (hr : r < n) {g k : Nat} {l : List UInt8} (hB : Bytes w' g l k) (hg : w.heap.size ≤ g) :
    OM (w'.setCell ⟨G, r, none⟩ (.slice (some ⟨g, 0, none⟩) l.length k)) base G n (max i (r + 1)) (upd row r l) := by
  obtain ⟨h1, h2, gs, ks, h3, h4, h5⟩ := h0
  have hG := h3.lt
  have hd : ∀ s, s < i → gs s ≠ g := fun s hs e => by have := (h4 s hs).2.lt; omega
  have h3' := h3.below hb hG
  refine ⟨h1, by omega, fun s => if s = r then g else gs s, fun s => if s = r then k else ks s, ?_, fun s hs => ?_, fun a b ha hb' e => ?_⟩
  · have hset := h3'.set_ r (.slice (some ⟨g, 0, none⟩) l.length k)
    have e : (outer n i row gs ks).setIfInBounds r (.slice (some ⟨g, 0, none⟩) l.length k) = outer n (max i (r + 1)) (upd row r l) (fun s => if s = r then g else gs s) (fun s => if s = r then k else ks s) := by
      apply Array.ext_getElem?
      intro s
      rw [Array.getElem?_setIfInBounds]
      by_cases hsn : s < n
      · rw [outer_at _ _ _ _ _ _ hsn, outer_at _ _ _ _ _ _ hsn]
        by_cases e : r = s
        · subst e
          rw [if_pos rfl, if_pos (by rw [outer_size]; exact hsn), if_pos (by omega), upd_same, if_pos rfl, if_pos rfl]
        · rw [if_neg e]
          by_cases hsi : s < i
          · rw [if_pos hsi, if_pos (by omega), upd_other _ _ (fun h => e h.symm), if_neg (fun h => e h.symm), if_neg (fun h => e h.symm)]
          · rw [if_neg hsi, if_neg (by omega)]
      · rw [if_neg (by omega), Array.getElem?_eq_none (by rw [outer_size]; omega), Array.getElem?_eq_none (by rw [outer_size]; omega)]
    rwa [e] at hset
  · by_cases e : s = r
    · subst e
      simp only [if_true]
      rw [upd_same]
      exact ⟨by omega, hB.far (fun e2 => Bytes.ne_ hB h3' (by decide) e2) _⟩
    · simp only [if_neg e]
      rw [upd_other _ _ e]
      have h4s := h4 s (by omega)
      have hBs := h4s.2.below hb h4s.2.lt
      exact ⟨h4s.1, hBs.far (fun e2 => Bytes.ne_ hBs h3' (by decide) e2) _⟩
  · by_cases ea : a = r
    · by_cases eb : b = r
      · omega
      · simp only [if_pos ea, if_neg eb] at e
        exact absurd e.symm (hd b (by omega))
    · by_cases eb : b = r
      · simp only [if_neg ea, if_pos eb] at e
        exact absurd e (hd a (by omega))
      · simp only [if_neg ea, if_neg eb] at e
        exact h5 a b (by omega) (by omega) e
/-- two rows change places. -/
theorem OM.swap (h : OM w base G n i row) {a b : Nat} (ha : a < i) (hb : b < i) : ∃ ga ka gb kb,
    w.cell? ⟨G, a, none⟩ = some (.slice (some ⟨ga, 0, none⟩) (row a).length ka) ∧ w.cell? ⟨G, b, none⟩ = some (.slice (some ⟨gb, 0, none⟩) (row b).length kb) ∧
    OM ((w.setCell ⟨G, a, none⟩ (.slice (some ⟨gb, 0, none⟩) (row b).length kb)).setCell ⟨G, b, none⟩ (.slice (some ⟨ga, 0, none⟩) (row a).length ka)) base G n i (upd (upd row a (row b)) b (row a)) := by
  obtain ⟨h1, h2, gs, ks, h3, h4, h5⟩ := h
  have hc : ∀ r, r < i → w.cell? ⟨G, r, none⟩ = some (.slice (some ⟨gs r, 0, none⟩) (row r).length (ks r)) := fun r hr => by rw [h3.cell, outer_at _ _ _ _ _ _ (by omega), if_pos hr]
  refine ⟨gs a, ks a, gs b, ks b, hc a ha, hc b hb, h1, h2, fun s => if s = b then gs a else if s = a then gs b else gs s, fun s => if s = b then ks a else if s = a then ks b else ks s, ?_, fun s hs => ?_, fun r s hr hs e => ?_⟩
  · have hset := (h3.set_ a (.slice (some ⟨gs b, 0, none⟩) (row b).length (ks b))).set_ b (.slice (some ⟨gs a, 0, none⟩) (row a).length (ks a))
    have e : ((outer n i row gs ks).setIfInBounds a (.slice (some ⟨gs b, 0, none⟩) (row b).length (ks b))).setIfInBounds b (.slice (some ⟨gs a, 0, none⟩) (row a).length (ks a)) =
        outer n i (upd (upd row a (row b)) b (row a)) (fun s => if s = b then gs a else if s = a then gs b else gs s) (fun s => if s = b then ks a else if s = a then ks b else ks s) := by
      apply Array.ext_getElem?
      intro s
      rw [Array.getElem?_setIfInBounds, Array.getElem?_setIfInBounds, Array.size_setIfInBounds]
      by_cases hsn : s < n
      · rw [outer_at _ _ _ _ _ _ hsn, outer_at _ _ _ _ _ _ hsn]
        by_cases eb : b = s
        · subst eb
          rw [if_pos rfl, if_pos (by rw [outer_size]; exact hsn), if_pos hb, upd_same, if_pos rfl, if_pos rfl]
        · have eb' : ¬ s = b := fun h => eb h.symm
          by_cases ea : a = s
          · subst ea
            simp only [eb, eb', if_true, if_false, outer_size, hsn, ha, upd_other _ _ eb', upd_same]
          · have ea' : ¬ s = a := fun h => ea h.symm
            simp only [eb, ea, eb', ea', if_false, upd_other _ _ eb', upd_other _ _ ea']
      · rw [if_neg (by omega), if_neg (by omega), Array.getElem?_eq_none (by rw [outer_size]; omega), Array.getElem?_eq_none (by rw [outer_size]; omega)]
    rwa [e] at hset
  · have far : ∀ t, t < i → ∀ u1 u2 : Value, Bytes ((w.setCell ⟨G, a, none⟩ u1).setCell ⟨G, b, none⟩ u2) (gs t) (row t) (ks t) := fun t ht u1 u2 => by
      have hBt := (h4 t ht).2
      have hne := Bytes.ne_ hBt h3 (by decide)
      exact (hBt.far hne u1).far hne u2
    by_cases eb : s = b
    · subst eb
      simp only [if_true]
      rw [upd_same]
      exact ⟨(h4 a ha).1, far a ha _ _⟩
    · simp only [if_neg eb]
      rw [upd_other _ _ eb]
      by_cases ea : s = a
      · subst ea
        simp only [if_true]
        rw [upd_same]
        exact ⟨(h4 b hb).1, far b hb _ _⟩
      · simp only [if_neg ea]
        rw [upd_other _ _ ea]
        exact ⟨(h4 s hs).1, far s hs _ _⟩
  · have key : ∀ t, (if t = b then gs a else if t = a then gs b else gs t) = gs (if t = b then a else if t = a then b else t) := by
      intro t
      by_cases h1 : t = b
      · rw [if_pos h1, if_pos h1]
      · rw [if_neg h1, if_neg h1]
        by_cases h2 : t = a
        · rw [if_pos h2, if_pos h2]
        · rw [if_neg h2, if_neg h2]
    have e2 : gs (if r = b then a else if r = a then b else r) = gs (if s = b then a else if s = a then b else s) := by
      rw [← key, ← key]; exact e
    have hlt : ∀ t, t < i → (if t = b then a else if t = a then b else t) < i := by
      intro t ht
      split
      · exact ha
      · split
        · exact hb
        · exact ht
    have e3 := h5 _ _ (hlt r hr) (hlt s hs) e2
    revert e3
    split <;> split <;> (try split) <;> (try split) <;> omega
/-- what it reads as. -/
theorem OM.reads (h : OM w base G n n row) (hn : n ≤ 9223372036854775807) (m : List (List UInt8)) (hm : m.length = n) (e : ∀ r, r < n → row r = m.getD r []) : RMat w (.slice (some ⟨G, 0, none⟩) n n) m := by
  obtain ⟨h1, h2, gs, ks, h3, h4, h5⟩ := h
  refine ⟨(outer n n row gs ks).toList, by rw [Array.length_toList, outer_size, hm], ?_, fun r hr => ?_⟩
  · refine ⟨some ⟨G, 0, none⟩, n, by rw [Array.length_toList, outer_size], by rw [Array.length_toList, outer_size]; exact Nat.le_refl _, hn, fun _ => ⟨G, 0, rfl, fun j hj => ?_⟩⟩
    rw [Nat.zero_add, h3.cell]; simp
  · have hrn : r < n := by omega
    rw [List.getD_eq_getElem?_getD, Array.getElem?_toList, outer_at _ _ _ _ _ _ hrn, if_pos hrn]
    have := (h4 r hrn).2.reads
    rw [e r hrn] at this ⊢
    exact this
end
/-- one element of a matrix that is read. -/
theorem RMat.el {w : World} {b o n c : Nat} {m : List (List UInt8)} (h : RMat w (.slice (some ⟨b, o, none⟩) n c) m) (r j : Nat) (hr : r < m.length) (hj : j < (m.getD r []).length) : ∃ b1 o1 c1,
    w.cell? ⟨b, o + r, none⟩ = some (.slice (some ⟨b1, o1, none⟩) (m.getD r []).length c1) ∧ (m.getD r []).length ≤ c1 ∧ w.cell? ⟨b1, o1 + j, none⟩ = some (.int .u8 ((en m r j).toNat : Int)) := by
  obtain ⟨A, c', he, _, _, hc⟩ := h.shape
  injection he with h1 h2 h3
  subst h1
  obtain ⟨b', o', he2, hrow⟩ := hc (by omega)
  injection he2 with he2
  injection he2 with e1 e2 e3
  subst e1 e2
  obtain ⟨x, hx, hR⟩ := hrow r hr
  obtain ⟨A1, c1, rfl, hl, _, hcc⟩ := hR.shape
  obtain ⟨b1, o1, rfl, hcell⟩ := hcc (by omega)
  exact ⟨b1, o1, c1, hx, hl, hcell j hj⟩
/-- where its rows stand. -/
theorem RMat.at_ {w : World} {v : Value} {m : List (List UInt8)} (h : RMat w v m) (hm : 0 < m.length) : ∃ b o c, v = .slice (some ⟨b, o, none⟩) m.length c ∧ m.length ≤ c ∧ b < w.heap.size := by
  obtain ⟨A, c, rfl, h1, _, hc⟩ := h.shape
  obtain ⟨b, o, rfl, hrow⟩ := hc hm
  obtain ⟨x, hx, _⟩ := hrow 0 hm
  exact ⟨b, o, c, rfl, h1, World.block_lt_of_cell? w _ hx⟩
/-- a row of a matrix that is read. -/
theorem RMat.rowAt {w : World} {b o n c : Nat} {m : List (List UInt8)} (h : RMat w (.slice (some ⟨b, o, none⟩) n c) m) (r : Nat) (hr : r < m.length) : ∃ A1 c1,
    w.cell? ⟨b, o + r, none⟩ = some (.slice A1 (m.getD r []).length c1) ∧ (m.getD r []).length ≤ c1 ∧ Reads w (.slice A1 (m.getD r []).length c1) (bv (m.getD r [])) := by
  obtain ⟨A, c', he, _, _, hc⟩ := h.shape
  injection he with h1 h2 h3
  subst h1
  obtain ⟨b', o', he2, hrow⟩ := hc (by omega)
  injection he2 with he2
  injection he2 with e1 e2 e3
  subst e1 e2
  obtain ⟨x, hx, hR⟩ := hrow r hr
  obtain ⟨A1, c1, rfl, hl, _, hcc⟩ := hR.shape
  exact ⟨A1, c1, hx, hl, hR⟩
end Go.Proofs.Ytgphfhpobppmeaa
