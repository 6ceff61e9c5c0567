/-
  A text's bytes as a row of the call's own; the walk of gf.Scale.
-/
import Derived.Test.YtgphfhpobppmeaaWa
import Derived.Lib.ConvBytes
import Derived.Lib.AtoiErrMem
namespace Go.Proofs.Ytgphfhpobppmeaa
open Go.RowKit GfM

/-! ### the row that '[]byte(s)' lays -/
/-- Block g holds the bytes l, room for cap, none of them frozen. -/
def Bytes (w : World) (g : Nat) (l : List UInt8) (cap : Nat) : Prop :=
  l.length ≤ cap ∧ cap ≤ 9223372036854775807 ∧ ∃ (cs : Array Value) (fr : Nat × Nat), w.heap[g]? = some (.cells cs 5 fr) ∧ (∀ j, j < cap → ¬ (fr.1 ≤ j ∧ j < fr.2)) ∧ l.length ≤ cs.size ∧ ∀ j, j < l.length → cs[j]? = (bv l)[j]?
section
variable {w w' : World} {g cap : Nat} {l : List UInt8}
theorem Bytes.lt (h : Bytes w g l cap) : g < w.heap.size := by
  obtain ⟨_, _, cs, fr, hh, _⟩ := h
  exact (Array.getElem?_eq_some_iff.1 hh).1
theorem Bytes.cell (h : Bytes w g l cap) (j : Nat) (hj : j < l.length) : w.cell? ⟨g, j, none⟩ = some (.int .u8 ((l.getD j 0).toNat : Int)) := by
  obtain ⟨_, _, cs, fr, hh, _, _, hc⟩ := h
  rw [cell_of_row w g j cs 5 fr hh, hc j hj, bv_at l j hj]
theorem Bytes.frozen (h : Bytes w g l cap) (j : Nat) (hj : j < cap) : w.frozen? ⟨g, j, none⟩ = false := by
  obtain ⟨_, _, cs, fr, hh, hf, _⟩ := h
  obtain ⟨lo, hi⟩ := fr
  have := hf j hj
  simp only at this
  simp [World.frozen?, hh]
  omega
theorem Bytes.set_ (h : Bytes w g l cap) (j : Nat) (u : UInt8) : Bytes (w.setCell ⟨g, j, none⟩ (.int .u8 (u.toNat : Int))) g (l.set j u) cap := by
  obtain ⟨h1, h2, cs, fr, hh, hf, hs, hc⟩ := h
  refine ⟨by simpa using h1, h2, cs.setIfInBounds j (.int .u8 (u.toNat : Int)), fr, ?_, hf, by simpa using hs, ?_⟩
  · simp [World.setCell, Array.getElem?_modify, hh]
  · intro k hk
    rw [List.length_set] at hk
    rw [← bv_set, Array.getElem?_setIfInBounds, List.getElem?_set, bv_length]
    by_cases e : j = k
    · subst e
      rw [if_pos rfl, if_pos (by omega), if_pos rfl, if_pos hk]
    · rw [if_neg e, if_neg e]
      exact hc k hk
theorem Bytes.drew (h : Bytes w g l cap) : Bytes w.drew g l cap := h
theorem Bytes.drewN (h : Bytes w g l cap) (n : Nat) : Bytes (w.drewN n) g l cap := h
theorem Bytes.reads (h : Bytes w g l cap) : Reads w (.slice (some ⟨g, 0, none⟩) l.length cap) (bv l) := by
  refine ⟨some ⟨g, 0, none⟩, cap, by rw [bv_length], by rw [bv_length]; exact h.1, h.2.1, fun _ => ⟨g, 0, rfl, fun j hj => ?_⟩⟩
  rw [bv_length] at hj
  rw [Nat.zero_add, h.cell j hj, bv_at l j hj]
theorem Bytes.below {B : Nat} (h : Bytes w g l cap) (hb : Below B w w') (hg : g < B) : Bytes w' g l cap := by
  obtain ⟨h1, h2, cs, fr, hh, rest⟩ := h
  exact ⟨h1, h2, cs, fr, (hb.block g hg).trans hh, rest⟩
end
theorem Bytes.alloc {w : World} {g cap : Nat} {l : List UInt8} (h : Bytes w g l cap) (o : Obj) : Bytes (w.alloc o) g l cap := h.below (B := w.heap.size) ((Below.refl _ _).alloc (Nat.le_refl _) o) h.lt
theorem Bytes.far {w : World} {g cap : Nat} {l : List UInt8} (h : Bytes w g l cap) {p : Addr} (hp : g ≠ p.block) (u : Value) : Bytes (w.setCell p u) g l cap := by
  obtain ⟨h1, h2, cs, fr, hh, rest⟩ := h
  exact ⟨h1, h2, cs, fr, (Below.heap_setCell w p u g hp).trans hh, rest⟩
theorem Bytes.grown {w w' : World} {g cap : Nat} {l : List UInt8} (h : Bytes w g l cap) {row : Option Nat} (hb : w.grownBy w' row) (hg : some g ≠ row) : Bytes w' g l cap := by
  have hlt := h.lt
  obtain ⟨h1, h2, cs, fr, hh, rest⟩ := h
  exact ⟨h1, h2, cs, fr, (hb.block g hlt hg).trans hh, rest⟩
/-- a row of the call's own that isn't nil. -/
theorem Bytes.of_own {w : World} {base g cap : Nat} {l : List UInt8} (h : Own w base 5 (.slice (some ⟨g, 0, none⟩) l.length cap) (bv l)) : Bytes w g l cap := by
  rcases h.2 with ⟨h1, _⟩ | ⟨g', cap', cur, he, hb, hh, hc, hm, hs, ht⟩
  · cases h1
  · injection he with h1 h2 h3
    injection h1 with h1
    injection h1 with h1
    subst h1 h3
    rw [bv_length] at *
    refine ⟨hc, hm, cur, (0, 0), hh, fun j _ => by simp, by simp at hs; omega, fun j hj => ?_⟩
    rw [← ht]
    simp only [Nat.mul_one]
    rw [List.getElem?_take, if_pos hj]; simp
theorem Bytes.ne_ {w : World} {g g' cap : Nat} {l : List UInt8} {t : TypeId} {cs : Array Value} (h : Bytes w g l cap) (h' : Blk w g' t cs) (hne : (5 : Nat) ≠ t) : g ≠ g' := by
  rintro rfl
  obtain ⟨_, _, cs1, fr, hh, _⟩ := h
  unfold Blk at h'
  rw [hh] at h'
  injection h' with h'
  injection h' with _ ht
  exact hne ht
/-- what make([]byte, n) lays. -/
theorem Bytes.made_zero (W : World) (n : Nat) (h : n ≤ 140737488351232) : Bytes (W.alloc (.cells (madeCells #[.int .u8 0] n) 5)) W.heap.size (List.replicate n 0) n := by
  refine ⟨by simp, by omega, madeCells #[.int .u8 0] n, (0, 0), heap_alloc_new W _, fun j _ => by simp, by simp [size_madeCells], fun j hj => ?_⟩
  have hj' : j < n := by simpa using hj
  rw [bv_at _ _ hj]
  simp [madeCells, hj', Nat.mod_one, List.getD_eq_getElem?_getD]
theorem grownCap_bounds (w : World) (s : ByteArray) (h : s.size ≤ 140737488351232) : s.size ≤ grownCap w s.size 0 5 ∧ grownCap w s.size 0 5 ≤ 9223372036854775807 := by
  refine ⟨grownCap_ge w s.size 0 5, ?_⟩
  have := grownCap_le_maxLen w s.size 0 5 (by simp only [maxLen]; omega)
  simpa [maxLen] using this
theorem Bytes.made (w : World) (s : ByteArray) (l : List UInt8) (hl : l = s.data.toList) (h : s.size ≤ 140737488351232) : Bytes (Lib.bytesWorld w 5 s) w.heap.size l (grownCap w s.size 0 5) := by
  obtain ⟨h1, h2⟩ := grownCap_bounds w s h
  subst hl
  have hsz : (Lib.bytesCells w 5 s).size = grownCap w s.size 0 5 := by
    have : s.data.size = s.size := rfl
    simp only [Lib.bytesCells, Array.size_append, Array.size_map, Array.size_replicate]
    omega
  refine ⟨by rw [size_toList]; exact h1, h2, _, _, Lib.bytesWorld_at_new w 5 s, ?_, ?_, ?_⟩
  · intro j hj
    rw [hsz]
    simp only
    omega
  · rw [hsz, size_toList]; exact h1
  · intro j hj
    rw [size_toList] at hj
    have hc := Lib.bytesWorld_cell w 5 s j hj
    rw [cell_of_row _ _ j _ _ _ (Lib.bytesWorld_at_new w 5 s)] at hc
    rw [hc, bv_at _ _ (by rw [size_toList]; exact hj)]

/-! ### the plain part -/
/-- the first i bytes times a, the others as they were. -/
def scaled (a : UInt8) (l : List UInt8) (i : Nat) : List UInt8 := (l.take i).map (mul a) ++ l.drop i
theorem scaled_length (a : UInt8) (l : List UInt8) (i : Nat) : (scaled a l i).length = l.length := by
  simp [scaled]; omega
theorem scaled_zero (a : UInt8) (l : List UInt8) : scaled a l 0 = l := by simp [scaled]
theorem scaled_all (a : UInt8) (l : List UInt8) : scaled a l l.length = l.map (mul a) := by simp [scaled]
theorem scaled_at (a : UInt8) (l : List UInt8) (i : Nat) (h : i < l.length) : (scaled a l i).getD i 0 = l.getD i 0 := by
  simp only [scaled, List.getD_eq_getElem?_getD]
  rw [List.getElem?_append_right (by simp; omega), List.length_map, List.length_take, Nat.min_eq_left (by omega), Nat.sub_self, List.getElem?_drop, Nat.add_zero]
theorem scaled_succ (a : UInt8) (l : List UInt8) (i : Nat) (h : i < l.length) : (scaled a l i).set i (mul a (l.getD i 0)) = scaled a l (i + 1) := by
  simp only [scaled]
  rw [List.set_append_right _ _ (by simp; omega), List.length_map, List.length_take, Nat.min_eq_left (by omega), Nat.sub_self, List.drop_eq_getElem_cons h, List.set_cons_zero,
    List.take_succ_eq_append_getElem h, List.map_append, List.append_assoc]
  simp [List.getD_eq_getElem?_getD, h]
theorem map_take_succ (f : UInt8 → UInt8) (l : List UInt8) (i : Nat) (h : i < l.length) : (l.take (i + 1)).map f = (l.take i).map f ++ [f (l.getD i 0)] := by
  rw [List.take_succ_eq_append_getElem h, List.map_append]
  simp [List.getD_eq_getElem?_getD, h]

/-! ### gf.Scale -/
set_option maxRecDepth 100000 in
set_option maxHeartbeats 400000 in
theorem scale_ba (x : Int) (a : UInt8) (hx : x = (a.toNat : Int)) (s : ByteArray) (l : List UInt8) (hl : l = s.data.toList) (hs : s.size ≤ 140737488351232) (w : World) :
    Calls Try.prog 30 #[.int .u8 x, .string s] w fun e w' => e = .returned (.string (bs (l.map (mul a)))) ∧ Below w.heap.size w w' := by
  subst hx
  have kc := Lib.run_convert_string_bytes (P := Try.prog) w 9 37 5 s Try.underlying9 Try.underlying37 Try.underlying5
  have hB0 := Bytes.made w s l hl hs
  have hbw0 := Lib.bytesWorld_below w 5 s
  have hsz : l.length = s.size := by rw [hl]; exact size_toList s
  have hg := hB0.lt
  generalize Lib.bytesWorld w 5 s = w0 at *
  generalize grownCap w s.size 0 5 = cap at *
  have HSZ := Lib.hid hsz
  have hcap := hB0.1
  rw [hsz] at hcap
  have hcap2 := hB0.2.1
  clear hl hsz
  go_enter Try.func30, Try.ntmps30
  go_wp2
  clear kc
  go_loopw [6, 11] (fun _ s11 wr => ∃ i : Nat, i ≤ s.size ∧ s11 = .int .i64 i ∧ Bytes wr w.heap.size (scaled a l i) cap ∧ Below w.heap.size w wr) (fun _ s11 _ => s.size - (intOf s11).toNat)
  case atStart => exact ⟨0, by omega, rfl, by rw [scaled_zero]; exact hB0, hbw0⟩
  case round =>
    obtain ⟨i, hi, rfl, hB, hbw⟩ := hrel
    by_cases hlt : i < s.size
    · have hil : i < l.length := by rw [HSZ.out]; exact hlt
      have hcell := hB.cell i (by rw [scaled_length]; exact hil)
      rw [scaled_at a l i hil] at hcell
      have hfr := hB.frozen i (by omega)
      have hst := hB.set_ i (mul a (l.getD i 0))
      rw [scaled_succ a l i hil] at hst
      generalize l.getD i 0 = u at *
      have HST := Lib.hid hst; clear hst
      go_wp2_with (go_at_call 40; refine (mul_any _ _ a u rfl rfl _).mono ?_; rintro e w' ⟨rfl, rfl⟩)
      go_roundw
      case rel => exact ⟨i + 1, by omega, by go_num, HST.out, hbw.setCell (by simp) _⟩
      case measure => simp [intOf]; omega
    · obtain rfl : i = s.size := by omega
      have hr := hB.reads
      rw [scaled_length, HSZ.out] at hr
      have hcv := reads_string (P := Try.prog) (src := 37) (dst := 9) Try.underlying37 Try.underlying5 Try.underlying9 hr
      rw [← HSZ.out, scaled_all, HSZ.out] at hcv
      generalize hr2 : l.map (mul a) = r at *
      have HR := Lib.hid hr2; clear hr2
      go_wp2
      go_ret
      exact ⟨by rw [HR.out]; rfl, hbw⟩

end Go.Proofs.Ytgphfhpobppmeaa
