/-
  The walks of Scale (gf, ref02) and of the law GfScales.
-/
import Derived.Test.YtfdmakihobhhnaaWa
import Derived.Lib.ConvBytes
import Derived.Lib.AtoiErrMem
namespace Go.Proofs.Ytfdmakihobhhnaa
open Go.RowKit GfM

/-! ### the row that '[]byte(s)' lays -/
/-- Block g holds the bytes l, room for cap, none of them frozen. -/
def Bytes (w : World) (g : Nat) (l : List UInt8) (cap : Nat) : Prop :=
  l.length ≤ cap ∧ cap ≤ 9223372036854775807 ∧ ∃ (cs : Array Value) (fr : Nat × Nat), w.heap[g]? = some (.cells cs 5 fr) ∧ cap ≤ fr.1 ∧ l.length ≤ cs.size ∧ ∀ j, j < l.length → cs[j]? = (bv l)[j]?
section
variable {w w' : World} {g cap : Nat} {l : List UInt8}
theorem Bytes.lt (h : Bytes w g l cap) : g < w.heap.size := by
  obtain ⟨_, _, cs, fr, hh, _⟩ := h
  exact (Array.getElem?_eq_some_iff.1 hh).1
theorem Bytes.cell (h : Bytes w g l cap) (j : Nat) (hj : j < l.length) : w.cell? ⟨g, j, none⟩ = some (.int .u8 ((l.getD j 0).toNat : Int)) := by
  obtain ⟨_, _, cs, fr, hh, _, _, hc⟩ := h
  rw [cell_of_row w g j cs 5 fr hh, hc j hj, bv_at l j hj]
theorem Bytes.frozen (h : Bytes w g l cap) (j : Nat) (hj : j < cap) : w.frozen? ⟨g, j, none⟩ = false := by
  obtain ⟨_, _, cs, fr, hh, hf, _⟩ := h
  obtain ⟨lo, hi⟩ := fr
  simp only at hf
  simp [World.frozen?, hh]
  omega
theorem Bytes.set_ (h : Bytes w g l cap) (j : Nat) (u : UInt8) : Bytes (w.setCell ⟨g, j, none⟩ (.int .u8 (u.toNat : Int))) g (l.set j u) cap := by
  obtain ⟨h1, h2, cs, fr, hh, hf, hs, hc⟩ := h
  refine ⟨by simpa using h1, h2, cs.setIfInBounds j (.int .u8 (u.toNat : Int)), fr, ?_, hf, by simpa using hs, ?_⟩
  · simp [World.setCell, Array.getElem?_modify, hh]
  · intro k hk
    rw [List.length_set] at hk
    rw [← bv_set, Array.getElem?_setIfInBounds, List.getElem?_set, bv_length]
    by_cases e : j = k
    · subst e
      rw [if_pos rfl, if_pos (by omega), if_pos rfl, if_pos hk]
    · rw [if_neg e, if_neg e]
      exact hc k hk
theorem Bytes.drew (h : Bytes w g l cap) : Bytes w.drew g l cap := h
theorem Bytes.drewN (h : Bytes w g l cap) (n : Nat) : Bytes (w.drewN n) g l cap := h
theorem Bytes.reads (h : Bytes w g l cap) : Reads w (.slice (some ⟨g, 0, none⟩) l.length cap) (bv l) := by
  refine ⟨some ⟨g, 0, none⟩, cap, by rw [bv_length], by rw [bv_length]; exact h.1, h.2.1, fun _ => ⟨g, 0, rfl, fun j hj => ?_⟩⟩
  rw [bv_length] at hj
  rw [Nat.zero_add, h.cell j hj, bv_at l j hj]
theorem Bytes.below {B : Nat} (h : Bytes w g l cap) (hb : Below B w w') (hg : g < B) : Bytes w' g l cap := by
  obtain ⟨h1, h2, cs, fr, hh, rest⟩ := h
  exact ⟨h1, h2, cs, fr, (hb.block g hg).trans hh, rest⟩
end
theorem grownCap_bounds (w : World) (s : ByteArray) (h : s.size ≤ 140737488351232) : s.size ≤ grownCap w s.size 0 5 ∧ grownCap w s.size 0 5 ≤ 9223372036854775807 := by
  refine ⟨grownCap_ge w s.size 0 5, ?_⟩
  have := grownCap_le_maxLen w s.size 0 5 (by simp only [maxLen]; omega)
  simpa [maxLen] using this
theorem Bytes.made (w : World) (s : ByteArray) (l : List UInt8) (hl : l = s.data.toList) (h : s.size ≤ 140737488351232) : Bytes (Lib.bytesWorld w 5 s) w.heap.size l (grownCap w s.size 0 5) := by
  obtain ⟨h1, h2⟩ := grownCap_bounds w s h
  subst hl
  have hsz : (Lib.bytesCells w 5 s).size = grownCap w s.size 0 5 := by
    have : s.data.size = s.size := rfl
    simp only [Lib.bytesCells, Array.size_append, Array.size_map, Array.size_replicate]
    omega
  refine ⟨by rw [size_toList]; exact h1, h2, _, _, Lib.bytesWorld_at_new w 5 s, ?_, ?_, ?_⟩
  · show _ ≤ (Lib.bytesCells w 5 s).size
    rw [hsz]; exact Nat.le_refl _
  · rw [hsz, size_toList]; exact h1
  · intro j hj
    rw [size_toList] at hj
    have hc := Lib.bytesWorld_cell w 5 s j hj
    rw [cell_of_row _ _ j _ _ _ (Lib.bytesWorld_at_new w 5 s)] at hc
    rw [hc, bv_at _ _ (by rw [size_toList]; exact hj)]

/-! ### the plain part -/
/-- the first i bytes times a, the others as they were. -/
def scaled (a : UInt8) (l : List UInt8) (i : Nat) : List UInt8 := (l.take i).map (mul a) ++ l.drop i
theorem scaled_length (a : UInt8) (l : List UInt8) (i : Nat) : (scaled a l i).length = l.length := by
  simp [scaled]; omega
theorem scaled_zero (a : UInt8) (l : List UInt8) : scaled a l 0 = l := by simp [scaled]
theorem scaled_all (a : UInt8) (l : List UInt8) : scaled a l l.length = l.map (mul a) := by simp [scaled]
theorem scaled_at (a : UInt8) (l : List UInt8) (i : Nat) (h : i < l.length) : (scaled a l i).getD i 0 = l.getD i 0 := by
  simp only [scaled, List.getD_eq_getElem?_getD]
  rw [List.getElem?_append_right (by simp; omega), List.length_map, List.length_take, Nat.min_eq_left (by omega), Nat.sub_self, List.getElem?_drop, Nat.add_zero]
theorem scaled_succ (a : UInt8) (l : List UInt8) (i : Nat) (h : i < l.length) : (scaled a l i).set i (mul a (l.getD i 0)) = scaled a l (i + 1) := by
  simp only [scaled]
  rw [List.set_append_right _ _ (by simp; omega), List.length_map, List.length_take, Nat.min_eq_left (by omega), Nat.sub_self, List.drop_eq_getElem_cons h, List.set_cons_zero,
    List.take_succ_eq_append_getElem h, List.map_append, List.append_assoc]
  simp [List.getD_eq_getElem?_getD, h]
theorem map_take_succ (f : UInt8 → UInt8) (l : List UInt8) (i : Nat) (h : i < l.length) : (l.take (i + 1)).map f = (l.take i).map f ++ [f (l.getD i 0)] := by
  rw [List.take_succ_eq_append_getElem h, List.map_append]
  simp [List.getD_eq_getElem?_getD, h]

/-! ### gf.Scale -/
set_option maxRecDepth 100000 in
set_option maxHeartbeats 400000 in
theorem scale_ba (x : Int) (a : UInt8) (hx : x = (a.toNat : Int)) (s : ByteArray) (l : List UInt8) (hl : l = s.data.toList) (hs : s.size ≤ 140737488351232) (w : World) :
    Calls Try.prog 20 #[.int .u8 x, .string s] w fun e w' => e = .returned (.string (bs (l.map (mul a)))) ∧ Below w.heap.size w w' := by
  subst hx
  have kc := Lib.run_convert_string_bytes (P := Try.prog) w 9 49 5 s Try.underlying9 Try.underlying49 Try.underlying5
  have hB0 := Bytes.made w s l hl hs
  have hbw0 := Lib.bytesWorld_below w 5 s
  have hsz : l.length = s.size := by rw [hl]; exact size_toList s
  have hg := hB0.lt
  generalize Lib.bytesWorld w 5 s = w0 at *
  generalize grownCap w s.size 0 5 = cap at *
  have HSZ := Lib.hid hsz
  have hcap := hB0.1
  rw [hsz] at hcap
  have hcap2 := hB0.2.1
  clear hl hsz
  go_enter Try.func20, Try.ntmps20
  go_wp2
  clear kc
  go_loopw [6, 11] (fun _ s11 wr => ∃ i : Nat, i ≤ s.size ∧ s11 = .int .i64 i ∧ Bytes wr w.heap.size (scaled a l i) cap ∧ Below w.heap.size w wr) (fun _ s11 _ => s.size - (intOf s11).toNat)
  case atStart => exact ⟨0, by omega, rfl, by rw [scaled_zero]; exact hB0, hbw0⟩
  case round =>
    obtain ⟨i, hi, rfl, hB, hbw⟩ := hrel
    by_cases hlt : i < s.size
    · have hil : i < l.length := by rw [HSZ.out]; exact hlt
      have hcell := hB.cell i (by rw [scaled_length]; exact hil)
      rw [scaled_at a l i hil] at hcell
      have hfr := hB.frozen i (by omega)
      have hst := hB.set_ i (mul a (l.getD i 0))
      rw [scaled_succ a l i hil] at hst
      generalize l.getD i 0 = u at *
      have HST := Lib.hid hst; clear hst
      go_wp2_with (go_at_call 14; refine (mul_any _ _ a u rfl rfl _).mono ?_; rintro e w' ⟨rfl, rfl⟩)
      go_roundw
      case rel => exact ⟨i + 1, by omega, by go_num, HST.out, hbw.setCell (by simp) _⟩
      case measure => simp [intOf]; omega
    · obtain rfl : i = s.size := by omega
      have hr := hB.reads
      rw [scaled_length, HSZ.out] at hr
      have hcv := reads_string (P := Try.prog) (src := 49) (dst := 9) Try.underlying49 Try.underlying5 Try.underlying9 hr
      rw [← HSZ.out, scaled_all, HSZ.out] at hcv
      generalize hr2 : l.map (mul a) = r at *
      have HR := Lib.hid hr2; clear hr2
      go_wp2
      go_ret
      exact ⟨by rw [HR.out]; rfl, hbw⟩

/-! ### ref02.Scale -/
set_option maxRecDepth 100000 in
set_option maxHeartbeats 400000 in
theorem rscale_ba (x : Int) (a : UInt8) (hx : x = (a.toNat : Int)) (s : ByteArray) (l : List UInt8) (hl : l = s.data.toList) (hs : s.size ≤ 140737488351232) (w : World) :
    Calls Try.prog 21 #[.int .u8 x, .string s] w fun e w' => e = .returned (.string (bs (l.map (mul a)))) ∧ Below w.heap.size w w' := by
  subst hx
  have hsz : l.length = s.size := by rw [hl]; exact size_toList s
  have hxs : ∀ i, ∀ h : i < s.size, ((s[i]'h).toNat : Int) = ((l.getD i 0).toNat : Int) := by subst hl; exact byte_at s
  have HX := Lib.hid hxs
  have HSZ := Lib.hid hsz
  clear hl hsz hxs
  go_enter Try.func21, Try.ntmps21
  go_wp2
  go_loopw [5, 6, 7] (fun s5 s6 _ wr => ∃ i : Nat, i ≤ s.size ∧ s6 = .int .i64 i ∧ Own wr w.heap.size 5 s5 (bv ((l.take i).map (mul a))) ∧ Below w.heap.size w wr) (fun _ s6 _ _ => s.size - (intOf s6).toNat)
  case atStart => exact ⟨0, by omega, rfl, Own.nil_ _ _ _, Below.refl _ _⟩
  case round =>
    obtain ⟨i, hi, rfl, hO, hB⟩ := hrel
    by_cases hlt : i < s.size
    · have hil : i < l.length := by rw [HSZ.out]; exact hlt
      have hxi := HX.out i
      have hT := map_take_succ (mul a) l i hil
      have hL : ((bv ((l.take i).map (mul a))).length + 1) * 1 ≤ 140737488355328 := by
        rw [bv_length]; simp; omega
      generalize l.getD i 0 = u at *
      have HT := Lib.hid hT
      have HL := Lib.hid hL
      have hcall := fun W => rmul_any _ _ a u rfl rfl W
      generalize mul a u = z at *
      have HC := Lib.hid hcall
      clear hT hL hcall
      go_wp2_with (first
        | (go_at_call 15; refine (HC.out _).mono ?_; rintro e w1 ⟨rfl, hb1⟩)
        | (at_builtin; refine append_one w.heap.size rfl (.tmp 19) (.tmp 21) 49 5 (.int .u8 0) 1 rfl Try.underlying49 info5 rfl (by decide) _ _ (.int .u8 (z.toNat : Int)) rfl rfl rfl (hO.below hb1) (below_then hB hB.size hb1) (Nat.le_trans hB.size hb1.size) HL.out ?_; intro v1 w2 hO1 hB1 _ _))
      go_roundw
      case rel =>
        refine ⟨i + 1, by omega, by go_num, ?_, hB1⟩
        rw [HT.out, bv_append]
        exact hO1
      case measure => simp [intOf]; omega
    · have hcv := reads_string (P := Try.prog) (src := 49) (dst := 9) Try.underlying49 Try.underlying5 Try.underlying9 hO.reads
      rw [List.take_of_length_le (by have := HSZ.out; omega)] at hcv
      generalize hr2 : l.map (mul a) = r at *
      have HR := Lib.hid hr2; clear hr2
      go_wp2
      go_ret
      exact ⟨by rw [HR.out]; rfl, hB⟩

/-! ### the law -/
set_option maxRecDepth 100000 in
set_option maxHeartbeats 400000 in
theorem gfScales_walk (a : UInt8) (s : ByteArray) (_ : s.size ≤ maxLen) (w : World) :
    Calls Try.prog 7 #[.int .u8 (a.toNat : Int), .string s] w fun e w' => e = .returned (.bool true) ∧ Below w.heap.size w w' := by
  have h2 : ∀ W : World, Calls Try.prog 20 #[.int .u8 2, .string ⟨#[128]⟩] W fun e w' => e = .returned (.string ⟨#[29]⟩) ∧ Below W.heap.size W w' := by
    intro W
    have h := scale_ba 2 2 rfl ⟨#[128]⟩ [128] rfl (by decide) W
    have e : bs ([128].map (mul 2)) = ⟨#[29]⟩ := by
      have e2 : [128].map (mul 2) = [29] := by decide
      rw [e2]; rfl
    rwa [e] at h
  have H2 := Lib.hid h2; clear h2
  by_cases hlt : s.size ≤ 600
  · obtain ⟨t, ht⟩ : ∃ t, bs (s.data.toList.map (mul a)) = t := ⟨_, rfl⟩
    have h3 : ∀ W : World, Calls Try.prog 20 #[.int .u8 (a.toNat : Int), .string s] W fun e w' => e = .returned (.string t) ∧ Below W.heap.size W w' := fun W => by
      rw [← ht]; exact scale_ba _ a rfl s _ rfl (by omega) W
    have h4 : ∀ W : World, Calls Try.prog 21 #[.int .u8 (a.toNat : Int), .string s] W fun e w' => e = .returned (.string t) ∧ Below W.heap.size W w' := fun W => by
      rw [← ht]; exact rscale_ba _ a rfl s _ rfl (by omega) W
    have H3 := Lib.hid h3; clear h3
    have H4 := Lib.hid h4; clear h4
    clear ht
    go_enter Try.func7, Try.ntmps7
    go_wp2_with fail
    refine (wakes_any _).mono ?_
    rintro e w' ⟨rfl, rfl⟩
    go_wp2_with fail
    refine (H2.out _).mono ?_
    rintro e w1 ⟨rfl, hb1⟩
    go_wp2_with fail
    refine (H3.out _).mono ?_
    rintro e w2 ⟨rfl, hb2⟩
    go_wp2_with fail
    refine (H4.out _).mono ?_
    rintro e w3 ⟨rfl, hb3⟩
    go_wp2
    go_ret
    exact ⟨rfl, below_then (below_then hb1 hb1.size hb2) (Nat.le_trans hb1.size hb2.size) hb3⟩
  · have hse : (s.extract 0 600).size ≤ 140737488351232 := by rw [ByteArray.size_extract]; omega
    obtain ⟨t, ht⟩ : ∃ t, bs ((s.extract 0 600).data.toList.map (mul a)) = t := ⟨_, rfl⟩
    have h3 : ∀ W : World, Calls Try.prog 20 #[.int .u8 (a.toNat : Int), .string (s.extract 0 600)] W fun e w' => e = .returned (.string t) ∧ Below W.heap.size W w' := fun W => by
      rw [← ht]; exact scale_ba _ a rfl _ _ rfl hse W
    have h4 : ∀ W : World, Calls Try.prog 21 #[.int .u8 (a.toNat : Int), .string (s.extract 0 600)] W fun e w' => e = .returned (.string t) ∧ Below W.heap.size W w' := fun W => by
      rw [← ht]; exact rscale_ba _ a rfl _ _ rfl hse W
    have H3 := Lib.hid h3; clear h3
    have H4 := Lib.hid h4; clear h4
    clear ht hse
    go_enter Try.func7, Try.ntmps7
    go_wp2_with fail
    refine (wakes_any _).mono ?_
    rintro e w' ⟨rfl, rfl⟩
    go_wp2_with fail
    refine (H2.out _).mono ?_
    rintro e w1 ⟨rfl, hb1⟩
    go_wp2_with fail
    refine (H3.out _).mono ?_
    rintro e w2 ⟨rfl, hb2⟩
    go_wp2_with fail
    refine (H4.out _).mono ?_
    rintro e w3 ⟨rfl, hb3⟩
    go_wp2
    go_ret
    exact ⟨rfl, below_then (below_then hb1 hb1.size hb2) (Nat.le_trans hb1.size hb2.size) hb3⟩
end Go.Proofs.Ytfdmakihobhhnaa
