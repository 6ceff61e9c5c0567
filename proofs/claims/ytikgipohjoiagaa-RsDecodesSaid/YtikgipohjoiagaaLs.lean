/-
  The walk of the document's two and solve.
-/
import Derived.Test.YtikgipohjoiagaaLe
import Derived.Test.YtikgipohjoiagaaDp
namespace Go.Proofs.Ytikgipohjoiagaa
open Go.RowKit GfM

/-! ### the data bytes at a place, plain -/
/-- the byte of chunk r at a place, if it is used. -/
def gu (C : List ByteArray) (U : List Bool) (p r : Nat) : UInt8 := if U.getD r false = true then (tb C r).getD p 0 else 0
theorem gu_yes {C : List ByteArray} {U : List Bool} {p r : Nat} (h : U.getD r false = true) : gu C U p r = (tb C r).getD p 0 := if_pos h
theorem gu_no {C : List ByteArray} {U : List Bool} {p r : Nat} (h : U.getD r false = false) : gu C U p r = 0 := if_neg (by rw [h]; decide)
/-- the bytes of the first i chunks. -/
def du (C : List ByteArray) (U : List Bool) (k p i : Nat) : List UInt8 := (List.range k).map fun r => if r < i then gu C U p r else 0
def pu (C : List ByteArray) (U : List Bool) (p i : Nat) : UInt8 := sx i (gu C U p)
def qu (C : List ByteArray) (U : List Bool) (p i : Nat) : UInt8 := sx i fun r => mul (wt r) (gu C U p r)
/-- the places, of the first i, that are not used. -/
def lk (U : List Bool) : Nat → List Nat
  | 0 => []
  | i + 1 => if U.getD i false = true then lk U i else lk U i ++ [i]
theorem lk_yes {U : List Bool} {i : Nat} (h : U.getD i false = true) : lk U (i + 1) = lk U i := by
  show (if _ then _ else _) = _
  rw [if_pos h]
theorem lk_no {U : List Bool} {i : Nat} (h : U.getD i false = false) : lk U (i + 1) = lk U i ++ [i] := by
  show (if _ then _ else _) = _
  rw [if_neg (by rw [h]; decide)]
theorem lk_len (U : List Bool) (i : Nat) : (lk U i).length ≤ i := by
  induction i with
  | zero => simp [lk]
  | succ i ih =>
    by_cases h : U.getD i false = true
    · rw [lk_yes h]; omega
    · rw [lk_no (by simpa using h), List.length_append, List.length_singleton]; omega
theorem lk_lt (U : List Bool) (i : Nat) : ∀ r ∈ lk U i, r < i ∧ U.getD r false = false := by
  induction i with
  | zero => intro r hr; cases hr
  | succ i ih =>
    intro r hr
    by_cases h : U.getD i false = true
    · rw [lk_yes h] at hr
      exact ⟨by have := (ih r hr).1; omega, (ih r hr).2⟩
    · rw [lk_no (by simpa using h), List.mem_append, List.mem_singleton] at hr
      rcases hr with hr | rfl
      · exact ⟨by have := (ih r hr).1; omega, (ih r hr).2⟩
      · exact ⟨by omega, by simpa using h⟩
/-- whole numbers, as Go holds them. -/
def nv (L : List Nat) : List Value := L.map fun r : Nat => Value.int .i64 (r : Int)
theorem nv_length (L : List Nat) : (nv L).length = L.length := by simp [nv]
theorem nv_snoc (L : List Nat) (r : Nat) : nv (L ++ [r]) = nv L ++ [.int .i64 (r : Int)] := by simp [nv]
theorem du_len (C : List ByteArray) (U : List Bool) (k p i : Nat) : (du C U k p i).length = k := by simp [du]
theorem du_at (C : List ByteArray) (U : List Bool) (k p i r : Nat) (h : r < k) : (du C U k p i).getD r 0 = if r < i then gu C U p r else 0 := by
  unfold du
  rw [List.getD_eq_getElem?_getD, List.getElem?_map, List.getElem?_range h]; rfl
theorem du_zero (C : List ByteArray) (U : List Bool) (k p : Nat) : du C U k p 0 = List.replicate k 0 := by
  unfold du
  apply List.ext_getElem (by simp)
  intro j h1 h2
  simp
theorem du_succ (C : List ByteArray) (U : List Bool) (k p i : Nat) (h : i < k) : (du C U k p i).set i (gu C U p i) = du C U k p (i + 1) := by
  apply List.ext_getElem (by simp [du])
  intro j h1 h2
  rw [List.getElem_set]
  by_cases e : i = j
  · subst e
    rw [if_pos rfl]; simp [du]
  · rw [if_neg e]
    have : (j < i) = (j < i + 1) := by rw [eq_iff_iff]; omega
    simp only [du, List.getElem_map, List.getElem_range, this]
theorem du_skip (C : List ByteArray) (U : List Bool) (k p i : Nat) (h : U.getD i false = false) : du C U k p (i + 1) = du C U k p i := by
  unfold du
  apply List.map_congr_left
  intro j _
  by_cases e : j = i
  · subst e
    rw [if_pos (by omega), if_neg (by omega), gu_no h]
  · have : (j < i) = (j < i + 1) := by rw [eq_iff_iff]; omega
    simp only [this]
theorem pu_succ (C : List ByteArray) (U : List Bool) (p i : Nat) : pu C U p (i + 1) = pu C U p i ^^^ gu C U p i := rfl
theorem qu_succ (C : List ByteArray) (U : List Bool) (p i : Nat) : qu C U p (i + 1) = qu C U p i ^^^ mul (wt i) (gu C U p i) := rfl
theorem pu_skip (C : List ByteArray) (U : List Bool) (p i : Nat) (h : U.getD i false = false) : pu C U p (i + 1) = pu C U p i := by rw [pu_succ, gu_no h, UInt8.xor_zero]
theorem qu_skip (C : List ByteArray) (U : List Bool) (p i : Nat) (h : U.getD i false = false) : qu C U p (i + 1) = qu C U p i := by rw [qu_succ, gu_no h, mul_zero, UInt8.xor_zero]
/-- the two bytes that are lost. -/
def two2 (x y : Nat) (p q : UInt8) : UInt8 := mul (inv (wt x ^^^ wt y)) (q ^^^ mul (wt x) p)
def two1 (x y : Nat) (p q : UInt8) : UInt8 := p ^^^ two2 x y p q
/-- the data bytes at a place. -/
def sol (C : List ByteArray) (U : List Bool) (k p : Nat) : List UInt8 :=
  match lk U k with
  | [] => du C U k p k
  | [x] => (du C U k p k).set x (if U.getD k false = true then pu C U p k ^^^ (tb C k).getD p 0 else mul (inv (wt x)) (qu C U p k ^^^ (tb C (k + 1)).getD p 0))
  | x :: y :: _ => ((du C U k p k).set x (two1 x y (pu C U p k ^^^ (tb C k).getD p 0) (qu C U p k ^^^ (tb C (k + 1)).getD p 0))).set y (two2 x y (pu C U p k ^^^ (tb C k).getD p 0) (qu C U p k ^^^ (tb C (k + 1)).getD p 0))
/-- which chunks are used. -/
inductive Cas (U : List Bool) (k : Nat) : Prop
  | zero (h : lk U k = []) (h1 : U.getD k false = false) (h2 : U.getD (k + 1) false = false)
  | par (x : Nat) (h : lk U k = [x]) (h1 : U.getD k false = true) (h2 : U.getD (k + 1) false = false)
  | qar (x : Nat) (h : lk U k = [x]) (h1 : U.getD k false = false) (h2 : U.getD (k + 1) false = true)
  | two (x y : Nat) (h : lk U k = [x, y]) (h1 : U.getD k false = true) (h2 : U.getD (k + 1) false = true)

/-! ### two -/
set_option maxRecDepth 100000 in
theorem two_any (x y : Nat) (p q : UInt8) (w : World) :
    Calls Try.prog 48 #[.int .i64 (x : Int), .int .i64 (y : Int), .int .u8 (p.toNat : Int), .int .u8 (q.toNat : Int)] w fun e w' => e = .returned (.tuple #[.int .u8 ((two1 x y p q).toNat : Int), .int .u8 ((two2 x y p q).toNat : Int)]) ∧ Below w.heap.size w w' := by
  have h1 : ∀ W, Calls Try.prog 29 #[.int .u8 2, .int .i64 x] W fun e w' => e = .returned (.int .u8 ((wt x).toNat : Int)) ∧ Below W.heap.size W w' := fun W => rpow_any 2 x 2 rfl W
  have h2 : ∀ W, Calls Try.prog 29 #[.int .u8 2, .int .i64 y] W fun e w' => e = .returned (.int .u8 ((wt y).toNat : Int)) ∧ Below W.heap.size W w' := fun W => rpow_any 2 y 2 rfl W
  unfold two1 two2
  generalize wt x = a at *
  generalize wt y = b at *
  have h3 : ∀ W, Calls Try.prog 30 #[.int .u8 (a.toNat : Int), .int .u8 (b.toNat : Int)] W fun e w' => e = .returned (.int .u8 ((a ^^^ b).toNat : Int)) ∧ Below W.heap.size W w' := fun W => radd_any _ _ a b rfl rfl W
  generalize a ^^^ b = s at *
  have h4 : ∀ W, Calls Try.prog 49 #[.int .u8 (s.toNat : Int)] W fun e w' => e = .returned (.int .u8 ((inv s).toNat : Int)) ∧ Below W.heap.size W w' := fun W => rinv_any _ s rfl W
  generalize inv s = i at *
  have h5 : ∀ W, Calls Try.prog 31 #[.int .u8 (a.toNat : Int), .int .u8 (p.toNat : Int)] W fun e w' => e = .returned (.int .u8 ((mul a p).toNat : Int)) ∧ Below W.heap.size W w' := fun W => rmul_any _ _ a p rfl rfl W
  generalize mul a p = m at *
  have h6 : ∀ W, Calls Try.prog 30 #[.int .u8 (q.toNat : Int), .int .u8 (m.toNat : Int)] W fun e w' => e = .returned (.int .u8 ((q ^^^ m).toNat : Int)) ∧ Below W.heap.size W w' := fun W => radd_any _ _ q m rfl rfl W
  generalize q ^^^ m = t at *
  have h7 : ∀ W, Calls Try.prog 31 #[.int .u8 (i.toNat : Int), .int .u8 (t.toNat : Int)] W fun e w' => e = .returned (.int .u8 ((mul i t).toNat : Int)) ∧ Below W.heap.size W w' := fun W => rmul_any _ _ i t rfl rfl W
  generalize mul i t = v at *
  have h8 : ∀ W, Calls Try.prog 30 #[.int .u8 (p.toNat : Int), .int .u8 (v.toNat : Int)] W fun e w' => e = .returned (.int .u8 ((p ^^^ v).toNat : Int)) ∧ Below W.heap.size W w' := fun W => radd_any _ _ p v rfl rfl W
  generalize p ^^^ v = u at *
  have H1 := Lib.hid h1; clear h1
  have H2 := Lib.hid h2; clear h2
  have H3 := Lib.hid h3; clear h3
  have H4 := Lib.hid h4; clear h4
  have H5 := Lib.hid h5; clear h5
  have H6 := Lib.hid h6; clear h6
  have H7 := Lib.hid h7; clear h7
  have H8 := Lib.hid h8; clear h8
  have hB := Below.refl w.heap.size w
  go_enter Try.func48, Try.ntmps48
  go_wp2_with fail
  refine (H1.out _).mono ?_
  rintro e w1 ⟨rfl, hb⟩
  replace hB := below_then hB hB.size hb; clear hb
  go_wp2_with fail
  refine (H2.out _).mono ?_
  rintro e w2 ⟨rfl, hb⟩
  replace hB := below_then hB hB.size hb; clear hb
  go_wp2_with fail
  refine (H3.out _).mono ?_
  rintro e w3 ⟨rfl, hb⟩
  replace hB := below_then hB hB.size hb; clear hb
  go_wp2_with fail
  refine (H4.out _).mono ?_
  rintro e w4 ⟨rfl, hb⟩
  replace hB := below_then hB hB.size hb; clear hb
  go_wp2_with fail
  refine (H5.out _).mono ?_
  rintro e w5 ⟨rfl, hb⟩
  replace hB := below_then hB hB.size hb; clear hb
  go_wp2_with fail
  refine (H6.out _).mono ?_
  rintro e w6 ⟨rfl, hb⟩
  replace hB := below_then hB hB.size hb; clear hb
  go_wp2_with fail
  refine (H7.out _).mono ?_
  rintro e w7 ⟨rfl, hb⟩
  replace hB := below_then hB hB.size hb; clear hb
  go_wp2_with fail
  refine (H8.out _).mono ?_
  rintro e w8 ⟨rfl, hb⟩
  replace hB := below_then hB hB.size hb; clear hb
  go_wp2
  go_ret2
  exact ⟨rfl, hB⟩

/-! ### solve -/
theorem info3 : (Try.prog.info? 3).map (fun i => (i.zero, i.size, i.bytes)) = some (some (.int .i64 0), 1, 8) := by kernel_rfl
theorem mkB4 (m : Nat) (hm : m ≤ 1000) : ∀ W : World, (Instr.makeSlice 33 (.int .i64 (m : Int)) (.int .i64 (m : Int))).run Try.prog W = .ok (.slice (some ⟨W.heap.size, 0, none⟩) m m) (W.alloc (.cells (madeCells #[.int .u8 0] m) 5)) := by
  intro W
  exact run_make_row' 33 5 (.int .u8 0) 1 Try.underlying33 info5 rfl .i64 .i64 m (by omega) (by omega) W
theorem Own.made_zero4 (W : World) (base n : Nat) (hb : base ≤ W.heap.size) (hn : n ≤ 1000) : Own (W.alloc (.cells (madeCells #[.int .u8 0] n) 5)) base 5 (.slice (some ⟨W.heap.size, 0, none⟩) n n) (bv (List.replicate n 0)) := by
  have h := Own.lit_ W base 5 (madeCells #[.int .u8 0] n) hb (by simp [size_madeCells, maxLen]; omega)
  have e1 : (madeCells #[Value.int .u8 0] n).size = n := by simp [size_madeCells]
  have e2 : (madeCells #[Value.int .u8 0] n).toList = bv (List.replicate n 0) := by rw [toList_madeCells_one]; simp only [bv, List.map_replicate]; rfl
  rwa [e1, e2] at h
theorem own_bytes {W : World} {base G k c : Nat} {L : List UInt8} (h : Own W base 5 (.slice (some ⟨G, 0, none⟩) k c) (bv L)) (hl : L.length = k) (j : Nat) (hj : j < k) : W.cell? ⟨G, j, none⟩ = some (.int .u8 ((L.getD j 0).toNat : Int)) := by
  have h' : Own W base 5 (.slice (some ⟨G, 0, none⟩) (bv L).length c) (bv L) := by rw [bv_length, hl]; exact h
  rw [h'.cell j (by rw [bv_length, hl]; exact hj), bv_at L j (by rw [hl]; exact hj)]
theorem own_bset {W : World} {base G k c : Nat} {L : List UInt8} (h : Own W base 5 (.slice (some ⟨G, 0, none⟩) k c) (bv L)) (hl : L.length = k) (j : Nat) (u : UInt8) : Own (W.setCell ⟨G, j, none⟩ (.int .u8 (u.toNat : Int))) base 5 (.slice (some ⟨G, 0, none⟩) k c) (bv (L.set j u)) := by
  have h' : Own W base 5 (.slice (some ⟨G, 0, none⟩) (bv L).length c) (bv L) := by rw [bv_length, hl]; exact h
  have := h'.set_ j (.int .u8 (u.toNat : Int))
  rw [bv_set, bv_length, hl] at this
  exact this
theorem own_nats {W : World} {base g c : Nat} {L : List Nat} (h : Own W base 3 (.slice (some ⟨g, 0, none⟩) L.length c) (nv L)) (j : Nat) (hj : j < L.length) : W.cell? ⟨g, j, none⟩ = some (.int .i64 ((L.getD j 0 : Nat) : Int)) := by
  have h' : Own W base 3 (.slice (some ⟨g, 0, none⟩) (nv L).length c) (nv L) := by rw [nv_length]; exact h
  rw [h'.cell j (by rw [nv_length]; exact hj)]
  simp [nv, List.getD_eq_getElem?_getD, hj]
theorem ne53 : (5 : Nat) ≠ (3 : Nat) := by decide

set_option maxRecDepth 100000 in
set_option maxHeartbeats 4000000 in
theorem solve_any (w : World) (vc vu : Value) (C : List ByteArray) (U : List Bool) (hC : Reads w vc (sv C)) (hU : Reads w vu (tv U)) (k p : Nat) (hCl : C.length = k + 2) (hUl : U.length = k + 2) (hk1 : 1 ≤ k) (hk8 : k ≤ 8)
    (hp : ∀ r, r < k + 2 → U.getD r false = true → p < (tl C r).size) (hcas : Cas U k) :
    Calls Try.prog 35 #[vc, vu, .int .i64 k, .int .i64 p] w fun e w' => ∃ v, e = .returned v ∧ Own w' w.heap.size 5 v (bv (sol C U k p)) ∧ Below w.heap.size w w' := by
  obtain ⟨A, c, rfl, hc1, hc2, hcell⟩ := hC.texts
  obtain ⟨A2, c2, rfl, hd1, hd2, hdell⟩ := hU.bools
  obtain ⟨bc, oc, rfl, hcc⟩ := hcell (by omega)
  obtain ⟨bb, ob, rfl, hbb⟩ := hdell (by omega)
  clear hC hU hcell hdell
  rw [hCl] at hcc hc1 ⊢
  rw [hUl] at hbb hd1 ⊢
  have hbc : bc < w.heap.size := World.block_lt_of_cell? w _ (hcc 0 (by omega))
  have hbd : bb < w.heap.size := World.block_lt_of_cell? w _ (hbb 0 (by omega))
  have HCC := Lib.hid hcc; clear hcc
  have HBB := Lib.hid hbb; clear hbb
  have HP := Lib.hid hp; clear hp
  have HCAS := Lib.hid hcas; clear hcas
  clear hCl hUl
  have hmk := mkB4 k (by omega) w
  have hO0 := Own.made_zero4 w w.heap.size k (Nat.le_refl _) (by omega)
  rw [← du_zero C U k p] at hO0
  have hN0 := Own.nil_ (w.alloc (.cells (madeCells #[.int .u8 0] k) 5)) w.heap.size 3
  have hB0 := (Below.refl w.heap.size w).alloc (Nat.le_refl _) (.cells (madeCells #[.int .u8 0] k) 5)
  obtain ⟨w0, hw0⟩ : ∃ w0, w.alloc (.cells (madeCells #[.int .u8 0] k) 5) = w0 := ⟨_, rfl⟩
  rw [hw0] at hmk hO0 hN0 hB0
  obtain ⟨G, hG, hG1⟩ : ∃ G, G = w.heap.size ∧ w.heap.size ≤ G := ⟨_, rfl, Nat.le_refl _⟩
  have hO1 : Own w0 w.heap.size 5 (.slice (some ⟨G, 0, none⟩) k k) (bv (du C U k p 0)) := by rw [hG]; exact hO0
  have hmk1 : (Instr.makeSlice 33 (.int .i64 (k : Int)) (.int .i64 (k : Int))).run Try.prog w = .ok (.slice (some ⟨G, 0, none⟩) k k) w0 := by rw [hG]; exact hmk
  have HO := Lib.hid hO1; clear hO1 hO0 hmk hG
  have HN := Lib.hid hN0; clear hN0
  go_enter Try.func35, Try.ntmps35
  go_wp2
  clear hmk1 hw0
  go_loopw [10, 11, 12, 13, 14, 15] (fun s10 s11 s12 s13 _ _ wr => ∃ i : Nat, i ≤ k ∧ s13 = .int .i64 i ∧ s11 = .int .u8 ((pu C U p i).toNat : Int) ∧ s12 = .int .u8 ((qu C U p i).toNat : Int) ∧ Hid (Own wr w.heap.size 5 (.slice (some ⟨G, 0, none⟩) k k) (bv (du C U k p i))) ∧ Hid (Own wr w.heap.size 3 s10 (nv (lk U i))) ∧ Below w.heap.size w wr) (fun _ _ _ s13 _ _ _ => k - (intOf s13).toNat)
  case atStart => exact ⟨0, by omega, rfl, rfl, rfl, HO, HN, hB0⟩
  case round =>
    clear HO HN hB0
    obtain ⟨i, hi, rfl, rfl, rfl, HD, HL, hB⟩ := hrel
    by_cases hlt : i < k
    · have hub := (hB.cell hbd).trans (HBB.out i (by omega))
      have hik : (i : Int) < (k : Int) := by omega
      by_cases hu : U.getD i false = true
      · have hxe := gu_yes (C := C) (p := p) hu
        have hps := pu_succ C U p i
        have hqs := qu_succ C U p i
        have hds := du_succ C U k p i hlt
        have hpl := HP.out i (by omega) hu
        rw [hu] at hub
        have hci := (hB.cell hbc).trans (HCC.out i (by omega))
        have hby := byte_at (tl C i) p
        have hX : (tl C i).data.toList.getD p 0 = gu C U p i := hxe.symm
        rw [hX] at hby
        have hold := own_bytes HD.out (du_len _ _ _ _ _) i hlt
        have hfz := HD.out.frozen i
        have hnew := own_bset HD.out (du_len _ _ _ _ _) i (gu C U p i)
        rw [hds] at hnew
        have hpow : ∀ W, Calls Try.prog 29 #[.int .u8 2, .int .i64 i] W fun e w' => e = .returned (.int .u8 ((wt i).toNat : Int)) ∧ Below W.heap.size W w' := fun W => rpow_any 2 i 2 rfl W
        have LKY := Lib.hid (lk_yes hu)
        have hnx : (du C U k p (i + 1)).getD i 0 = gu C U p i := by rw [du_at _ _ _ _ _ _ hlt, if_pos (by omega)]
        clear hX hxe hds hu
        generalize (du C U k p i).getD i 0 = old at *
        generalize gu C U p i = x at *
        generalize tl C i = s at *
        generalize wt i = a at *
        generalize pu C U p i = P at *
        generalize qu C U p i = Q at *
        have HPS := Lib.hid hps; clear hps
        have HQS := Lib.hid hqs; clear hqs
        have HNX := Lib.hid hnx; clear hnx
        have HPW := Lib.hid hpow; clear hpow
        have hmul : ∀ W, Calls Try.prog 31 #[.int .u8 (a.toNat : Int), .int .u8 (x.toNat : Int)] W fun e w' => e = .returned (.int .u8 ((mul a x).toNat : Int)) ∧ Below W.heap.size W w' := fun W => rmul_any _ _ a x rfl rfl W
        have HM := Lib.hid hmul; clear hmul
        generalize mul a x = y at *
        have hadd1 : ∀ W, Calls Try.prog 30 #[.int .u8 (P.toNat : Int), .int .u8 (x.toNat : Int)] W fun e w' => e = .returned (.int .u8 ((P ^^^ x).toNat : Int)) ∧ Below W.heap.size W w' := fun W => radd_any _ _ P x rfl rfl W
        have hadd2 : ∀ W, Calls Try.prog 30 #[.int .u8 (Q.toNat : Int), .int .u8 (y.toNat : Int)] W fun e w' => e = .returned (.int .u8 ((Q ^^^ y).toNat : Int)) ∧ Below W.heap.size W w' := fun W => radd_any _ _ Q y rfl rfl W
        have HA1 := Lib.hid hadd1; clear hadd1
        have HA2 := Lib.hid hadd2; clear hadd2
        generalize P ^^^ x = P2 at *
        generalize Q ^^^ y = Q2 at *
        have hBs := Lib.hid (hB.setCell (p := ⟨G, i, none⟩) hG1 (.int .u8 (x.toNat : Int)))
        have HD1 := Lib.hid hnew; clear hnew
        have HL1 := Lib.hid (HL.out.far (p := ⟨G, i, none⟩) (fun e => (HD.out.ne_ HL.out ne53).elim (fun h => by cases h) fun h => h e.symm) (.int .u8 (x.toNat : Int)))
        clear HD HL hB
        go_wp2_with fail
        refine (HPW.out _).mono ?_
        rintro e w1 ⟨rfl, hb1⟩
        have hB1 := below_then hBs.out hBs.out.size hb1
        have hD1 := Lib.hid (HD1.out.below hb1)
        have hL1 := Lib.hid (HL1.out.below hb1)
        have hc1' := own_bytes hD1.out (du_len _ _ _ _ _) i hlt
        rw [HNX.out] at hc1'
        clear HD1 HL1 hBs hci hold hfz hub hby
        go_wp2_with fail
        refine (HM.out _).mono ?_
        rintro e w2 ⟨rfl, hb2⟩
        have hB2 := below_then hB1 hB1.size hb2
        have hD2 := Lib.hid (hD1.out.below hb2)
        have hL2 := Lib.hid (hL1.out.below hb2)
        have hc2' := own_bytes hD2.out (du_len _ _ _ _ _) i hlt
        rw [HNX.out] at hc2'
        clear hD1 hL1 hc1'
        go_wp2_with fail
        refine (HA1.out _).mono ?_
        rintro e w3 ⟨rfl, hb3⟩
        go_wp2_with fail
        refine (HA2.out _).mono ?_
        rintro e w4 ⟨rfl, hb4⟩
        have hB3 := below_then hB2 hB2.size hb3
        have hB4 := below_then hB3 hB3.size hb4
        have hD4 := Lib.hid ((hD2.out.below hb3).below hb4)
        have hL4 := Lib.hid ((hL2.out.below hb3).below hb4)
        clear hD2 hL2 hc2'
        go_wp2
        go_roundw
        case rel => exact ⟨i + 1, by omega, by go_num, by rw [HPS.out], by rw [HQS.out], hD4, by rw [LKY.out]; exact hL4, hB4⟩
        case measure => simp [intOf]; omega
      · have hu' : U.getD i false = false := by simpa using hu
        rw [hu'] at hub
        have hps := pu_skip C U p i hu'
        have hqs := qu_skip C U p i hu'
        have hds := du_skip C U k p i hu'
        have hls := lk_no hu'
        have HPS := Lib.hid hps; clear hps
        have HQS := Lib.hid hqs; clear hqs
        have HDS := Lib.hid hds; clear hds
        have HLS := Lib.hid hls; clear hls hu hu'
        have hLn : ((nv (lk U i)).length + 1) * 8 ≤ 140737488355328 := by rw [nv_length]; have := lk_len U i; omega
        have HLN := Lib.hid hLn; clear hLn
        generalize pu C U p i = P at *
        generalize qu C U p i = Q at *
        go_wp2_with (at_builtin; refine append_one w.heap.size rfl (.tmp 32) (.tmp 34) 79 3 (.int .i64 0) 8 rfl Try.underlying79 info3 rfl (by decide) _ _ (.int .i64 (i : Int)) rfl rfl rfl HL.out hB hB.size HLN.out ?_; intro v1 w2 hO2 hB2 hg2 hat2)
        have hD2 := Lib.hid (HD.out.keep hg2 (HD.out.ne_ HL.out ne53))
        rw [← nv_snoc, ← HLS.out] at hO2
        rw [← HDS.out] at hD2
        have hL2 := Lib.hid hO2; clear hO2
        go_roundw
        case rel => exact ⟨i + 1, by omega, by go_num, by rw [HPS.out], by rw [HQS.out], hD2, hL2, hB2⟩
        case measure => simp [intOf]; omega
    · obtain rfl : k = i := by omega
      have HX := fun x (h : x ∈ lk U k) => lk_lt U k x h
      rcases HCAS.out with h | ⟨x, h, h1, h2⟩ | ⟨x, h, h1, h2⟩ | ⟨x, y, h, h1, h2⟩
      · have hs : sol C U k p = du C U k p k := by unfold sol; rw [h]
        have HS := Lib.hid hs; clear hs
        rw [h] at HL
        clear h HX HCAS
        obtain ⟨A9, c9, rfl⟩ := HL.out.shape
        have hl0 : (nv []).length = 0 := rfl
        rw [hl0] at HL ⊢
        clear hl0 HL
        generalize pu C U p k = P at *
        generalize qu C U p k = Q at *
        go_wp2
        go_ret
        exact ⟨_, rfl, by rw [HS.out]; exact HD.out, hB⟩
      · have hs : sol C U k p = (du C U k p k).set x (pu C U p k ^^^ (tb C k).getD p 0) := by unfold sol; rw [h]; simp only [h1, if_true]
        have hxk := (HX x (by rw [h]; simp)).1
        rw [h] at HL
        clear h HX HCAS
        obtain ⟨g9, c9, rfl, hg1, hg2, hg3⟩ := HL.out.form (by simp [nv])
        have hl0 : (nv [x]).length = 1 := rfl
        rw [hl0] at HL hg3 ⊢
        have hb1' := (hB.cell hbd).trans (HBB.out k (by omega))
        have hb2' := (hB.cell hbd).trans (HBB.out (k + 1) (by omega))
        have hsz := HP.out k (by omega) h1
        rw [h1] at hb1'
        rw [h2] at hb2'
        have hck := (hB.cell hbc).trans (HCC.out k (by omega))
        have hby := byte_at (tl C k) p
        have hX : (tl C k).data.toList.getD p 0 = (tb C k).getD p 0 := rfl
        rw [hX] at hby
        have hlo := own_nats (L := [x]) HL.out 0 (by simp)
        have hx0 : [x].getD 0 0 = x := rfl
        rw [hx0] at hlo
        clear hX hx0 hl0 h1 h2
        generalize (tb C k).getD p 0 = z at *
        generalize tl C k = sk at *
        generalize pu C U p k = P at *
        generalize qu C U p k = Q at *
        have hadd1 : ∀ W, Calls Try.prog 30 #[.int .u8 (P.toNat : Int), .int .u8 (z.toNat : Int)] W fun e w' => e = .returned (.int .u8 ((P ^^^ z).toNat : Int)) ∧ Below W.heap.size W w' := fun W => radd_any _ _ P z rfl rfl W
        generalize P ^^^ z = P2 at *
        have HA1 := Lib.hid hadd1; clear hadd1
        have HS := Lib.hid hs; clear hs
        have HB := Lib.hid hB
        have hxi : (x : Int) < (k : Int) := by omega
        go_wp2_with fail
        refine (HA1.out _).mono ?_
        rintro e w1 ⟨rfl, hb⟩
        have hB1 := below_then HB.out HB.out.size hb
        have HD1 := Lib.hid (HD.out.below hb)
        have hlo1 := (hb.cell (p := ⟨g9, 0, none⟩) hg2).trans hlo
        have hq1 := (hb.cell (p := ⟨bb, ob + k, none⟩) (Nat.lt_of_lt_of_le hbd hB.size)).trans hb1'
        have hq2 := (hb.cell (p := ⟨bb, ob + (k + 1), none⟩) (Nat.lt_of_lt_of_le hbd hB.size)).trans hb2'
        have hold := own_bytes HD1.out (du_len _ _ _ _ _) x hxk
        have hfz := HD1.out.frozen x
        have hnew := own_bset HD1.out (du_len _ _ _ _ _) x P2
        rw [← HS.out] at hnew
        have HNW := Lib.hid hnew; clear hnew
        clear hlo hb1' hb2' hck hby HD HL hB
        generalize (du C U k p k).getD x 0 = old at *
        go_wp2
        go_ret
        exact ⟨_, rfl, HNW.out, hB1.setCell (p := ⟨G, x, none⟩) hG1 _⟩
      · have hs : sol C U k p = (du C U k p k).set x (mul (inv (wt x)) (qu C U p k ^^^ (tb C (k + 1)).getD p 0)) := by unfold sol; rw [h]; simp only [h1]; rfl
        have hxk := (HX x (by rw [h]; simp)).1
        rw [h] at HL
        clear h HX HCAS
        obtain ⟨g9, c9, rfl, hg1, hg2, hg3⟩ := HL.out.form (by simp [nv])
        have hl0 : (nv [x]).length = 1 := rfl
        rw [hl0] at HL hg3 ⊢
        have hb1' := (hB.cell hbd).trans (HBB.out k (by omega))
        have hb2' := (hB.cell hbd).trans (HBB.out (k + 1) (by omega))
        have hsz := HP.out (k + 1) (by omega) h2
        rw [h1] at hb1'
        rw [h2] at hb2'
        have hck := (hB.cell hbc).trans (HCC.out (k + 1) (by omega))
        have hby := byte_at (tl C (k + 1)) p
        have hX : (tl C (k + 1)).data.toList.getD p 0 = (tb C (k + 1)).getD p 0 := rfl
        rw [hX] at hby
        have hlo := own_nats (L := [x]) HL.out 0 (by simp)
        have hx0 : [x].getD 0 0 = x := rfl
        rw [hx0] at hlo
        clear hX hx0 hl0 h1 h2
        generalize (tb C (k + 1)).getD p 0 = z at *
        generalize tl C (k + 1) = sk at *
        generalize pu C U p k = P at *
        generalize qu C U p k = Q at *
        have hadd1 : ∀ W, Calls Try.prog 30 #[.int .u8 (Q.toNat : Int), .int .u8 (z.toNat : Int)] W fun e w' => e = .returned (.int .u8 ((Q ^^^ z).toNat : Int)) ∧ Below W.heap.size W w' := fun W => radd_any _ _ Q z rfl rfl W
        generalize Q ^^^ z = Q2 at *
        have HA1 := Lib.hid hadd1; clear hadd1
        have hpow : ∀ W, Calls Try.prog 29 #[.int .u8 2, .int .i64 x] W fun e w' => e = .returned (.int .u8 ((wt x).toNat : Int)) ∧ Below W.heap.size W w' := fun W => rpow_any 2 x 2 rfl W
        generalize wt x = a at *
        have HPW := Lib.hid hpow; clear hpow
        have hinv : ∀ W, Calls Try.prog 49 #[.int .u8 (a.toNat : Int)] W fun e w' => e = .returned (.int .u8 ((inv a).toNat : Int)) ∧ Below W.heap.size W w' := fun W => rinv_any _ a rfl W
        generalize inv a = j at *
        have HIV := Lib.hid hinv; clear hinv
        have hmul : ∀ W, Calls Try.prog 31 #[.int .u8 (j.toNat : Int), .int .u8 (Q2.toNat : Int)] W fun e w' => e = .returned (.int .u8 ((mul j Q2).toNat : Int)) ∧ Below W.heap.size W w' := fun W => rmul_any _ _ j Q2 rfl rfl W
        generalize mul j Q2 = v at *
        have HM := Lib.hid hmul; clear hmul
        have HS := Lib.hid hs; clear hs
        have HB := Lib.hid hB
        have hxi : (x : Int) < (k : Int) := by omega
        go_wp2_with fail
        refine (HA1.out _).mono ?_
        rintro e w1 ⟨rfl, hb⟩
        have hB1 := below_then HB.out HB.out.size hb
        have HD1 := Lib.hid (HD.out.below hb)
        have hlo1 := (hb.cell (p := ⟨g9, 0, none⟩) hg2).trans hlo
        have HL1 := Lib.hid (HL.out.below hb)
        have hq1 := (hb.cell (p := ⟨bb, ob + k, none⟩) (Nat.lt_of_lt_of_le hbd hB.size)).trans hb1'
        clear hlo hb1' hb2' hck hby HD HL hB hb
        go_wp2_with fail
        refine (HPW.out _).mono ?_
        rintro e w2 ⟨rfl, hb⟩
        have hB2 := below_then hB1 hB1.size hb
        have HD2 := Lib.hid (HD1.out.below hb)
        have hlo2 := (hb.cell (p := ⟨g9, 0, none⟩) (World.block_lt_of_cell? w1 _ hlo1)).trans hlo1
        have HL2 := Lib.hid (HL1.out.below hb)
        clear hlo1 hq1 HD1 HL1 hB1 hb
        go_wp2_with fail
        refine (HIV.out _).mono ?_
        rintro e w3 ⟨rfl, hb⟩
        have hB3 := below_then hB2 hB2.size hb
        have HD3 := Lib.hid (HD2.out.below hb)
        have hlo3 := (hb.cell (p := ⟨g9, 0, none⟩) (World.block_lt_of_cell? w2 _ hlo2)).trans hlo2
        have hg9 : g9 < w3.heap.size := World.block_lt_of_cell? w3 _ hlo3
        have HL3 := Lib.hid (HL2.out.below hb)
        clear hlo2 HD2 HL2 hB2 hb
        have hsep : (Value.slice (some ⟨g9, 0, none⟩) 1 c9).ownBlock ≠ some G := fun e => (HD3.out.ne_ HL3.out ne53).elim (fun h => by cases h) fun h => h e.symm
        have hfa : ∀ W, Below w3.heap.size w3 W → (W.setCell ⟨G, x, none⟩ (.int .u8 (v.toNat : Int))).cell? ⟨g9, 0, none⟩ = some (.int .i64 x) ∧ W.cell? ⟨G, x, none⟩ = some (.int .u8 (((du C U k p k).getD x 0).toNat : Int)) ∧ W.frozen? ⟨G, x, none⟩ = false ∧ Own (W.setCell ⟨G, x, none⟩ (.int .u8 (v.toNat : Int))) w.heap.size 5 (.slice (some ⟨G, 0, none⟩) k k) (bv (sol C U k p)) := by
          intro W hW
          have hd := HD3.out.below hW
          refine ⟨own_nats (L := [x]) ((HL3.out.below hW).far hsep _) 0 (by simp), own_bytes hd (du_len _ _ _ _ _) x hxk, hd.frozen x, ?_⟩
          rw [HS.out]
          exact own_bset hd (du_len _ _ _ _ _) x v
        have HFA := Lib.hid hfa; clear hfa
        have HB3 := Lib.hid hB3; clear hB3
        clear HD3 HB HL3 hsep
        generalize (du C U k p k).getD x 0 = old at *
        go_wp2
        go_region_held3 (fun w' => w'.cell? ⟨g9, 0, none⟩ = some (.int .i64 x)) (first | assumption | go_keep | exact t0)
          (first | (go_at_call 31; refine (HM.out _).mono ?_; rintro e w4 ⟨rfl, hb4⟩; have t0 := (hb4.cell (p := ⟨g9, 0, none⟩) hg9).trans hlo3; obtain ⟨t4, t1, t2, t3⟩ := HFA.out _ ((Below.refl _ w3).drew.trans hb4); have t3 := Lib.hid t3))
        have hB4 := below_then HB3.out.drew HB3.out.size hb4
        go_wp2
        go_ret
        exact ⟨_, rfl, t3.out, hB4.setCell (p := ⟨G, x, none⟩) hG1 _⟩
      · have hs : sol C U k p = ((du C U k p k).set x (two1 x y (pu C U p k ^^^ (tb C k).getD p 0) (qu C U p k ^^^ (tb C (k + 1)).getD p 0))).set y (two2 x y (pu C U p k ^^^ (tb C k).getD p 0) (qu C U p k ^^^ (tb C (k + 1)).getD p 0)) := by unfold sol; rw [h]
        have hxk := (HX x (by rw [h]; simp)).1
        have hyk := (HX y (by rw [h]; simp)).1
        rw [h] at HL
        clear h HX HCAS
        obtain ⟨g9, c9, rfl, hg1, hg2, hg3⟩ := HL.out.form (by simp [nv])
        have hl0 : (nv [x, y]).length = 2 := rfl
        rw [hl0] at HL hg3 ⊢
        have hb1' := (hB.cell hbd).trans (HBB.out k (by omega))
        have hb2' := (hB.cell hbd).trans (HBB.out (k + 1) (by omega))
        have hsz := HP.out k (by omega) h1
        have hsz2 := HP.out (k + 1) (by omega) h2
        rw [h1] at hb1'
        rw [h2] at hb2'
        have hck := (hB.cell hbc).trans (HCC.out k (by omega))
        have hck2 := (hB.cell hbc).trans (HCC.out (k + 1) (by omega))
        have hby := byte_at (tl C k) p
        have hby2 := byte_at (tl C (k + 1)) p
        have hX : (tl C k).data.toList.getD p 0 = (tb C k).getD p 0 := rfl
        have hX2 : (tl C (k + 1)).data.toList.getD p 0 = (tb C (k + 1)).getD p 0 := rfl
        rw [hX] at hby
        rw [hX2] at hby2
        clear hX hX2 hl0 h1 h2
        generalize (tb C k).getD p 0 = z at *
        generalize tl C k = sk at *
        generalize (tb C (k + 1)).getD p 0 = z2 at *
        generalize tl C (k + 1) = sk2 at *
        generalize pu C U p k = P at *
        generalize qu C U p k = Q at *
        have hadd1 : ∀ W, Calls Try.prog 30 #[.int .u8 (P.toNat : Int), .int .u8 (z.toNat : Int)] W fun e w' => e = .returned (.int .u8 ((P ^^^ z).toNat : Int)) ∧ Below W.heap.size W w' := fun W => radd_any _ _ P z rfl rfl W
        have hadd2 : ∀ W, Calls Try.prog 30 #[.int .u8 (Q.toNat : Int), .int .u8 (z2.toNat : Int)] W fun e w' => e = .returned (.int .u8 ((Q ^^^ z2).toNat : Int)) ∧ Below W.heap.size W w' := fun W => radd_any _ _ Q z2 rfl rfl W
        generalize P ^^^ z = P2 at *
        generalize Q ^^^ z2 = Q2 at *
        have HA1 := Lib.hid hadd1; clear hadd1
        have HA2 := Lib.hid hadd2; clear hadd2
        have htwo := two_any x y P2 Q2
        generalize two1 x y P2 Q2 = u at *
        generalize two2 x y P2 Q2 = v at *
        have HTW := Lib.hid htwo; clear htwo
        have HS := Lib.hid hs; clear hs
        have HB := Lib.hid hB
        have hxi : (x : Int) < (k : Int) := by omega
        have hyi : (y : Int) < (k : Int) := by omega
        go_wp2_with fail
        refine (HA1.out _).mono ?_
        rintro e w1 ⟨rfl, hb⟩
        have hB1 := below_then HB.out HB.out.size hb
        have HD1 := Lib.hid (HD.out.below hb)
        have HL1 := Lib.hid (HL.out.below hb)
        have hq2 := (hb.cell (p := ⟨bb, ob + (k + 1), none⟩) (Nat.lt_of_lt_of_le hbd hB.size)).trans hb2'
        have hcz := (hb.cell (p := ⟨bc, oc + (k + 1), none⟩) (Nat.lt_of_lt_of_le hbc hB.size)).trans hck2
        clear hb1' hb2' hck hck2 hby HD HL hB hb
        go_wp2_with fail
        refine (HA2.out _).mono ?_
        rintro e w2 ⟨rfl, hb⟩
        have hB2 := below_then hB1 hB1.size hb
        have HD2 := Lib.hid (HD1.out.below hb)
        have HL2 := Lib.hid (HL1.out.below hb)
        have hlx := own_nats (L := [x, y]) HL2.out 0 (by simp)
        have hly := own_nats (L := [x, y]) HL2.out 1 (by simp)
        have hx0 : [x, y].getD 0 0 = x := rfl
        have hy0 : [x, y].getD 1 0 = y := rfl
        rw [hx0] at hlx
        rw [hy0] at hly
        have hg9 : g9 < w2.heap.size := World.block_lt_of_cell? w2 _ hlx
        clear hq2 hcz HD1 HL1 hB1 hb hx0 hy0
        have hsep : (Value.slice (some ⟨g9, 0, none⟩) 2 c9).ownBlock ≠ some G := fun e => (HD2.out.ne_ HL2.out ne53).elim (fun h => by cases h) fun h => h e.symm
        have hfa : ∀ W, Below w2.heap.size w2 W → W.cell? ⟨g9, 0, none⟩ = some (.int .i64 x) ∧ W.cell? ⟨g9, 1, none⟩ = some (.int .i64 y) ∧ (W.setCell ⟨G, x, none⟩ (.int .u8 (u.toNat : Int))).cell? ⟨g9, 1, none⟩ = some (.int .i64 y) ∧ W.cell? ⟨G, x, none⟩ = some (.int .u8 (((du C U k p k).getD x 0).toNat : Int)) ∧ W.frozen? ⟨G, x, none⟩ = false ∧ (W.setCell ⟨G, x, none⟩ (.int .u8 (u.toNat : Int))).cell? ⟨G, y, none⟩ = some (.int .u8 ((((du C U k p k).set x u).getD y 0).toNat : Int)) ∧ (W.setCell ⟨G, x, none⟩ (.int .u8 (u.toNat : Int))).frozen? ⟨G, y, none⟩ = false ∧
            Own ((W.setCell ⟨G, x, none⟩ (.int .u8 (u.toNat : Int))).setCell ⟨G, y, none⟩ (.int .u8 (v.toNat : Int))) w.heap.size 5 (.slice (some ⟨G, 0, none⟩) k k) (bv (sol C U k p)) := by
          intro W hW
          have hd := HD2.out.below hW
          have hl := HL2.out.below hW
          have hd2 := own_bset hd (du_len _ _ _ _ _) x u
          have hdl : ((du C U k p k).set x u).length = k := by rw [List.length_set, du_len]
          refine ⟨own_nats (L := [x, y]) hl 0 (by simp), own_nats (L := [x, y]) hl 1 (by simp), own_nats (L := [x, y]) (hl.far hsep _) 1 (by simp), own_bytes hd (du_len _ _ _ _ _) x hxk, hd.frozen x, own_bytes hd2 hdl y hyk, hd2.frozen y, ?_⟩
          rw [HS.out]
          exact own_bset hd2 hdl y v
        have HFA := Lib.hid hfa; clear hfa
        have HB2 := Lib.hid hB2; clear hB2
        clear HD2 HB HL2 hsep
        generalize (du C U k p k).getD x 0 = old at *
        generalize ((du C U k p k).set x u).getD y 0 = old2 at *
        go_wp2
        go_region_held3 (fun w' => w'.cell? ⟨g9, 0, none⟩ = some (.int .i64 x) ∧ w'.cell? ⟨g9, 1, none⟩ = some (.int .i64 y)) (first | assumption | go_keep | exact ⟨t0, t1⟩)
          (first | (go_at_call 48; refine (HTW.out _).mono ?_; rintro e w4 ⟨rfl, hb4⟩; obtain ⟨t0, t1, t2, t3, t4, t5, t6, t7⟩ := HFA.out _ ((Below.refl _ w2).drew.trans hb4); have t7 := Lib.hid t7))
        have hB4 := below_then HB2.out.drew HB2.out.size hb4
        clear hlx hly
        go_wp2
        go_ret
        exact ⟨_, rfl, t7.out, (hB4.setCell (p := ⟨G, x, none⟩) hG1 _).setCell (p := ⟨G, y, none⟩) hG1 _⟩
end Go.Proofs.Ytikgipohjoiagaa
