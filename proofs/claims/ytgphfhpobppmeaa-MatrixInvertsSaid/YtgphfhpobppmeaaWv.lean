/-
  The walk of matrix.clearRow.
-/
import Derived.Test.YtgphfhpobppmeaaWe
import Derived.StillTailTactics
namespace Go.Proofs.Ytgphfhpobppmeaa
open Go.RowKit GfM

/-- the first c elements of x and f times y, then x. -/
def addPart (x y : List UInt8) (f : UInt8) (c : Nat) : List UInt8 := (List.range x.length).map fun j => if j < c then x.getD j 0 ^^^ mul f (y.getD j 0) else x.getD j 0
theorem addPart_length (x y : List UInt8) (f : UInt8) (c : Nat) : (addPart x y f c).length = x.length := by simp [addPart]
theorem addPart_at (x y : List UInt8) (f : UInt8) (c : Nat) (h : c < x.length) : (addPart x y f c).getD c 0 = x.getD c 0 := by
  unfold addPart
  rw [List.getD_eq_getElem?_getD, List.getElem?_map, List.getElem?_range h]
  show (if c < c then _ else _) = _
  rw [if_neg (Nat.lt_irrefl c)]
theorem addPart_zero (x y : List UInt8) (f : UInt8) : addPart x y f 0 = x := by
  unfold addPart
  apply List.ext_getElem
  · simp
  · intro j h1 h2
    simp [List.getD_eq_getElem?_getD, h2]
theorem addPart_all (x y : List UInt8) (f : UInt8) (h : x.length = y.length) : addPart x y f x.length = addRow x y f := by
  unfold addPart addRow
  apply List.ext_getElem
  · simp; omega
  · intro j h1 h2
    have hx : j < x.length := by simpa using h1
    have hy : j < y.length := by omega
    simp [List.getD_eq_getElem?_getD, hx, hy]
theorem addPart_set (x y : List UInt8) (f : UInt8) (c : Nat) : (addPart x y f c).set c (x.getD c 0 ^^^ mul f (y.getD c 0)) = addPart x y f (c + 1) := by
  apply List.ext_getElem
  · rw [List.length_set, addPart_length, addPart_length]
  · intro j h1 h2
    rw [List.getElem_set]
    simp only [addPart, List.getElem_map, List.getElem_range]
    by_cases e : c = j
    · subst e; rw [if_pos rfl, if_pos (by omega)]
    · rw [if_neg e]
      by_cases h3 : j < c
      · rw [if_pos h3, if_pos (by omega)]
      · rw [if_neg h3, if_neg (by omega)]
/-- the rows behind clearRow. -/
def clr (row : Nat → List UInt8) (r fr col : Nat) : Nat → List UInt8 := if r = fr then row else upd row r (addRow (row r) (row fr) ((row r).getD col 0))
theorem addRow_zero (x y : List UInt8) (h : x.length = y.length) : addRow x y 0 = x := by
  rw [← addPart_all x y 0 h]
  unfold addPart
  apply List.ext_getElem
  · simp
  · intro j h1 h2
    simp [List.getD_eq_getElem?_getD, h2, zero_mul]

set_option maxRecDepth 100000 in
set_option maxHeartbeats 2000000 in
theorem clearRow_any (w : World) (base G n K : Nat) (row : Nat → List UInt8) (hM : OM w base G n n row) (hK : ∀ r, r < n → (row r).length = K) (r fr col : Nat) (hr : r < n) (hf : fr < n) (hc : col < K) (hn : n ≤ 1000) (hK2 : K ≤ 1000) :
    Calls Try.prog 31 #[.slice (some ⟨G, 0, none⟩) n n, .int .i64 r, .int .i64 fr, .int .i64 col] w fun e w' => e = .returned (.tuple #[]) ∧ OM w' base G n n (clr row r fr col) ∧ Below base w w' ∧ (∀ b t cs, (5 : Nat) ≠ t → Blk w b t cs → Blk w' b t cs) := by
  have hbG := hM.1
  obtain ⟨g, k, e1, e2, e3, e4, e5, e6, _, _⟩ := hM.elem r col hr (by rw [hK r hr]; exact hc)
  rw [hK r hr] at e1 e6
  by_cases hne : r = fr
  · have ec : clr row r fr col = row := if_pos hne
    rw [ec]
    have hb : (((r : Nat) : Int) != ((fr : Nat) : Int)) = false := by rw [hne]; simp
    generalize (row r).getD col 0 = f at *
    clear hne ec hK
    go_enter Try.func31, Try.ntmps31
    go_wp2
    go_end0
    exact ⟨rfl, hM, Below.refl _ _, fun _ _ _ _ h => h⟩
  · have ec : clr row r fr col = upd row r (addRow (row r) (row fr) ((row r).getD col 0)) := if_neg hne
    have hlenE : (row r).length = (row fr).length := by rw [hK r hr, hK fr hf]
    have hb : (((r : Nat) : Int) != ((fr : Nat) : Int)) = true := by rw [bne_iff_ne]; omega
    by_cases hf0 : (row r).getD col 0 = 0
    · have e7 : (((((row r).getD col 0).toNat : Nat) : Int) != 0) = false := by rw [hf0]; rfl
      have hM' : OM w base G n n (clr row r fr col) := hM.congr fun s _ => by
        rw [ec, hf0, addRow_zero _ _ hlenE]
        unfold upd
        split
        · rename_i h; rw [h]
        · rfl
      generalize clr row r fr col = row' at *
      generalize (row r).getD col 0 = f at *
      clear hne ec hf0 hlenE hK
      go_enter Try.func31, Try.ntmps31
      go_wp2
      go_end0
      exact ⟨rfl, hM', Below.refl _ _, fun _ _ _ _ h => h⟩
    · have e7 : (((((row r).getD col 0).toNat : Nat) : Int) != 0) = true := by
        rw [bne_iff_ne]
        have := toNat_ne hf0
        omega
      have hM0 : OM w base G n n (upd row r (addPart (row r) (row fr) ((row r).getD col 0) 0)) := hM.congr fun s _ => by
        rw [addPart_zero]
        unfold upd
        split
        · rename_i h; rw [h]
        · rfl
      have hfin : ∀ W, OM W base G n n (upd row r (addPart (row r) (row fr) ((row r).getD col 0) K)) → OM W base G n n (clr row r fr col) := fun W h => by
        rw [ec, ← addPart_all _ _ _ hlenE, hK r hr]; exact h
      have hKr := hK r hr
      have hKf := hK fr hf
      have HFIN := Lib.hid hfin; clear hfin ec hK hM
      have HNE := Lib.hid hne; clear hne hf0
      have HKR := Lib.hid hKr; clear hKr
      have HKF := Lib.hid hKf; clear hKf hlenE
      generalize (row r).getD col 0 = f at *
      go_enter Try.func31, Try.ntmps31
      go_wp2
      clear e1 e2 e3 e4 e5 e6 e7 hb
      go_loopw [9, 29] (fun _ s29 wr => ∃ c : Nat, c ≤ K ∧ s29 = .int .i64 c ∧ OM wr base G n n (upd row r (addPart (row r) (row fr) f c)) ∧ Below base w wr ∧ Hid (∀ b t cs, (5 : Nat) ≠ t → Blk w b t cs → Blk wr b t cs)) (fun _ s29 _ => K - (intOf s29).toNat)
      case atStart => exact ⟨0, by omega, rfl, hM0, Below.refl _ _, Lib.hid fun _ _ _ _ h => h⟩
      case round =>
        clear hM0
        obtain ⟨c, hcK, rfl, hM, hB, hFr⟩ := hrel
        by_cases hlc : c < K
        · obtain ⟨g, k, e1, e2, e3, e4, e5, e6, e9, e7⟩ := hM.elem r c hr (by rw [upd_same, addPart_length, HKR.out]; exact hlc)
          rw [upd_same, addPart_length, HKR.out] at e1 e6
          rw [upd_same, addPart_at _ _ _ _ (by rw [HKR.out]; exact hlc)] at e2
          obtain ⟨g', k', i1, i2, i3, i4, i5, i6, _, _⟩ := hM.elem fr c hf (by rw [upd_other _ _ (fun h => HNE.out h.symm), HKF.out]; exact hlc)
          rw [upd_other _ _ (fun h => HNE.out h.symm)] at i1 i2 i6
          rw [HKF.out] at i1 i6
          have e8 := (e7 ((row r).getD c 0 ^^^ mul f ((row fr).getD c 0))).congr (row' := upd row r (addPart (row r) (row fr) f (c + 1))) fun s _ => by
            rw [upd_same, addPart_set]
            unfold upd
            split <;> rfl
          have C1 := fun W => (mul_any _ _ f ((row fr).getD c 0) rfl rfl W).mono fun _ _ h => (⟨h.1, h.2.symm⟩ : _ ∧ _)
          have C2 := fun W => (add_any ((row r).getD c 0) (mul f ((row fr).getD c 0)) W).mono fun _ _ h => (⟨h.1, h.2.symm⟩ : _ ∧ _)
          generalize (row r).getD c 0 ^^^ mul f ((row fr).getD c 0) = u5 at *
          generalize mul f ((row fr).getD c 0) = u4 at *
          generalize (row r).getD c 0 = u3 at *
          generalize (row fr).getD c 0 = u2 at *
          have HC1 := Lib.hid C1; clear C1
          have HC2 := Lib.hid C2; clear C2
          have HE8 := Lib.hid e8; clear e8 e7
          have HE9 := Lib.hid e9; clear e9
          go_wp2
          go_still_tail 23, (by kernel_rfl)
          still_call (HC1.out _)
          repeat still_step
          still_call (HC2.out _)
          repeat still_step
          refine wpStill_nil ?_
          go_wp2
          go_roundw
          case rel => exact ⟨c + 1, by omega, by go_num, HE8.out.drew, (hB.setCell (by simp; omega) _).drew, Lib.hid fun b t cs hne h => ((hFr.out b t cs hne h).far (HE9.out b t cs hne (hFr.out b t cs hne h)) _).drew⟩
          case measure => simp [intOf]; omega
        · obtain rfl : c = K := by omega
          go_wp2
          go_end0
          exact ⟨rfl, HFIN.out _ hM, hB, hFr.out⟩
end Go.Proofs.Ytgphfhpobppmeaa
