/-
  The walk of matrix.Mul.
-/
import Derived.Test.YtgphfhpobppmeaaWe
import Derived.StillTailTactics
namespace Go.Proofs.Ytgphfhpobppmeaa
open Go.RowKit GfM

/-! ### the plain part -/
/-- the product of two matrices. -/
def mulM (A B : List (List UInt8)) : List (List UInt8) := (List.range A.length).map fun r => (List.range (B.getD 0 []).length).map fun c => mm B.length (en A) (en B) r c
def mulOut (A B : List (List UInt8)) : List (List UInt8) × Int :=
  if goodM A = false ∨ goodM B = false then ([], 4) else if (A.getD 0 []).length ≠ B.length then ([], 7) else (mulM A B, 0)
theorem mulM_length (A B : List (List UInt8)) : (mulM A B).length = A.length := by simp [mulM]
theorem mulM_row (A B : List (List UInt8)) (r : Nat) (h : r < A.length) : (mulM A B).getD r [] = (List.range (B.getD 0 []).length).map fun c => mm B.length (en A) (en B) r c := by
  unfold mulM
  rw [List.getD_eq_getElem?_getD, List.getElem?_map, List.getElem?_range h]; rfl
/-- the rows, while they are made: r rows done, c elements of the next, k terms of the next. -/
def muRow (A B : List (List UInt8)) (r c k s : Nat) : List UInt8 :=
  (List.range (B.getD 0 []).length).map fun j => if s < r ∨ (s = r ∧ j < c) then mm B.length (en A) (en B) s j else if s = r ∧ j = c then mm k (en A) (en B) s j else 0
theorem muRow_length (A B : List (List UInt8)) (r c k s : Nat) : (muRow A B r c k s).length = (B.getD 0 []).length := by simp [muRow]
theorem muRow_at (A B : List (List UInt8)) (r c k : Nat) (hc : c < (B.getD 0 []).length) : (muRow A B r c k r).getD c 0 = mm k (en A) (en B) r c := by
  unfold muRow
  rw [List.getD_eq_getElem?_getD, List.getElem?_map, List.getElem?_range hc]
  show (if _ then _ else _) = _
  rw [if_neg (by omega), if_pos ⟨rfl, rfl⟩]
theorem muRow_set (A B : List (List UInt8)) (r c k : Nat) (hc : c < (B.getD 0 []).length) (s : Nat) :
    upd (muRow A B r c k) r ((muRow A B r c k r).set c (mm k (en A) (en B) r c ^^^ mul (en A r k) (en B k c))) s = muRow A B r c (k + 1) s := by
  by_cases h : s = r
  · subst h
    rw [upd_same]
    apply List.ext_getElem
    · rw [List.length_set, muRow_length, muRow_length]
    · intro j h1 h2
      have hj : j < (B.getD 0 []).length := by rw [muRow_length] at h2; exact h2
      rw [List.getElem_set]
      have el : ∀ k' (hh : j < (muRow A B s c k' s).length), (muRow A B s c k' s)[j]'hh = if s < s ∨ (s = s ∧ j < c) then mm B.length (en A) (en B) s j else if s = s ∧ j = c then mm k' (en A) (en B) s j else 0 := by
        intro k' hh
        simp only [muRow, List.getElem_map, List.getElem_range]
      rw [el (k + 1) h2]
      by_cases e : c = j
      · subst e
        rw [if_pos rfl, if_neg (show ¬ (s < s ∨ (s = s ∧ c < c)) by omega), if_pos (And.intro rfl rfl)]; rfl
      · rw [if_neg e, el k (by rw [muRow_length]; exact hj)]
        have h4 : ¬ (s = s ∧ j = c) := fun h => e h.2.symm
        rw [if_neg h4, if_neg h4]
  · rw [upd_other _ _ h]
    unfold muRow
    apply List.map_congr_left
    intro j _
    by_cases h3 : s < r
    · rw [if_pos (.inl h3), if_pos (.inl h3)]
    · rw [if_neg (by omega), if_neg (by omega), if_neg (by omega), if_neg (by omega)]
theorem muRow_col (A B : List (List UInt8)) (r c s : Nat) : muRow A B r c B.length s = muRow A B r (c + 1) 0 s := by
  unfold muRow
  apply List.map_congr_left
  intro j _
  by_cases h3 : s < r ∨ (s = r ∧ j < c)
  · rw [if_pos h3, if_pos (by omega)]
  · rw [if_neg h3]
    by_cases h4 : s = r ∧ j = c
    · rw [if_pos h4, if_pos (by omega)]
    · rw [if_neg h4, if_neg (by omega)]
      split <;> rfl
theorem muRow_next (A B : List (List UInt8)) (r s : Nat) : muRow A B r (B.getD 0 []).length 0 s = muRow A B (r + 1) 0 0 s := by
  unfold muRow
  apply List.map_congr_left
  intro j hj
  have hj : j < (B.getD 0 []).length := by simpa using hj
  by_cases h3 : s < r + 1
  · rw [if_pos (by omega), if_pos (by omega)]
  · rw [if_neg (by omega), if_neg (by omega), if_neg (by omega)]
    split <;> rfl
theorem muRow_start (A B : List (List UInt8)) (s : Nat) : List.replicate (B.getD 0 []).length 0 = muRow A B 0 0 0 s := by
  unfold muRow
  apply List.ext_getElem
  · simp
  · intro j h1 h2
    simp only [List.getElem_replicate, List.getElem_map, List.getElem_range]
    rw [if_neg (by omega)]
    split <;> rfl

set_option maxRecDepth 100000 in
set_option maxHeartbeats 4000000 in
theorem mulm_any (w : World) (va vb : Value) (A B : List (List UInt8)) (hA : RMat w va A) (hB : RMat w vb B) :
    Calls Try.prog 17 #[va, vb] w fun e w' => ∃ v, e = .returned (.tuple #[v, .int .i64 (mulOut A B).2]) ∧ RMat w' v (mulOut A B).1 ∧ Below w.heap.size w w' := by
  have hgA := fun W (h : Below w.heap.size w W) => good_any W va A (hA.below h)
  have hgB := fun W (h : Below w.heap.size w W) => good_any W vb B (hB.below h)
  by_cases gA : goodM A = true
  · by_cases gB : goodM B = true
    · rw [gA] at hgA
      rw [gB] at hgB
      have HGA := Lib.hid hgA; clear hgA
      have HGB := Lib.hid hgB; clear hgB
      obtain ⟨a1, a2, a3, a4, aS⟩ := (good_iff A).1 gA
      obtain ⟨b1, b2, b3, b4, bS⟩ := (good_iff B).1 gB
      obtain ⟨ba, oa, ca, rfl, hca, hba⟩ := hA.at_ (by omega)
      obtain ⟨bb, ob, cb, rfl, hcb, hbb⟩ := hB.at_ (by omega)
      have ha0 := fun W (h : Below w.heap.size w W) => (hA.below h).rowAt 0 (by omega)
      have hb0 := fun W (h : Below w.heap.size w W) => (hB.below h).rowAt 0 (by omega)
      obtain ⟨q, hq⟩ : ∃ q, (B.getD 0 []).length = q := ⟨_, rfl⟩
      obtain ⟨pa, hpa⟩ : ∃ pa, (A.getD 0 []).length = pa := ⟨_, rfl⟩
      obtain ⟨n, hn⟩ : ∃ n, A.length = n := ⟨_, rfl⟩
      obtain ⟨p, hp⟩ : ∃ p, B.length = p := ⟨_, rfl⟩
      by_cases hd : (A.getD 0 []).length = B.length
      · have e : mulOut A B = (mulM A B, 0) := by unfold mulOut; rw [if_neg (by rw [gA, gB]; decide), if_neg (by simpa using hd)]
        rw [e]
        have hrow := fun r c => mulM_row A B r c
        have hlenM := mulM_length A B
        have hstart := muRow_start A B
        have hset := muRow_set A B
        have hat := muRow_at A B
        have hcol := muRow_col A B
        have hnext := muRow_next A B
        have hlen := muRow_length A B
        have hall : ∀ r, r < A.length → muRow A B A.length 0 0 r = (mulM A B).getD r [] := fun r hr => by
          rw [mulM_row A B r hr]
          unfold muRow
          apply List.map_congr_left
          intro j _
          rw [if_pos (.inl hr)]
        clear e gA gB hrow
        rw [hpa, hp] at hd
        rw [hpa] at a3 a4 ha0
        rw [hq] at b3 b4 hb0 hset hat hnext hlen hstart
        rw [hn] at a1 a2 hca hlenM hall HGA hA ⊢
        rw [hp] at b1 b2 hcb hcol HGB hB ⊢
        have hdI : (((pa : Nat) : Int) != ((p : Nat) : Int)) = false := by rw [hd]; simp
        have HPA := Lib.hid hpa; clear hpa
        have HN := Lib.hid hn; clear hn
        have HP := Lib.hid hp; clear hp
        have HQ := Lib.hid hq; clear hq
        have HD := Lib.hid hd; clear hd
        have HSET := Lib.hid hset; clear hset
        have HAT := Lib.hid hat; clear hat
        have HCOL := Lib.hid hcol; clear hcol
        have HNEXT := Lib.hid hnext; clear hnext
        have HLEN := Lib.hid hlen; clear hlen
        have HALL := Lib.hid hall; clear hall
        have HST := Lib.hid hstart; clear hstart
        have HLM := Lib.hid hlenM; clear hlenM
        have haR : ∀ r, r < n → (A.getD r []).length = p := fun r hr => by rw [aS.2 r (by rw [HN.out]; exact hr), HPA.out, HD.out]
        have hbR : ∀ k, k < p → (B.getD k []).length = q := fun k hk => by rw [bS.2 k (by rw [HP.out]; exact hk), HQ.out]
        have HAS := Lib.hid haR; clear aS haR
        have HBS := Lib.hid hbR; clear bS hbR
        go_enter Try.func17, Try.ntmps17
        go_wp2_with fail
        refine (HGA.out _ (Below.refl _ _)).mono ?_
        rintro e w1 ⟨rfl, hb1⟩
        go_wp2_with fail
        refine (HGB.out _ hb1).mono ?_
        rintro e w2 ⟨rfl, hb2⟩
        have hB2 := below_then hb1 hb1.size hb2
        obtain ⟨A0, c0, hc0, _, _⟩ := ha0 _ hB2
        obtain ⟨B0, d0, hd0, _, _⟩ := hb0 _ hB2
        rw [Nat.add_zero] at hc0 hd0
        clear ha0 hb0 hb1 hb2
        go_wp2_with fail
        refine (empty_any n q a2 b4 _).mono ?_
        rintro e w3 ⟨rfl, hM3, hb3⟩
        have hB3 := below_then hB2 hB2.size hb3
        obtain ⟨G, hG⟩ : ∃ G, w2.heap.size = G := ⟨_, rfl⟩
        have hGw : w.heap.size ≤ w2.heap.size := hB2.size
        rw [hG] at hM3 hGw ⊢
        clear hG hB2 hb3 hc0 hd0
        go_wp2_with fail
        have hB0 := Lib.hid hB3; clear hB3
        go_loopw [7, 8, 9, 36, 44, 49] (fun _ _ _ s36 _ _ wr => ∃ r : Nat, r ≤ n ∧ s36 = .int .i64 r ∧ OM wr G G n n (muRow A B r 0 0) ∧ Below w.heap.size w wr) (fun _ _ _ s36 _ _ _ => n - (intOf s36).toNat)
        case atStart => exact ⟨0, by omega, rfl, hM3.congr fun s _ => HST.out s, hB0.out⟩
        case round =>
          clear hM3 hB0
          obtain ⟨r, hr, rfl, hM, hBw⟩ := hrel
          by_cases hlt : r < n
          · obtain ⟨wo, rfl⟩ : ∃ wo : World, wo = wr := ⟨_, rfl⟩
            obtain ⟨g0, k0, hg0, _, _, _⟩ := hM.rowAt r hlt
            rw [HLEN.out] at hg0
            go_wp2
            go_loopw [8, 9, 44, 49] (fun _ _ s44 _ wi => ∃ c : Nat, c ≤ q ∧ s44 = .int .i64 c ∧ OM wi G G n n (muRow A B r c 0) ∧ Below w.heap.size w wi) (fun _ _ s44 _ _ => q - (intOf s44).toNat)
            case atStart => exact ⟨0, by omega, rfl, hM, hBw⟩
            case round =>
              clear hM hBw hg0
              obtain ⟨c, hc, rfl, hM, hBw⟩ := hrel
              by_cases hlc : c < q
              · obtain ⟨wo2, rfl⟩ : ∃ wo2 : World, wo2 = wr := ⟨_, rfl⟩
                go_wp2
                go_loopw [9, 49] (fun _ s49 wj => ∃ k : Nat, k ≤ p ∧ s49 = .int .i64 k ∧ OM wj G G n n (muRow A B r c k) ∧ Below w.heap.size w wj) (fun _ s49 _ => p - (intOf s49).toNat)
                case atStart => exact ⟨0, by omega, rfl, hM, hBw⟩
                case round =>
                  clear hM hBw
                  obtain ⟨k, hk, rfl, hM, hBw⟩ := hrel
                  by_cases hlk : k < p
                  · obtain ⟨g, kk, e1, e2, e3, e4, e5, e6, _, e7⟩ := hM.elem r c hlt (by rw [HLEN.out]; exact hlc)
                    rw [HLEN.out] at e1 e6
                    rw [HAT.out _ _ _ hlc] at e2
                    obtain ⟨x1, y1, z1, f1, f2, f3⟩ := (hA.below hBw).el r k (by rw [HN.out]; exact hlt) (by rw [HAS.out r hlt]; exact hlk)
                    obtain ⟨x2, y2, z2, i1, i2, i3⟩ := (hB.below hBw).el k c (by rw [HP.out]; exact hlk) (by rw [HBS.out k hlk]; exact hlc)
                    rw [HAS.out r hlt] at f1 f2
                    rw [HBS.out k hlk] at i1 i2
                    have e8 := (e7 (mm k (en A) (en B) r c ^^^ mul (en A r k) (en B k c))).congr fun s _ => HSET.out r c k hlc s
                    have C1 := fun W => (mul_any _ _ (en A r k) (en B k c) rfl rfl W).mono fun _ _ h => (⟨h.1, h.2.symm⟩ : _ ∧ _)
                    have C2 := fun W => (add_any (mm k (en A) (en B) r c) (mul (en A r k) (en B k c)) W).mono fun _ _ h => (⟨h.1, h.2.symm⟩ : _ ∧ _)
                    generalize mm k (en A) (en B) r c ^^^ mul (en A r k) (en B k c) = u5 at *
                    generalize mul (en A r k) (en B k c) = u4 at *
                    generalize mm k (en A) (en B) r c = u3 at *
                    generalize en A r k = u2 at *
                    generalize en B k c = u1 at *
                    have HC1 := Lib.hid C1; clear C1
                    have HC2 := Lib.hid C2; clear C2
                    have HE8 := Lib.hid e8; clear e8 e7
                    go_wp2
                    go_still_tail 29, (by kernel_rfl)
                    still_call (HC1.out _)
                    repeat still_step
                    still_call (HC2.out _)
                    repeat still_step
                    refine wpStill_nil ?_
                    go_wp2
                    go_roundw
                    case rel => exact ⟨k + 1, by omega, by go_num, HE8.out.drew, (hBw.setCell (by simp; omega) _).drew⟩
                    case measure => simp [intOf]; omega
                  · obtain rfl : k = p := by omega
                    go_wp2
                    go_roundw
                    case rel => exact ⟨c + 1, by omega, by go_num, hM.congr fun s _ => HCOL.out r c s, hBw⟩
                    case measure => simp [intOf]; omega
              · obtain rfl : c = q := by omega
                go_wp2
                go_roundw
                case rel => exact ⟨r + 1, by omega, by go_num, hM.congr fun s _ => HNEXT.out r s, hBw⟩
                case measure => simp [intOf]; omega
          · obtain rfl : r = n := by omega
            go_wp2
            go_ret2
            exact ⟨_, rfl, hM.reads (by omega) _ HLM.out (fun s hs => HALL.out s hs), hBw⟩
      · have e : mulOut A B = ([], 7) := by unfold mulOut; rw [if_neg (by rw [gA, gB]; decide), if_pos hd]
        rw [e]
        rw [hpa, hp] at hd
        rw [hpa] at a3 a4 ha0
        rw [hn] at a1 a2 hca HGA ⊢
        rw [hp] at b1 b2 hcb HGB ⊢
        have hdI : (((pa : Nat) : Int) != ((p : Nat) : Int)) = true := by rw [bne_iff_ne]; omega
        clear hpa hp hq hn hd e gA gB aS bS hb0 hA hB
        go_enter Try.func17, Try.ntmps17
        go_wp2_with fail
        refine (HGA.out _ (Below.refl _ _)).mono ?_
        rintro e w1 ⟨rfl, hb1⟩
        go_wp2_with fail
        refine (HGB.out _ hb1).mono ?_
        rintro e w2 ⟨rfl, hb2⟩
        have hB2 := below_then hb1 hb1.size hb2
        obtain ⟨A0, c0, hc0, _, _⟩ := ha0 _ hB2
        rw [Nat.add_zero] at hc0
        clear ha0 hb1 hb2
        go_wp2
        go_ret2
        exact ⟨_, rfl, RMat.nil_ _, hB2⟩
    · have gB' : goodM B = false := by simpa using gB
      have e : mulOut A B = ([], 4) := by unfold mulOut; rw [if_pos (.inr gB')]
      rw [e]
      rw [gA] at hgA
      rw [gB'] at hgB
      have HGA := Lib.hid hgA; clear hgA
      have HGB := Lib.hid hgB; clear hgB gA gB gB' e
      go_enter Try.func17, Try.ntmps17
      go_wp2_with fail
      refine (HGA.out _ (Below.refl _ _)).mono ?_
      rintro e w1 ⟨rfl, hb1⟩
      go_wp2_with fail
      refine (HGB.out _ hb1).mono ?_
      rintro e w2 ⟨rfl, hb2⟩
      go_wp2
      go_ret2
      exact ⟨_, rfl, RMat.nil_ _, below_then hb1 hb1.size hb2⟩
  · have gA' : goodM A = false := by simpa using gA
    have e : mulOut A B = ([], 4) := by unfold mulOut; rw [if_pos (.inl gA')]
    rw [e]
    rw [gA'] at hgA
    have HGA := Lib.hid hgA; clear hgA gA gA' e hgB
    go_enter Try.func17, Try.ntmps17
    go_wp2_with fail
    refine (HGA.out _ (Below.refl _ _)).mono ?_
    rintro e w1 ⟨rfl, hb1⟩
    go_wp2
    go_ret2
    exact ⟨_, rfl, RMat.nil_ _, hb1⟩
end Go.Proofs.Ytgphfhpobppmeaa
