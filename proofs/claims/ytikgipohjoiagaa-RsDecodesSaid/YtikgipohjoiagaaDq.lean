/-
  What the document's Decode answers is what rs.Decode answers, plain.
-/
import Derived.Test.YtikgipohjoiagaaUs
namespace Go.Proofs.Ytikgipohjoiagaa
open Go.RowKit GfM

theorem wt_ex (r : Nat) : wt r = ex r := by unfold wt; exact pwI_ex r
theorem set_at (L : List UInt8) (x c : Nat) (v : UInt8) (h : x < L.length) : (L.set x v).getD c 0 = if c = x then v else L.getD c 0 := by
  by_cases e : c = x
  · subst e; simp [List.getD_eq_getElem?_getD, h]
  · rw [if_neg e]; simp [List.getD_eq_getElem?_getD, List.getElem?_set, Ne.symm e]
/-- one term of a sum, from nothing. -/
theorem sx_put (n x : Nat) (f : Nat → UInt8) (v : UInt8) (hx : x < n) (hf : f x = 0) : sx n (fun c => if c = x then v else f c) = sx n f ^^^ v := by
  have e : sx n (fun c => if c = x then v else f c) = sx n (fun c => f c ^^^ (if c = x then v else 0)) := sx_congr n fun c _ => by
    by_cases q : c = x
    · subst q; rw [if_pos rfl, if_pos rfl, hf, UInt8.zero_xor]
    · rw [if_neg q, if_neg q, UInt8.xor_zero]
  rw [e, sx_add, sx_one n x (fun c => if c = x then v else 0) hx (fun j _ hj => if_neg hj), if_pos rfl]
theorem lk_pair (U : List Bool) (i : Nat) : (lk U i).Pairwise (· < ·) := by
  induction i with
  | zero => exact List.Pairwise.nil
  | succ i ih =>
    by_cases h : U.getD i false = true
    · rw [lk_yes h]; exact ih
    · rw [lk_no (by simpa using h)]
      rw [List.pairwise_append]
      refine ⟨ih, List.pairwise_singleton _ _, fun a ha b hb => ?_⟩
      rw [List.mem_singleton] at hb
      subst hb
      exact (lk_lt U _ a ha).1
theorem xor_can (a b : UInt8) : a ^^^ (a ^^^ b) = b := by rw [← UInt8.xor_assoc, UInt8.xor_self, UInt8.zero_xor]
section
variable {C : List ByteArray} {U : List Bool} {k p : Nat}
theorem du_all (c : Nat) (h : c < k) : (du C U k p k).getD c 0 = gu C U p c := by rw [du_at _ _ _ _ _ _ h, if_pos h]
theorem sum_du : sx k (fun c => (du C U k p k).getD c 0) = pu C U p k := sx_congr k fun c hc => du_all c hc
theorem sum_duq : sx k (fun c => mul (ex c) ((du C U k p k).getD c 0)) = qu C U p k := sx_congr k fun c hc => by rw [du_all c hc, wt_ex]
theorem sol_fit (hc : Cas U k) (hk8 : k ≤ 8) :
    (∀ s, s < k → U.getD s false = true → (sol C U k p).getD s 0 = (tb C s).getD p 0) ∧
    (U.getD k false = true → sx k (fun c => (sol C U k p).getD c 0) = (tb C k).getD p 0) ∧
    (U.getD (k + 1) false = true → sx k (fun c => mul (ex c) ((sol C U k p).getD c 0)) = (tb C (k + 1)).getD p 0) := by
  have hl := du_len C U k p k
  rcases hc with ⟨h, h1, h2⟩ | ⟨x, h, h1, h2⟩ | ⟨x, h, h1, h2⟩ | ⟨x, y, h, h1, h2⟩
  · have hs : sol C U k p = du C U k p k := by unfold sol; rw [h]
    have hp := pk_lk U k
    rw [h] at hp
    have hall : ∀ s, s < k → U.getD s false = true := fun s hs => (pk_lt U k s (pk_all U k (by simpa using hp) s hs)).2
    rw [hs]
    refine ⟨fun s hs hu => by rw [du_all s hs, gu_yes hu], fun hu => ?_, fun hu => ?_⟩
    · rw [h1] at hu; cases hu
    · rw [h2] at hu; cases hu
  · have hs : sol C U k p = (du C U k p k).set x (pu C U p k ^^^ (tb C k).getD p 0) := by unfold sol; rw [h]; simp only [h1, if_true]
    have hx := lk_lt U k x (by rw [h]; simp)
    have hg0 : (du C U k p k).getD x 0 = 0 := by rw [du_all x hx.1, gu_no hx.2]
    rw [hs]
    refine ⟨fun s hs hu => ?_, fun _ => ?_, fun hu => ?_⟩
    · rw [set_at _ _ _ _ (by rw [hl]; exact hx.1), if_neg (fun e => by subst e; rw [hx.2] at hu; cases hu), du_all s hs, gu_yes hu]
    · rw [sx_congr k (fun c _ => set_at _ x c _ (by rw [hl]; exact hx.1)), sx_put k x _ _ hx.1 hg0, sum_du, xor_can]
    · rw [h2] at hu; cases hu
  · have hs : sol C U k p = (du C U k p k).set x (mul (inv (wt x)) (qu C U p k ^^^ (tb C (k + 1)).getD p 0)) := by unfold sol; rw [h]; simp only [h1]; rfl
    have hx := lk_lt U k x (by rw [h]; simp)
    have hg0 : mul (ex x) ((du C U k p k).getD x 0) = 0 := by rw [du_all x hx.1, gu_no hx.2, mul_zero]
    rw [hs]
    refine ⟨fun s hs hu => ?_, fun hu => ?_, fun _ => ?_⟩
    · rw [set_at _ _ _ _ (by rw [hl]; exact hx.1), if_neg (fun e => by subst e; rw [hx.2] at hu; cases hu), du_all s hs, gu_yes hu]
    · rw [h1] at hu; cases hu
    · have e : sx k (fun c => mul (ex c) (((du C U k p k).set x (mul (inv (wt x)) (qu C U p k ^^^ (tb C (k + 1)).getD p 0))).getD c 0)) = sx k (fun c => if c = x then (qu C U p k ^^^ (tb C (k + 1)).getD p 0) else mul (ex c) ((du C U k p k).getD c 0)) := sx_congr k fun c _ => by
        rw [set_at _ _ _ _ (by rw [hl]; exact hx.1)]
        by_cases e : c = x
        · subst e; rw [if_pos rfl, if_pos rfl, wt_ex, ← mul_assoc, mul_inv (ex_ne _), one_mul]
        · rw [if_neg e, if_neg e]
      rw [e, sx_put k x _ _ hx.1 hg0, sum_duq, xor_can]
  · have hx := lk_lt U k x (by rw [h]; simp)
    have hy := lk_lt U k y (by rw [h]; simp)
    have hxy : x < y := by
      have := lk_pair U k
      rw [h] at this
      simpa using this
    have hs : sol C U k p = ((du C U k p k).set x (two1 x y (pu C U p k ^^^ (tb C k).getD p 0) (qu C U p k ^^^ (tb C (k + 1)).getD p 0))).set y (two2 x y (pu C U p k ^^^ (tb C k).getD p 0) (qu C U p k ^^^ (tb C (k + 1)).getD p 0)) := by unfold sol; rw [h]
    rw [hs]
    have hat : ∀ c u v, (((du C U k p k).set x u).set y v).getD c 0 = if c = y then v else if c = x then u else (du C U k p k).getD c 0 := fun c u v => by
      rw [set_at _ _ _ _ (by rw [List.length_set, hl]; exact hy.1), set_at _ _ _ _ (by rw [hl]; exact hx.1)]
    have gx : (du C U k p k).getD x 0 = 0 := by rw [du_all x hx.1, gu_no hx.2]
    have gy : (du C U k p k).getD y 0 = 0 := by rw [du_all y hy.1, gu_no hy.2]
    have hne : ex x ^^^ ex y ≠ 0 := fun e => by have := ex_inj (by omega) (by omega) (xor_eq e); omega
    refine ⟨fun s hs hu => ?_, fun _ => ?_, fun _ => ?_⟩
    · rw [hat, if_neg (fun e => by subst e; rw [hy.2] at hu; cases hu), if_neg (fun e => by subst e; rw [hx.2] at hu; cases hu), du_all s hs, gu_yes hu]
    · rw [sx_congr k (fun c _ => hat c _ _), sx_put k y _ _ hy.1 (by rw [if_neg (by omega)]; exact gy), sx_put k x _ _ hx.1 gx, sum_du]
      unfold two1
      rw [UInt8.xor_assoc, UInt8.xor_assoc _ (two2 _ _ _ _), UInt8.xor_self, UInt8.xor_zero, xor_can]
    · have e : ∀ u v, sx k (fun c => mul (ex c) ((((du C U k p k).set x u).set y v).getD c 0)) = sx k (fun c => if c = y then mul (ex y) v else if c = x then mul (ex x) u else mul (ex c) ((du C U k p k).getD c 0)) := fun u v => sx_congr k fun c _ => by
        rw [hat]
        by_cases e1 : c = y
        · subst e1; rw [if_pos rfl, if_pos rfl]
        · rw [if_neg e1, if_neg e1]
          by_cases e2 : c = x
          · subst e2; rw [if_pos rfl, if_pos rfl]
          · rw [if_neg e2, if_neg e2]
      rw [e, sx_put k y _ _ hy.1 (by rw [if_neg (by omega), gy, mul_zero]), sx_put k x _ _ hx.1 (by rw [gx, mul_zero]), sum_duq]
      generalize pu C U p k ^^^ (tb C k).getD p 0 = P
      have hv : mul (ex x ^^^ ex y) (two2 x y P (qu C U p k ^^^ (tb C (k + 1)).getD p 0)) = (qu C U p k ^^^ (tb C (k + 1)).getD p 0) ^^^ mul (ex x) P := by
        unfold two2
        rw [wt_ex, wt_ex, ← mul_assoc, mul_inv hne, one_mul]
      unfold two1
      generalize two2 x y P (qu C U p k ^^^ (tb C (k + 1)).getD p 0) = v at *
      rw [add_mul] at hv
      rw [mul_add, UInt8.xor_assoc (qu C U p k), UInt8.xor_assoc (mul (ex x) P), hv, UInt8.xor_comm _ (mul (ex x) P), xor_can, xor_can]
end
variable {C : List ByteArray}

/-! ### the same answer -/
theorem dC_fit {B : List Bool} {k : Nat} (hk1 : 1 ≤ k) (hk8 : k ≤ 8) (hp : k ≤ (pk B (k + 2)).length) (hsh : shE ((pk B (k + 2)).map (tl C)) = 0) :
    enE (dC C B k) = 0 ∧ ∀ s ∈ (pk B (k + 2)).take k, tl C s = tl (apL (genM k) (dC C B k)) s := by
  have hD := dC_len C B k
  have hn : ln C B k ≤ 65536 := (shE_ok hsh).2 (by rw [List.length_map]; omega)
  have hsz : ∀ j, j < (dC C B k).length → (tl (dC C B k) j).size = ln C B k := fun j hj => by
    rw [dC_tl C B k j (by rw [← hD]; exact hj), bs_size, dr_len]
  have hnn : nn (dC C B k) = ln C B k := hsz 0 (by omega)
  have hsz' : ∀ j, j < (dC C B k).length → (tl (dC C B k) j).size = nn (dC C B k) := fun j hj => by rw [hnn]; exact hsz j hj
  have hE : enE (dC C B k) = 0 := enE_of (by omega) (by omega) hsz' (by rw [hnn]; exact hn)
  have e2 : enP (dC C B k) = pp (dC C B k) (nn (dC C B k)) (dC C B k).length := by unfold enP; rw [if_pos hE]
  have e3 : enQ (dC C B k) = qq (dC C B k) (nn (dC C B k)) (dC C B k).length := by unfold enQ; rw [if_pos hE]
  refine ⟨hE, fun s hs => ?_⟩
  have hs2 := pk_lt (ua B k) (k + 2) s (by rw [ua_pk B k (k + 2) (Nat.le_refl _)]; exact hs)
  have hsC : (tl C s).size = ln C B k := ln_of hsh hs2.1 (ua_there hs2.1 hs2.2)
  have hg := gen_all hE
  rw [hD] at hg
  have hf := fun p => sol_fit (p := p) (C := C) (ua_cas B k hp) hk8
  have htb : ∀ c p, c < k → p < ln C B k → (tb (dC C B k) c).getD p 0 = (sol C (ua B k) k p).getD c 0 := fun c p hc hp => by
    unfold tb
    rw [dC_tl C B k c hc, bs_toList, dr_at _ _ _ _ _ _ hp]
  rw [hg, tl_append, hD]
  have hc : s < k ∨ s = k ∨ s = k + 1 := by omega
  rcases hc with h | rfl | rfl
  · rw [if_pos h]
    refine tl_bytes hsC (hsz s (by omega)) fun j hj => ?_
    have := (hf j).1 s h hs2.2
    have h2 := htb s j h hj
    unfold tb at this h2
    rw [h2, this]
  · rw [if_neg (by omega), Nat.sub_self]
    show _ = bs (enP (dC C B s))
    refine tl_bytes hsC (by rw [bs_size, e2, pp_length _ _ _ (fun j hj => hsz' j hj), hnn]) fun j hj => ?_
    have h1 := (hf j).2.1 hs2.2
    rw [bs_toList, e2, pp_at _ _ _ j hsz' (by rw [hnn]; exact hj), pb_sx, hD, sx_congr s (fun c hc => htb c j hc hj), h1]; rfl
  · rw [if_neg (by omega), Nat.add_sub_cancel_left]
    show _ = bs (enQ (dC C B k))
    refine tl_bytes hsC (by rw [bs_size, e3, qq_length _ _ _ (fun j hj => hsz' j hj), hnn]) fun j hj => ?_
    have h1 := (hf j).2.2 hs2.2
    rw [bs_toList, e3, qq_at _ _ _ j hsz' (by rw [hnn]; exact hj), qb_sx, hD, sx_congr k (fun c hc => by rw [htb c j hc hj]), h1]; rfl
theorem dec_same {B : List Bool} {T T' : List ByteArray} {e e' : Int} (h : DecR C B T e) (h' : RefR C B T' e') : T = T' ∧ e = e' := by
  cases h with
  | arg h =>
    cases h' with
    | arg _ => exact ⟨rfl, rfl⟩
    | lost a1 a2 a3 _ => exact absurd ⟨a1, a2, a3⟩ h
    | shape a1 a2 a3 _ _ => exact absurd ⟨a1, a2, a3⟩ h
    | done k a0 a1 a2 a3 _ _ => exact absurd ⟨by omega, by omega, a3⟩ h
  | lost b1 b2 b3 b4 =>
    cases h' with
    | arg h => exact absurd ⟨b1, b2, b3⟩ h
    | lost _ _ _ _ => exact ⟨rfl, rfl⟩
    | shape a1 a2 a3 a4 _ => omega
    | done k a0 a1 a2 a3 a4 _ => omega
  | shape b1 b2 b3 b4 b5 =>
    cases h' with
    | arg h => exact absurd ⟨b1, b2, b3⟩ h
    | lost _ _ _ _ => omega
    | shape _ _ _ _ _ => exact ⟨rfl, rfl⟩
    | done k a0 a1 a2 a3 a4 a5 => exact absurd a5 b5
  | done k b0 b1 b2 b3 b4 b5 X e1 b6 =>
    cases h' with
    | arg h => exact absurd ⟨by omega, by omega, b3⟩ h
    | lost _ _ _ _ => omega
    | shape _ _ _ _ a5 => exact absurd b5 a5
    | done k' a0 _ _ _ _ _ =>
      obtain rfl : k = k' := by omega
      rw [b0] at b4 b5
      obtain ⟨hE, hfit⟩ := dC_fit b1 b2 b4 b5
      exact ⟨dec_of b1 b2 b4 (dC_len C B k) hE hfit b6, rfl⟩
end Go.Proofs.Ytikgipohjoiagaa
